import Derived.Test.YtcppkjgbnhcikaaFnExactReadIndexV2
import Derived.Laws.Strings
set_option linter.unusedVariables false
set_option maxRecDepth 100000
namespace Go.Proofs.V
open Go
abbrev LI:=List Int
structure Za where
 track:Int
 time:Int
 at_:Int
 deriving DecidableEq,Inhabited
abbrev LZ:=List Za
structure Zb where
 kind:Int
 scale:Int
 name:ByteArray
 deriving DecidableEq,Inhabited
abbrev LZa:=List Zb
structure Zc where
 track:Int
 time:Int
 span:Int
 key:Bool
 data:LI
 deriving DecidableEq,Inhabited
abbrev LZb:=List Zc
structure Zd where
 tracks:LZa
 packets:LZb
 deriving DecidableEq,Inhabited
structure Ze where
 data:LI
 at_:Int
 err:Int
 box:Zd
 due:Int
 bytes:Int
 index:LZ
 deriving DecidableEq,Inhabited
structure Zf where
 ok:Bool
 value:Int
 next:Int
 deriving DecidableEq,Inhabited
structure Zg where
 b:LI
 at_:Int
 err:Int
 deriving DecidableEq,Inhabited
structure Zh where
 err:Int
 box:Zd
 lost:Int
 deriving DecidableEq,Inhabited
def rZb (x:Zb):List T:=[.lit (.int .i64 x.kind),.lit (.int .i64 x.scale),.lit (.string x.name)]
def rZc (x:Zc):List T:=[.lit (.int .i64 x.track),.lit (.int .i64 x.time),.lit (.int .i64 x.span),.lit (.bool x.key),.sl (x.data.map (rI .u8))]
def rZa (x:Za):List T:=[.lit (.int .i64 x.track),.lit (.int .i64 x.time),.lit (.int .i64 x.at_)]
noncomputable section
def m_Lg_19 (a:LI):Option (LI):=
 some a
def m_Lg_9 (p0:LI) (a:Int) (b:LI):Option ((Int×LI)⊕((LI))):=
 if (decide (a < (p0.length:Int))) then
  (rd p0 a).bind fun c=>
  (rd b a).bind fun _=>
  some (.inl ((w64 (a+1)),(b.set (0+Int.toNat a) c)))
 else
  some (.inr b)
def lp_Lg_9 (p0:LI) (s:Int×LI):Option ((Int×LI)⊕((LI))):=m_Lg_9 p0 s.1 s.2
def m_Lg_0 (p0:LI):Option (LI):=
 (ck (decide ((0:Int)≤(p0.length:Int)∧(p0.length:Int)≤(140737488355328:Int)))).bind fun _=>
 (loopM (lp_Lg_9 p0) (0,(List.replicate (Int.toNat (p0.length:Int)) (0:Int)))).bind fun e=>m_Lg_19 e
def m_Lg (p0:LI):Option (LI):=m_Lg_0 p0
def m_Sj_0 (p1:Int) (p0:Ze):Option (Ze):=
 if (p0.err == 0) then
  some (Ze.mk p0.data p0.at_ p1 p0.box p0.due p0.bytes p0.index)
 else
  some p0
def m_Sj (p0:Ze) (p1:Int):Option (Ze):=m_Sj_0 p1 p0
def m_Sr_8 (p1:Int) (b:LI) (a c d e:Int) (f:LZa) (g:LZb) (h:LZ):Option (LI×Ze):=
 if (c != 0) then
  some (([]:LI),(Ze.mk b a c (Zd.mk f g) d e h))
 else
  (ck (decide ((0:Int)≤(w64 (a+p1))∧(w64 (a+p1))≤(b.length:Int)))).bind fun _=>
  (ck (decide ((0:Int)≤(w64 ((w64 (a+p1)) - p1))∧(w64 ((w64 (a+p1)) - p1))≤((Int.toNat (w64 (a+p1))):Int)))).bind fun _=>
  some (((b.take (Int.toNat (w64 (a+p1)))).drop (Int.toNat (w64 ((w64 (a+p1)) - p1)))),(Ze.mk b (w64 (a+p1)) c (Zd.mk f g) d e h))
def m_Sr_5 (p1:Int) (p0:Ze) (b:Bool):Option (LI×Ze):=
 if b then
  (m_Sj p0 2).bind fun a=>
  m_Sr_8 p1 a.data a.at_ a.err a.due a.bytes a.box.tracks a.box.packets a.index
 else
  m_Sr_8 p1 p0.data p0.at_ p0.err p0.due p0.bytes p0.box.tracks p0.box.packets p0.index
def m_Sr_0 (p1:Int) (p0:Ze):Option (LI×Ze):=
 if (p0.err == 0) then
  m_Sr_5 p1 p0 (decide (p1 > (w64 ((p0.data.length:Int) - p0.at_))))
 else
  m_Sr_5 p1 p0 false
def m_Sr (p0:Ze) (p1:Int):Option (LI×Ze):=m_Sr_0 p1 p0
def m_Si_0 (p0:Ze):Option (Int×Ze):=
 (m_Sr p0 1).bind fun a=>
 if (a.2.err != 0) then
  some (0,a.2)
 else
  (rd a.1 0).bind fun b=>
  some ((w64 b),a.2)
def m_Si (p0:Ze):Option (Int×Ze):=m_Si_0 p0
def m_Sb_51 (p1 a b:Int) (c:Bool):Option ((Int×Int)⊕(((Unit))⊕(Zf))):=
 if c then
  some (.inr (.inr (Zf.mk false 0 0)))
 else
  some (.inr (.inr (Zf.mk true b (w64 ((w64 (p1+a))+1)))))
def m_Sb_38 (p0:LI) (p1 c a b:Int) (d:Bool):Option ((Int×Int)⊕(((Unit))⊕(Zf))):=
 if d then
  some (.inr (.inr (Zf.mk false 0 0)))
 else
  (ck (decide ((0:Int)≤(wr .u64 (w64 (7*a)))))).bind fun _=>
  if (decide (b < 128)) then
   if (b == 0) then
    m_Sb_51 p1 a (orI .u64 c (shlI .u64 (Int.tmod b 128) (wr .u64 (w64 (7*a))))) (decide (a > 0))
   else
    m_Sb_51 p1 a (orI .u64 c (shlI .u64 (Int.tmod b 128) (wr .u64 (w64 (7*a))))) false
  else
   some (.inl ((orI .u64 c (shlI .u64 (Int.tmod b 128) (wr .u64 (w64 (7*a))))),(w64 (a+1))))
def m_Sb_28 (p0:LI) (p1 c a:Int) (d:Bool):Option ((Int×Int)⊕(((Unit))⊕(Zf))):=
 if d then
  some (.inr (.inr (Zf.mk false 0 0)))
 else
  (rd p0 (w64 (p1+a))).bind fun b=>
  if (a == 9) then
   m_Sb_38 p0 p1 c a (wr .u64 b) (decide ((wr .u64 b) > 1))
  else
   m_Sb_38 p0 p1 c a (wr .u64 b) false
def m_Sb_61:Option (Zf):=
 some (Zf.mk false 0 0)
def m_Sb_17 (p0:LI) (p1 b a:Int):Option ((Int×Int)⊕(((Unit))⊕(Zf))):=
 if (decide (a < 10)) then
  if (decide (p1≥(p0.length:Int))) then
   m_Sb_28 p0 p1 b a true
  else
   m_Sb_28 p0 p1 b a (decide (a > (w64 ((w64 ((p0.length:Int) - 1)) - p1))))
 else
  some (.inr (.inl ()))
def lp_Sb_17 (p0:LI) (p1:Int) (s:Int×Int):Option ((Int×Int)⊕(((Unit))⊕(Zf))):=m_Sb_17 p0 p1 s.1 s.2
def m_Sb_0 (p0:LI) (p1:Int):Option (Zf):=
 if (decide (p1 < 0)) then
  some (Zf.mk false 0 0)
 else
  (loopM (lp_Sb_17 p0 p1) (0,0)).bind fun e=>match e with | .inl e=>m_Sb_61 | .inr e=>some e
def m_Sb (p0:LI) (p1:Int):Option (Zf):=m_Sb_0 p0 p1
def m_Sn_32 (p0:Ze) (b:Bool):Option (Int×Ze):=
 if b then
  (m_Sj p0 2).bind fun a=>
  some (0,a)
 else
  (m_Sj p0 5).bind fun a=>
  some (0,a)
def m_Sn_29 (p0:Ze) (a:Int):Option (Int×Ze):=
 if (a == (p0.data.length:Int)) then
  m_Sn_32 p0 (decide (a < (w64 (p0.at_+10))))
 else
  m_Sn_32 p0 false
def m_Sn_21 (p0:Ze) (a:Int):Option ((Int)⊕((Int))):=
 if (decide (a < (p0.data.length:Int))) then
  if (decide (a < (w64 (p0.at_+10)))) then
   (rd p0.data a).bind fun b=>
   if (decide (b≥128)) then
    some (.inl (w64 (a+1)))
   else
    some (.inr a)
  else
   some (.inr a)
 else
  some (.inr a)
def lp_Sn_21 (p0:Ze) (s:Int):Option ((Int)⊕((Int))):=m_Sn_21 p0 s
def m_Sn_0 (p0:Ze):Option (Int×Ze):=
 if (p0.err != 0) then
  some (0,p0)
 else
  (m_Sb p0.data p0.at_).bind fun a=>
  if a.ok then
   if (decide (a.value > 4611686018427387904)) then
    (m_Sj p0 5).bind fun b=>
    some (0,b)
   else
    some ((w64 a.value),(Ze.mk p0.data a.next p0.err p0.box p0.due p0.bytes p0.index))
  else
   (loopM (lp_Sn_21 p0) p0.at_).bind fun e=>m_Sn_29 p0 e
def m_Sn (p0:Ze):Option (Int×Ze):=m_Sn_0 p0
def m_Se_23:Option (Bool):=
 some true
def m_Se_7 (p0:ByteArray) (a:Int):Option ((Int)⊕((Bool)⊕((Unit)))):=
 if (decide (a < (p0.size:Int))) then
  (sat p0 a).bind fun b=>
  if (decide (b < 32)) then
   some (.inr (.inl false))
  else
   if (decide (b > 126)) then
    some (.inr (.inl false))
   else
    some (.inl (w64 (a+1)))
 else
  some (.inr (.inr ()))
def lp_Se_7 (p0:ByteArray) (s:Int):Option ((Int)⊕((Bool)⊕((Unit)))):=m_Se_7 p0 s
def m_Se_0 (p0:ByteArray):Option (Bool):=
 (loopM (lp_Se_7 p0) 0).bind fun e=>match e with | .inl e=>some e | .inr e=>m_Se_23
def m_Se (p0:ByteArray):Option (Bool):=m_Se_0 p0
def m_Sv_0 (p0:Zb):Option (Bool):=
 if (decide (p0.kind≥1)) then
  if (decide (p0.kind≤6)) then
   if (decide (p0.scale≥1)) then
    if (decide (p0.scale≤1000000)) then
     if (decide ((p0.name.size:Int)≤40)) then
      (m_Se p0.name).bind fun a=>
      some a
     else
      some false
    else
     some false
   else
    some false
  else
   some false
 else
  some false
def m_Sv (p0:Zb):Option (Bool):=m_Sv_0 p0
def m_Sx_21 (a:Int):Option (Int):=
 some a
def m_Sx_9 (p0:LI) (b a:Int):Option ((Int×Int)⊕((Int))):=
 if (decide (a < (p0.length:Int))) then
  (rd p0 a).bind fun c=>
  some (.inl ((w64 ((w64 (b*256))+(w64 c))),(w64 (a+1))))
 else
  some (.inr b)
def lp_Sx_9 (p0:LI) (s:Int×Int):Option ((Int×Int)⊕((Int))):=m_Sx_9 p0 s.1 s.2
def m_Sx_0 (p0:LI):Option (Int):=
 (loopM (lp_Sx_9 p0) (0,0)).bind fun e=>m_Sx_21 e
def m_Sx (p0:LI):Option (Int):=m_Sx_0 p0
def m_Sa_43 (p0:LI) (a b:Int):Option ((Int×Int)⊕((Int))):=
 some (.inl (b,(w64 (a+1))))
def m_Sa_25 (p0:LI) (c a b:Int):Option ((Int×Int)⊕((Int))):=
 if (decide (b < 8)) then
  if ((andI .u32 a 1) == 1) then
   some (.inl ((xorI .u32 (shrI .u32 a 1) 3988292384),(w64 (b+1))))
  else
   some (.inl ((shrI .u32 a 1),(w64 (b+1))))
 else
  some (.inr a)
def lp_Sa_25 (p0:LI) (a:Int) (s:Int×Int):Option ((Int×Int)⊕((Int))):=m_Sa_25 p0 a s.1 s.2
def m_Sa_44 (a:Int):Option (Int):=
 some (notI .u32 a)
def m_Sa_9 (p0:LI) (b a:Int):Option ((Int×Int)⊕((Int))):=
 if (decide (a < (p0.length:Int))) then
  (rd p0 a).bind fun c=>
  (loopM (lp_Sa_25 p0 a) ((xorI .u32 b (wr .u32 c)),0)).bind fun e=>m_Sa_43 p0 a e
 else
  some (.inr b)
def lp_Sa_9 (p0:LI) (s:Int×Int):Option ((Int×Int)⊕((Int))):=m_Sa_9 p0 s.1 s.2
def m_Sa_0 (p0:LI):Option (Int):=
 (loopM (lp_Sa_9 p0) (4294967295,0)).bind fun e=>m_Sa_44 e
def m_Sa (p0:LI):Option (Int):=m_Sa_0 p0
def m_Sq_6 (a:LI×Ze) (b:Bool):Option (Ze):=
 if b then
  (m_Sj a.2 3).bind fun c=>
  some c
 else
  some a.2
def m_Sq_0 (p1:Int) (p0:Ze):Option (Ze):=
 (m_Sr p0 4).bind fun a=>
 if (a.2.err == 0) then
  (m_Sx a.1).bind fun b=>
  (ck (decide ((0:Int)≤p0.at_∧p0.at_≤(a.2.data.length:Int)))).bind fun _=>
  (ck (decide ((0:Int)≤p1∧p1≤((Int.toNat p0.at_):Int)))).bind fun _=>
  (m_Sa ((a.2.data.take (Int.toNat p0.at_)).drop (Int.toNat p1))).bind fun c=>
  m_Sq_6 a ((wr .u32 b) != c)
 else
  m_Sq_6 a false
def m_Sq (p0:Ze) (p1:Int):Option (Ze):=m_Sq_0 p1 p0
def m_Sk_19 (c:Int) (a:Int×Ze) (d:LI) (e:Bool):Option ((Int×LI×Int×Int×Int×Int×LI×LZa×LZb×LZ)⊕((LI×Int×Int×Int×Int×LZa×LZb×LZ))):=
 if e then
  (m_Sj a.2 4).bind fun b=>
  some (.inl ((w64 (c+1)),b.data,b.at_,b.err,b.due,b.bytes,d,b.box.tracks,b.box.packets,b.index))
 else
  some (.inl ((w64 (c+1)),a.2.data,a.2.at_,a.2.err,a.2.due,a.2.bytes,d,a.2.box.tracks,a.2.box.packets,a.2.index))
def m_Sk_58 (m:Int×Ze) (e:Int) (a:Int×Ze) (b:Int×Ze) (c:ByteArray) (f:LI) (g h i j:Int) (d:LZa) (k:LZb) (l:LZ):Option ((Int×LI×Int×Int×Int×Int×LZa×LZb×LZ)⊕((LI×Int×Int×Int×Int×LZa×LZb×LZ))):=
 (ck (decide (d.length+([(Zb.mk a.1 b.1 c)]:LZa).length≤4398046511104))).bind fun _=>
 some (.inl ((w64 (e+1)),f,g,h,i,j,(d++([(Zb.mk a.1 b.1 c)]:LZa)),k,l))
def m_Sk_55 (c:Int×Ze) (d:Int) (a:LI×Ze) (e:Int×Ze) (f:Int×Ze) (g:ByteArray) (h:Bool):Option ((Int×LI×Int×Int×Int×Int×LZa×LZb×LZ)⊕((LI×Int×Int×Int×Int×LZa×LZb×LZ))):=
 if h then
  (m_Sj a.2 5).bind fun b=>
  m_Sk_58 c d e f g b.data b.at_ b.err b.due b.bytes b.box.tracks b.box.packets b.index
 else
  m_Sk_58 c d e f g a.2.data a.2.at_ a.2.err a.2.due a.2.bytes a.2.box.tracks a.2.box.packets a.2.index
def m_Sk_60 (a:LI) (b c d e:Int) (f:LZa) (g:LZb) (h:LZ):Option (Ze):=
 (m_Sq (Ze.mk a b c (Zd.mk f g) d e h) 0).bind fun i=>
 some i
def m_Sk_36 (e:Int×Ze) (f:Int) (g:LI) (h a i j:Int) (k:LZa) (l:LZb) (m:LZ):Option ((Int×LI×Int×Int×Int×Int×LZa×LZb×LZ)⊕((LI×Int×Int×Int×Int×LZa×LZb×LZ))):=
 if (decide (f < e.1)) then
  if (a == 0) then
   (m_Si (Ze.mk g h a (Zd.mk k l) i j m)).bind fun b=>
   (m_Sn b.2).bind fun c=>
   (m_Si c.2).bind fun o=>
   (m_Sr o.2 o.1).bind fun d=>
   (bstr d.1).bind fun n=>
   if (d.2.err == 0) then
    (m_Sv (Zb.mk b.1 c.1 n)).bind fun p=>
    m_Sk_55 e f d b c n (!p)
   else
    m_Sk_55 e f d b c n false
  else
   some (.inr (g,h,a,i,j,k,l,m))
 else
  some (.inr (g,h,a,i,j,k,l,m))
def lp_Sk_36 (a:Int×Ze) (s:Int×LI×Int×Int×Int×Int×LZa×LZb×LZ):Option ((Int×LI×Int×Int×Int×Int×LZa×LZb×LZ)⊕((LI×Int×Int×Int×Int×LZa×LZb×LZ))):=m_Sk_36 a s.1 s.2.1 s.2.2.1 s.2.2.2.1 s.2.2.2.2.1 s.2.2.2.2.2.1 s.2.2.2.2.2.2.1 s.2.2.2.2.2.2.2.1 s.2.2.2.2.2.2.2.2
def m_Sk_31 (a:Int×Ze) (b:LI) (c d f g:Int) (h:LZa) (i:LZb) (j:LZ):Option (Ze):=
 (loopM (lp_Sk_36 a) (0,b,c,d,f,g,h,i,j)).bind fun e=>m_Sk_60 e.1 e.2.1 e.2.2.1 e.2.2.2.1 e.2.2.2.2.1 e.2.2.2.2.2.1 e.2.2.2.2.2.2.1 e.2.2.2.2.2.2.2
def m_Sk_28 (a:Int×Ze) (c:Bool):Option (Ze):=
 if c then
  (m_Sj a.2 5).bind fun b=>
  m_Sk_31 a b.data b.at_ b.err b.due b.bytes b.box.tracks b.box.packets b.index
 else
  m_Sk_31 a a.2.data a.2.at_ a.2.err a.2.due a.2.bytes a.2.box.tracks a.2.box.packets a.2.index
def m_Sk_23 (b:LI) (c d e f:Int) (g:LZa) (h:LZb) (i:LZ):Option (Ze):=
 (m_Si (Ze.mk b c d (Zd.mk g h) e f i)).bind fun a=>
 if (a.2.err == 0) then
  if (decide (a.1 < 1)) then
   m_Sk_28 a true
  else
   m_Sk_28 a (decide (a.1 > 8))
 else
  m_Sk_28 a false
def m_Sk_5 (a:Int) (d:LI) (e f g h:Int) (c:LI) (i:LZa) (j:LZb) (k:LZ):Option ((Int×LI×Int×Int×Int×Int×LI×LZa×LZb×LZ)⊕((LI×Int×Int×Int×Int×LZa×LZb×LZ))):=
 if (decide (a < 4)) then
  (rd c a).bind fun l=>
  (m_Si (Ze.mk d e f (Zd.mk i j) g h k)).bind fun b=>
  if (b.2.err == 0) then
   m_Sk_19 a b c (b.1 != (w64 l))
  else
   m_Sk_19 a b c false
 else
  some (.inr (d,e,f,g,h,i,j,k))
def lp_Sk_5 (s:Int×LI×Int×Int×Int×Int×LI×LZa×LZb×LZ):Option ((Int×LI×Int×Int×Int×Int×LI×LZa×LZb×LZ)⊕((LI×Int×Int×Int×Int×LZa×LZb×LZ))):=m_Sk_5 s.1 s.2.1 s.2.2.1 s.2.2.2.1 s.2.2.2.2.1 s.2.2.2.2.2.1 s.2.2.2.2.2.2.1 s.2.2.2.2.2.2.2.1 s.2.2.2.2.2.2.2.2.1 s.2.2.2.2.2.2.2.2.2
def m_Sk_0 (p0:Ze):Option (Ze):=
 (loopM (lp_Sk_5) (0,p0.data,p0.at_,p0.err,p0.due,p0.bytes,([66,79,88,49]:LI),p0.box.tracks,p0.box.packets,p0.index)).bind fun e=>m_Sk_23 e.1 e.2.1 e.2.2.1 e.2.2.2.1 e.2.2.2.2.1 e.2.2.2.2.2.1 e.2.2.2.2.2.2.1 e.2.2.2.2.2.2.2
def m_Sk (p0:Ze):Option (Ze):=m_Sk_0 p0
def m_Sh_0:Option (LI):=
 some ([27,80,73,69,67,69,10,0]:LI)
def m_Sh:Option (LI):=m_Sh_0
def m_Sm_33 (p0:Ze):Option (Bool×Ze):=
 some (true,p0)
def m_Sm_15 (p1:LI) (p0:Ze) (a:Int):Option ((Int)⊕(((Bool×Ze))⊕((Unit)))):=
 if (decide (a < (p1.length:Int))) then
  (rd p1 a).bind fun b=>
  (rd p0.data (w64 (p0.at_+a))).bind fun c=>
  if (c != b) then
   some (.inr (.inl (false,p0)))
  else
   some (.inl (w64 (a+1)))
 else
  some (.inr (.inr ()))
def lp_Sm_15 (p1:LI) (p0:Ze) (s:Int):Option ((Int)⊕(((Bool×Ze))⊕((Unit)))):=m_Sm_15 p1 p0 s
def m_Sm_0 (p1:LI) (p0:Ze):Option (Bool×Ze):=
 if (decide ((w64 ((p0.data.length:Int) - p0.at_)) < 8)) then
  some (false,p0)
 else
  (loopM (lp_Sm_15 p1 p0) 0).bind fun e=>match e with | .inl e=>some e | .inr e=>m_Sm_33 p0
def m_Sm (p0:Ze) (p1:LI):Option (Bool×Ze):=m_Sm_0 p1 p0
def m_Su_0 (p0:Int):Option (Bool):=
 if (decide (p0≥0)) then
  some (decide (p0≤1000000000))
 else
  some false
def m_Su (p0:Int):Option (Bool):=m_Su_0 p0
def m_So_73 (p0:Ze) (r:Int×Ze) (s:Int×Ze) (h i:Int) (a:Int×Ze) (b:Int×Ze) (c:Int×Ze) (d:Int×Ze) (e:Bool) (f:LZb) (g j:LI) (k l m n:Int) (o:LZa) (p:LZb) (q:LZ):Option ((Int×Int×LI×Int×Int×Int×Int×LZb×LI×LZa×LZb×LZ)⊕((Int×LI×Int×Int×Int×Int×LZb×LI×LZa×LZb×LZ))):=
 (ck (decide (f.length+([(Zc.mk b.1 c.1 d.1 e ([]:LI))]:LZb).length≤2513169434916))).bind fun _=>
 (ck (decide (g.length+([a.1]:LI).length≤17592186044416))).bind fun _=>
 some (.inl ((w64 (h+a.1)),(w64 (i+1)),j,k,l,m,n,(f++([(Zc.mk b.1 c.1 d.1 e ([]:LI))]:LZb)),(g++([a.1]:LI)),o,p,q))
def m_So_70 (p0:Ze) (b:Int×Ze) (c:Int×Ze) (d e:Int) (f:Int×Ze) (g:LI) (h i j k:Int) (l:Int×Ze) (m:Int×Ze) (n:Int×Ze) (o:Bool) (p:LZb) (q:LI) (r:LZa) (s:LZb) (t:LZ) (u:Bool):Option ((Int×Int×LI×Int×Int×Int×Int×LZb×LI×LZa×LZb×LZ)⊕((Int×LI×Int×Int×Int×Int×LZb×LI×LZa×LZb×LZ))):=
 if u then
  (m_Sj (Ze.mk g h i (Zd.mk r s) j k t) 7).bind fun a=>
  m_So_73 p0 b c d e f l m n o p q a.data a.at_ a.err a.due a.bytes a.box.tracks a.box.packets a.index
 else
  m_So_73 p0 b c d e f l m n o p q g h i j k r s t
def m_So_67 (p0:Ze) (d:Int×Ze) (e:Int×Ze) (a f:Int) (b:Int×Ze) (g:Int×Ze) (h:Int×Ze) (i:Int×Ze) (j:Bool) (k:LZb) (l m:LI) (n c o p:Int) (q:LZa) (r:LZb) (s:LZ):Option ((Int×Int×LI×Int×Int×Int×Int×LZb×LI×LZa×LZb×LZ)⊕((Int×LI×Int×Int×Int×Int×LZb×LI×LZa×LZb×LZ))):=
 if (c == 0) then
  m_So_70 p0 d e a f b m n c o p g h i j k l q r s (decide (b.1 > (w64 (60000 - a))))
 else
  m_So_70 p0 d e a f b m n c o p g h i j k l q r s false
def m_So_64 (p0:Ze) (c:Int×Ze) (d:Int×Ze) (e f:Int) (a:Int×Ze) (g:Int×Ze) (h:Int×Ze) (i:Int×Ze) (j:LZb) (k:LI) (m l:Bool):Option ((Int×Int×LI×Int×Int×Int×Int×LZb×LI×LZa×LZb×LZ)⊕((Int×LI×Int×Int×Int×Int×LZb×LI×LZa×LZb×LZ))):=
 if m then
  (m_Sj a.2 5).bind fun b=>
  m_So_67 p0 c d e f a g h i l j k b.data b.at_ b.err b.due b.bytes b.box.tracks b.box.packets b.index
 else
  m_So_67 p0 c d e f a g h i l j k a.2.data a.2.at_ a.2.err a.2.due a.2.bytes a.2.box.tracks a.2.box.packets a.2.index
def m_So_110 (b:Int×Ze) (a:Ze) (c:LZb) (d:Int):Option (Int×LZb×Ze):=
 some (b.1,c,(Ze.mk a.data a.at_ a.err a.box a.due d a.index))
def m_So_102 (p0:Ze) (b:Int×Ze) (d:Int) (e:LI) (f g h i:Int) (c:LZb) (j:LZa) (k:LZb) (l:LZ):Option (Int×LZb×Ze):=
 (m_Sq (Ze.mk e f g (Zd.mk j k) h i l) p0.at_).bind fun a=>
 if (a.err == 0) then
  m_So_110 b a c d
 else
  m_So_110 b a c a.bytes
def m_So_84 (p0:Ze) (p:Int×Ze) (q:Int) (m:LZb) (n:LI) (c:Int) (e:LI) (f g h i:Int) (d:LZb) (j:LZa) (k:LZb) (l:LZ):Option ((Int×LI×Int×Int×Int×Int×LZb×LZa×LZb×LZ)⊕((LI×Int×Int×Int×Int×LZb×LZa×LZb×LZ))):=
 if (decide (c < (m.length:Int))) then
  (rd d c).bind fun b=>
  (rd n c).bind fun o=>
  (m_Sr (Ze.mk e f g (Zd.mk j k) h i l) o).bind fun a=>
  (ck (decide (b.data.length+a.1.length≤140737488355328))).bind fun _=>
  if (a.2.err != 0) then
   some (.inr (a.2.data,a.2.at_,a.2.err,a.2.due,a.2.bytes,(d.set (0+Int.toNat c) (Zc.mk b.track b.time b.span b.key (b.data++a.1))),a.2.box.tracks,a.2.box.packets,a.2.index))
  else
   some (.inl ((w64 (c+1)),a.2.data,a.2.at_,a.2.err,a.2.due,a.2.bytes,(d.set (0+Int.toNat c) (Zc.mk b.track b.time b.span b.key (b.data++a.1))),a.2.box.tracks,a.2.box.packets,a.2.index))
 else
  some (.inr (e,f,g,h,i,d,j,k,l))
def lp_So_84 (p0:Ze) (a:Int×Ze) (b:Int) (c:LZb) (d:LI) (s:Int×LI×Int×Int×Int×Int×LZb×LZa×LZb×LZ):Option ((Int×LI×Int×Int×Int×Int×LZb×LZa×LZb×LZ)⊕((LI×Int×Int×Int×Int×LZb×LZa×LZb×LZ))):=m_So_84 p0 a b c d s.1 s.2.1 s.2.2.1 s.2.2.2.1 s.2.2.2.2.1 s.2.2.2.2.2.1 s.2.2.2.2.2.2.1 s.2.2.2.2.2.2.2.1 s.2.2.2.2.2.2.2.2.1 s.2.2.2.2.2.2.2.2.2
def m_So_79 (p0:Ze) (a:Int×Ze) (b:Int) (d:LI) (f g h i:Int) (c:LZb) (j:LI) (k:LZa) (l:LZb) (m:LZ):Option (Int×LZb×Ze):=
 (loopM (lp_So_84 p0 a b c j) (0,d,f,g,h,i,c,k,l,m)).bind fun e=>m_So_102 p0 a b e.1 e.2.1 e.2.2.1 e.2.2.2.1 e.2.2.2.2.1 e.2.2.2.2.2.1 e.2.2.2.2.2.2.1 e.2.2.2.2.2.2.2.1 e.2.2.2.2.2.2.2.2
def m_So_39 (p0:Ze) (k:Int×Ze) (i:Int×Ze) (a j:Int) (m:LI) (n l o p:Int) (b:LZb) (c:LI) (q:LZa) (r:LZb) (s:LZ):Option ((Int×Int×LI×Int×Int×Int×Int×LZb×LI×LZa×LZb×LZ)⊕((Int×LI×Int×Int×Int×Int×LZb×LI×LZa×LZb×LZ))):=
 if (decide (j < i.1)) then
  if (l == 0) then
   (m_Sn (Ze.mk m n l (Zd.mk q r) o p s)).bind fun d=>
   (m_Sn d.2).bind fun e=>
   (m_Sn e.2).bind fun f=>
   (m_Sn f.2).bind fun g=>
   (m_Sn g.2).bind fun h=>
   if (h.2.err == 0) then
    if (decide (d.1≥(h.2.box.tracks.length:Int))) then
     m_So_64 p0 k i a j h d e f b c true (g.1 == 1)
    else
     (m_Su e.1).bind fun t=>
     if t then
      (m_Su f.1).bind fun u=>
      if u then
       m_So_64 p0 k i a j h d e f b c (decide (g.1 > 1)) (g.1 == 1)
      else
       m_So_64 p0 k i a j h d e f b c true (g.1 == 1)
     else
      m_So_64 p0 k i a j h d e f b c true (g.1 == 1)
   else
    m_So_64 p0 k i a j h d e f b c false (g.1 == 1)
  else
   some (.inr (a,m,n,l,o,p,b,c,q,r,s))
 else
  some (.inr (a,m,n,l,o,p,b,c,q,r,s))
def lp_So_39 (p0:Ze) (a:Int×Ze) (b:Int×Ze) (s:Int×Int×LI×Int×Int×Int×Int×LZb×LI×LZa×LZb×LZ):Option ((Int×Int×LI×Int×Int×Int×Int×LZb×LI×LZa×LZb×LZ)⊕((Int×LI×Int×Int×Int×Int×LZb×LI×LZa×LZb×LZ))):=m_So_39 p0 a b s.1 s.2.1 s.2.2.1 s.2.2.2.1 s.2.2.2.2.1 s.2.2.2.2.2.1 s.2.2.2.2.2.2.1 s.2.2.2.2.2.2.2.1 s.2.2.2.2.2.2.2.2.1 s.2.2.2.2.2.2.2.2.2.1 s.2.2.2.2.2.2.2.2.2.2.1 s.2.2.2.2.2.2.2.2.2.2.2
def m_So_28 (p0:Ze) (a:Int×Ze) (c:Int×Ze) (d:LI) (f g h b:Int) (i:LZa) (j:LZb) (k:LZ):Option (Int×LZb×Ze):=
 (loopM (lp_So_39 p0 a c) (b,0,d,f,g,h,b,([]:LZb),([]:LI),i,j,k)).bind fun e=>m_So_79 p0 a e.1 e.2.1 e.2.2.1 e.2.2.2.1 e.2.2.2.2.1 e.2.2.2.2.2.1 e.2.2.2.2.2.2.1 e.2.2.2.2.2.2.2.1 e.2.2.2.2.2.2.2.2.1 e.2.2.2.2.2.2.2.2.2.1 e.2.2.2.2.2.2.2.2.2.2
def m_So_25 (p0:Ze) (b:Int×Ze) (c:Int×Ze) (d:LI) (e f g h:Int) (i:LZa) (j:LZb) (k:LZ) (l:Bool):Option (Int×LZb×Ze):=
 if l then
  (m_Sj (Ze.mk d e f (Zd.mk i j) g h k) 7).bind fun a=>
  m_So_28 p0 b c a.data a.at_ a.err a.due a.bytes a.box.tracks a.box.packets a.index
 else
  m_So_28 p0 b c d e f g h i j k
def m_So_22 (p0:Ze) (d:Int×Ze) (a:Int×Ze) (e:LI) (f b g h:Int) (i:LZa) (c:LZb) (j:LZ):Option (Int×LZb×Ze):=
 if (b == 0) then
  m_So_25 p0 d a e f b g h i c j (decide ((w64 ((c.length:Int)+a.1)) > 400))
 else
  m_So_25 p0 d a e f b g h i c j false
def m_So_19 (p0:Ze) (c:Int×Ze) (a:Int×Ze) (d:Bool):Option (Int×LZb×Ze):=
 if d then
  (m_Sj a.2 5).bind fun b=>
  m_So_22 p0 c a b.data b.at_ b.err b.due b.bytes b.box.tracks b.box.packets b.index
 else
  m_So_22 p0 c a a.2.data a.2.at_ a.2.err a.2.due a.2.bytes a.2.box.tracks a.2.box.packets a.2.index
def m_So_14 (p0:Ze) (b:Int×Ze) (c:LI) (d e f g:Int) (h:LZa) (i:LZb) (j:LZ):Option (Int×LZb×Ze):=
 (m_Sn (Ze.mk c d e (Zd.mk h i) f g j)).bind fun a=>
 if (a.2.err == 0) then
  if (decide (a.1 < 1)) then
   m_So_19 p0 b a true
  else
   m_So_19 p0 b a (decide (a.1 > 100))
 else
  m_So_19 p0 b a false
def m_So_11 (p0:Ze) (a:Int×Ze) (c:Bool):Option (Int×LZb×Ze):=
 if c then
  (m_Sj a.2 6).bind fun b=>
  m_So_14 p0 a b.data b.at_ b.err b.due b.bytes b.box.tracks b.box.packets b.index
 else
  m_So_14 p0 a a.2.data a.2.at_ a.2.err a.2.due a.2.bytes a.2.box.tracks a.2.box.packets a.2.index
def m_So_0 (p1:Int) (p0:Ze):Option (Int×LZb×Ze):=
 (m_Sn (Ze.mk p0.data (w64 (p0.at_+8)) p0.err p0.box p0.due p0.bytes p0.index)).bind fun a=>
 if (a.2.err == 0) then
  if (decide (p1≥0)) then
   m_So_11 p0 a (a.1 != p1)
  else
   m_So_11 p0 a false
 else
  m_So_11 p0 a false
def m_So (p0:Ze) (p1:Int):Option (Int×LZb×Ze):=m_So_0 p1 p0
def m_Sp_42 (a:Int×LZb×Ze) (b:Int) (c:LZ):Option ((LI×Int×Int×Int×Int×LZa×LZb×LZ)⊕(Ze)):=
 (ck (decide (a.2.2.box.packets.length+a.2.1.length≤2513169434916))).bind fun _=>
 some (.inl (a.2.2.data,a.2.2.at_,a.2.2.err,b,a.2.2.bytes,a.2.2.box.tracks,(a.2.2.box.packets++a.2.1),c))
def m_Sp_26 (e:Bool×Ze) (f:Int×LZb×Ze) (b d:Int) (c:LZ):Option ((Int×Int×LZ)⊕((Int×LZ))):=
 if (decide (b < (f.2.1.length:Int))) then
  (rd f.2.1 b).bind fun a=>
  if a.key then
   (ck (decide (c.length+([(Za.mk a.track a.time e.2.at_)]:LZ).length≤5864062014805))).bind fun _=>
   some (.inl ((w64 (b+1)),d,(c++([(Za.mk a.track a.time e.2.at_)]:LZ))))
  else
   some (.inl ((w64 (b+1)),d,c))
 else
  some (.inr (d,c))
def lp_Sp_26 (a:Bool×Ze) (b:Int×LZb×Ze) (s:Int×Int×LZ):Option ((Int×Int×LZ)⊕((Int×LZ))):=m_Sp_26 a b s.1 s.2.1 s.2.2
def m_Sp_2 (d:LI) (f c g h:Int) (i:LZa) (j:LZb) (k:LZ):Option ((LI×Int×Int×Int×Int×LZa×LZb×LZ)⊕(Ze)):=
 if (c == 0) then
  (m_Sh).bind fun l=>
  (m_Sm (Ze.mk d f c (Zd.mk i j) g h k) l).bind fun b=>
  if b.1 then
   (m_So b.2 b.2.due).bind fun a=>
   if (a.2.2.err != 0) then
    some (.inr a.2.2)
   else
    (loopM (lp_Sp_26 b a) (0,(w64 (a.2.2.due+1)),a.2.2.index)).bind fun e=>m_Sp_42 a e.1 e.2
  else
   some (.inr b.2)
 else
  some (.inr (Ze.mk d f c (Zd.mk i j) g h k))
def lp_Sp_2 (s:LI×Int×Int×Int×Int×LZa×LZb×LZ):Option ((LI×Int×Int×Int×Int×LZa×LZb×LZ)⊕(Ze)):=m_Sp_2 s.1 s.2.1 s.2.2.1 s.2.2.2.1 s.2.2.2.2.1 s.2.2.2.2.2.1 s.2.2.2.2.2.2.1 s.2.2.2.2.2.2.2
def m_Sp_0 (p0:Ze):Option (Ze):=
 (loopM (lp_Sp_2) (p0.data,p0.at_,p0.err,p0.due,p0.bytes,p0.box.tracks,p0.box.packets,p0.index)).bind fun e=>some e
def m_Sp (p0:Ze):Option (Ze):=m_Sp_0 p0
def m_Sg_0:Option (LI):=
 some ([27,73,78,68,69,88,10,0]:LI)
def m_Sg:Option (LI):=m_Sg_0
def m_Sw_25 (p0:LZa):Option (Bool):=
 if (decide ((p0.length:Int)≥1)) then
  some (decide ((p0.length:Int)≤8))
 else
  some false
def m_Sw_7 (p0:LZa) (a:Int):Option ((Int)⊕((Bool)⊕((Unit)))):=
 if (decide (a < (p0.length:Int))) then
  (rd p0 a).bind fun b=>
  (m_Sv b).bind fun c=>
  if c then
   some (.inl (w64 (a+1)))
  else
   some (.inr (.inl false))
 else
  some (.inr (.inr ()))
def lp_Sw_7 (p0:LZa) (s:Int):Option ((Int)⊕((Bool)⊕((Unit)))):=m_Sw_7 p0 s
def m_Sw_0 (p0:LZa):Option (Bool):=
 (loopM (lp_Sw_7 p0) 0).bind fun e=>match e with | .inl e=>some e | .inr e=>m_Sw_25 p0
def m_Sw (p0:LZa):Option (Bool):=m_Sw_0 p0
def m_St_62 (b:Int) (p0:Zd) (d:Int) (a:Zc) (c:LI):Option ((Int×Int×LI)⊕((Bool)⊕((Unit)))):=
 (rd c a.track).bind fun _=>
 if (decide ((w64 (b+(a.data.length:Int))) > 60000)) then
  some (.inr (.inl false))
 else
  some (.inl ((w64 (b+(a.data.length:Int))),(w64 (d+1)),(c.set (0+Int.toNat a.track) a.time)))
def m_St_74:Option (Bool):=
 some true
def m_St_36 (p0:Zd) (d b:Int) (c:LI):Option ((Int×Int×LI)⊕((Bool)⊕((Unit)))):=
 if (decide (b < (p0.packets.length:Int))) then
  (rd p0.packets b).bind fun a=>
  if (decide (a.track < 0)) then
   some (.inr (.inl false))
  else
   if (decide (a.track≥(p0.tracks.length:Int))) then
    some (.inr (.inl false))
   else
    (m_Su a.time).bind fun f=>
    if f then
     (m_Su a.span).bind fun g=>
     if g then
      (rd c a.track).bind fun e=>
      if (decide (a.time < e)) then
       some (.inr (.inl false))
      else
       if (decide (e < 0)) then
        if a.key then
         m_St_62 d p0 b a c
        else
         some (.inr (.inl false))
       else
        m_St_62 d p0 b a c
     else
      some (.inr (.inl false))
    else
     some (.inr (.inl false))
 else
  some (.inr (.inr ()))
def lp_St_36 (p0:Zd) (s:Int×Int×LI):Option ((Int×Int×LI)⊕((Bool)⊕((Unit)))):=m_St_36 p0 s.1 s.2.1 s.2.2
def m_St_29 (p0:Zd) (a:LI):Option (Bool):=
 (loopM (lp_St_36 p0) (0,0,a)).bind fun e=>match e with | .inl e=>some e | .inr e=>m_St_74
def m_St_17 (p0:Zd) (c a:Int) (b:LI):Option ((Int×Int×LI)⊕((LI))):=
 if (decide (a < c)) then
  (rd b a).bind fun _=>
  some (.inl (c,(w64 (a+1)),(b.set (0+Int.toNat a) (-1))))
 else
  some (.inr b)
def lp_St_17 (p0:Zd) (s:Int×Int×LI):Option ((Int×Int×LI)⊕((LI))):=m_St_17 p0 s.1 s.2.1 s.2.2
def m_St_0 (p0:Zd):Option (Bool):=
 (m_Sw p0.tracks).bind fun a=>
 if a then
  if (decide ((p0.packets.length:Int) > 400)) then
   some false
  else
   (ck (decide ((0:Int)≤(p0.tracks.length:Int)∧(p0.tracks.length:Int)≤(17592186044416:Int)))).bind fun _=>
   (loopM (lp_St_17 p0) (((Int.toNat (p0.tracks.length:Int)):Int),0,(List.replicate (Int.toNat (p0.tracks.length:Int)) (0:Int)))).bind fun e=>m_St_29 p0 e
 else
  some false
def m_St (p0:Zd):Option (Bool):=m_St_0 p0
def m_Sf_0 (p0:Zd) (p1 p2:Int):Option (Bool):=
 (rd p0.packets p1).bind fun a=>
 (rd p0.packets p2).bind fun b=>
 (rd p0.tracks b.track).bind fun c=>
 (rd p0.tracks a.track).bind fun d=>
 if ((w64 (a.time*c.scale)) != (w64 (b.time*d.scale))) then
  some (decide ((w64 (a.time*c.scale)) < (w64 (b.time*d.scale))))
 else
  if (a.track != b.track) then
   some (decide (a.track < b.track))
  else
   some (decide (p1 < p2))
def m_Sf (p0:Zd) (p1 p2:Int):Option (Bool):=m_Sf_0 p0 p1 p2
def m_Sc_31:Option (Bool):=
 some true
def m_Sc_15 (p0:Zd) (a:Int):Option ((Int)⊕((Bool)⊕((Unit)))):=
 if (decide (a < (p0.packets.length:Int))) then
  (m_Sf p0 (w64 (a - 1)) a).bind fun b=>
  if b then
   some (.inl (w64 (a+1)))
  else
   some (.inr (.inl false))
 else
  some (.inr (.inr ()))
def lp_Sc_15 (p0:Zd) (s:Int):Option ((Int)⊕((Bool)⊕((Unit)))):=m_Sc_15 p0 s
def m_Sc_0 (p0:Zd):Option (Bool):=
 (m_St p0).bind fun a=>
 if a then
  (loopM (lp_Sc_15 p0) 1).bind fun e=>match e with | .inl e=>some e | .inr e=>m_Sc_31
 else
  some false
def m_Sc (p0:Zd):Option (Bool):=m_Sc_0 p0
def m_Sl_73 (a:LI) (b c d e:Int) (f:LZa) (g:LZb) (h:LZ) (i:Bool):Option (Ze):=
 if i then
  (m_Sj (Ze.mk a b c (Zd.mk f g) d e h) 6).bind fun j=>
  some j
 else
  some (Ze.mk a b c (Zd.mk f g) d e h)
def m_Sl_71 (d:LI) (e a f g:Int) (b:LZa) (c:LZb) (h:LZ):Option (Ze):=
 if (a == 0) then
  (m_Sc (Zd.mk b c)).bind fun i=>
  m_Sl_73 d e a f g b c h (!i)
 else
  m_Sl_73 d e a f g b c h false
def m_Sl_68 (b:LI) (c d e f:Int) (g:LZa) (h:LZb) (i:LZ) (j:Bool):Option (Ze):=
 if j then
  (m_Sj (Ze.mk b c d (Zd.mk g h) e f i) 8).bind fun a=>
  m_Sl_71 a.data a.at_ a.err a.due a.bytes a.box.tracks a.box.packets a.index
 else
  m_Sl_71 b c d e f g h i
def m_Sl_65 (a:LI) (b c d e:Int) (f:LZa) (g:LZb) (h:LZ):Option (Ze):=
 if (c == 0) then
  m_Sl_68 a b c d e f g h (decide (b < (a.length:Int)))
 else
  m_Sl_68 a b c d e f g h false
def m_Sl_62 (a:Ze) (c:Bool):Option (Ze):=
 if c then
  (m_Sj a 5).bind fun b=>
  m_Sl_65 b.data b.at_ b.err b.due b.bytes b.box.tracks b.box.packets b.index
 else
  m_Sl_65 a.data a.at_ a.err a.due a.bytes a.box.tracks a.box.packets a.index
def m_Sl_55 (b:Int) (d:Bool) (e:LI) (f g h i:Int) (j:LZa) (k:LZb) (l:LZ):Option (Ze):=
 (m_Sn (Ze.mk e f g (Zd.mk j k) h i l)).bind fun c=>
 (m_Sq c.2 b).bind fun a=>
 if (a.err == 0) then
  if d then
   m_Sl_62 a (c.1 != b)
  else
   m_Sl_62 a true
 else
  m_Sl_62 a false
def m_Sl_37 (p:Int) (o:Int×Ze) (d:Bool) (b:Int) (e:LI) (f c g h:Int) (i:LZa) (j:LZb) (k:LZ):Option ((Bool×Int×LI×Int×Int×Int×Int×LZa×LZb×LZ)⊕((Bool×LI×Int×Int×Int×Int×LZa×LZb×LZ))):=
 if (decide (b < o.1)) then
  if (c == 0) then
   (m_Sn (Ze.mk e f c (Zd.mk i j) g h k)).bind fun m=>
   (m_Sn m.2).bind fun n=>
   (m_Sn n.2).bind fun a=>
   if d then
    if (decide (b < (a.2.index.length:Int))) then
     (rd a.2.index b).bind fun l=>
     some (.inl (((l.track == m.1)&&((l.time == n.1)&&((l.at_ == a.1)&&true))),(w64 (b+1)),a.2.data,a.2.at_,a.2.err,a.2.due,a.2.bytes,a.2.box.tracks,a.2.box.packets,a.2.index))
    else
     some (.inl (false,(w64 (b+1)),a.2.data,a.2.at_,a.2.err,a.2.due,a.2.bytes,a.2.box.tracks,a.2.box.packets,a.2.index))
   else
    some (.inl (false,(w64 (b+1)),a.2.data,a.2.at_,a.2.err,a.2.due,a.2.bytes,a.2.box.tracks,a.2.box.packets,a.2.index))
  else
   some (.inr (d,e,f,c,g,h,i,j,k))
 else
  some (.inr (d,e,f,c,g,h,i,j,k))
def lp_Sl_37 (a:Int) (b:Int×Ze) (s:Bool×Int×LI×Int×Int×Int×Int×LZa×LZb×LZ):Option ((Bool×Int×LI×Int×Int×Int×Int×LZa×LZb×LZ)⊕((Bool×LI×Int×Int×Int×Int×LZa×LZb×LZ))):=m_Sl_37 a b s.1 s.2.1 s.2.2.1 s.2.2.2.1 s.2.2.2.2.1 s.2.2.2.2.2.1 s.2.2.2.2.2.2.1 s.2.2.2.2.2.2.2.1 s.2.2.2.2.2.2.2.2.1 s.2.2.2.2.2.2.2.2.2
def m_Sl_30 (a:Int) (b:Int×Ze) (d:LI) (f g h i:Int) (j:LZa) (k:LZb) (c:LZ):Option (Ze):=
 (loopM (lp_Sl_37 a b) ((b.1 == (c.length:Int)),0,d,f,g,h,i,j,k,c)).bind fun e=>m_Sl_55 a e.1 e.2.1 e.2.2.1 e.2.2.2.1 e.2.2.2.2.1 e.2.2.2.2.2.1 e.2.2.2.2.2.2.1 e.2.2.2.2.2.2.2.1 e.2.2.2.2.2.2.2.2
def m_Sl_27 (c:Int) (a:Int×Ze) (d:Bool):Option (Ze):=
 if d then
  (m_Sj a.2 5).bind fun b=>
  m_Sl_30 c a b.data b.at_ b.err b.due b.bytes b.box.tracks b.box.packets b.index
 else
  m_Sl_30 c a a.2.data a.2.at_ a.2.err a.2.due a.2.bytes a.2.box.tracks a.2.box.packets a.2.index
def m_Sl_12 (d:LI) (a c e f:Int) (g:LZa) (h:LZb) (i:LZ):Option (Ze):=
 if (c != 0) then
  some (Ze.mk d a c (Zd.mk g h) e f i)
 else
  (m_Sn (Ze.mk d (w64 (a+8)) c (Zd.mk g h) e f i)).bind fun b=>
  if (b.2.err == 0) then
   m_Sl_27 a b (decide (b.1 > 400))
  else
   m_Sl_27 a b false
def m_Sl_9 (j:Bool) (b:LI) (c d e f:Int) (g:LZa) (h:LZb) (i:LZ):Option (Ze):=
 if j then
  (m_Sj (Ze.mk b c d (Zd.mk g h) e f i) 4).bind fun a=>
  m_Sl_12 a.data a.at_ a.err a.due a.bytes a.box.tracks a.box.packets a.index
 else
  m_Sl_12 b c d e f g h i
def m_Sl_6 (c:LI) (d b e f:Int) (g:LZa) (h:LZb) (i:LZ):Option (Ze):=
 if (b == 0) then
  (m_Sg).bind fun j=>
  (m_Sm (Ze.mk c d b (Zd.mk g h) e f i) j).bind fun a=>
  m_Sl_9 (!a.1) a.2.data a.2.at_ a.2.err a.2.due a.2.bytes a.2.box.tracks a.2.box.packets a.2.index
 else
  m_Sl_9 false c d b e f g h i
def m_Sl_3 (p0:Ze) (b:Bool):Option (Ze):=
 if b then
  (m_Sj p0 2).bind fun a=>
  m_Sl_6 a.data a.at_ a.err a.due a.bytes a.box.tracks a.box.packets a.index
 else
  m_Sl_6 p0.data p0.at_ p0.err p0.due p0.bytes p0.box.tracks p0.box.packets p0.index
def m_Sl_0 (p0:Ze):Option (Ze):=
 if (p0.err == 0) then
  m_Sl_3 p0 (decide ((w64 ((p0.data.length:Int) - p0.at_)) < 8))
 else
  m_Sl_3 p0 false
def m_Sl (p0:Ze):Option (Ze):=m_Sl_0 p0
def m_Ss_0 (p0:LI):Option (Ze):=
 if (decide ((p0.length:Int) > 120000)) then
  some (Ze.mk p0 0 1 (Zd.mk ([]:LZa) ([]:LZb)) 0 0 ([]:LZ))
 else
  (m_Sk (Ze.mk p0 0 0 (Zd.mk ([]:LZa) ([]:LZb)) 0 0 ([]:LZ))).bind fun a=>
  (m_Sp a).bind fun b=>
  (m_Sl b).bind fun c=>
  some c
def m_Ss (p0:LI):Option (Ze):=m_Ss_0 p0
def m_Sd_0 (p0:LI):Option (LZ):=
 (m_Ss p0).bind fun a=>
 if (a.err != 0) then
  some ([]:LZ)
 else
  some a.index
def m_Sd (p0:LI):Option (LZ):=m_Sd_0 p0
def m_Im_0 (p1:Int) (p0:Zg):Option (Zg):=
 if (p0.err == 0) then
  some (Zg.mk p0.b p0.at_ p1)
 else
  some p0
def m_Im (p0:Zg) (p1:Int):Option (Zg):=m_Im_0 p1 p0
def m_Ii_33:Option (Int):=
 some 0
def m_Ii_7 (p0:LI) (p1:ByteArray) (a:Int):Option ((Int)⊕((Int)⊕((Unit)))):=
 if (decide (a < (p1.size:Int))) then
  if (decide (a≥(p0.length:Int))) then
   some (.inr (.inl 2))
  else
   (rd p0 a).bind fun b=>
   (sat p1 a).bind fun c=>
   if (b != c) then
    some (.inr (.inl 4))
   else
    some (.inl (w64 (a+1)))
 else
  some (.inr (.inr ()))
def lp_Ii_7 (p0:LI) (p1:ByteArray) (s:Int):Option ((Int)⊕((Int)⊕((Unit)))):=m_Ii_7 p0 p1 s
def m_Ii_0 (p0:LI) (p1:ByteArray):Option (Int):=
 (loopM (lp_Ii_7 p0 p1) 0).bind fun e=>match e with | .inl e=>some e | .inr e=>m_Ii_33
def m_Ii (p0:LI) (p1:ByteArray):Option (Int):=m_Ii_0 p0 p1
def m_Il_5 (p1:Int) (p0:Zg) (a:Bool):Option (LI×Zg):=
 if a then
  (m_Im p0 2).bind fun c=>
  some (([]:LI),c)
 else
  (ck (decide ((0:Int)≤(w64 (p0.at_+p1))∧(w64 (p0.at_+p1))≤(p0.b.length:Int)))).bind fun _=>
  (ck (decide ((0:Int)≤p0.at_∧p0.at_≤((Int.toNat (w64 (p0.at_+p1))):Int)))).bind fun _=>
  some (((p0.b.take (Int.toNat (w64 (p0.at_+p1)))).drop (Int.toNat p0.at_)),(Zg.mk p0.b (w64 (p0.at_+p1)) p0.err))
def m_Il_0 (p1:Int) (p0:Zg):Option (LI×Zg):=
 if (p0.err != 0) then
  m_Il_5 p1 p0 true
 else
  m_Il_5 p1 p0 (decide (p1 > (w64 ((p0.b.length:Int) - p0.at_))))
def m_Il (p0:Zg) (p1:Int):Option (LI×Zg):=m_Il_0 p1 p0
def m_Ik_0 (p0:Zg):Option (Int×Zg):=
 (m_Il p0 1).bind fun a=>
 if ((a.1.length:Int) == 1) then
  (rd a.1 0).bind fun b=>
  some ((w64 b),a.2)
 else
  some (0,a.2)
def m_Ik (p0:Zg):Option (Int×Zg):=m_Ik_0 p0
def m_Ib_49:Option (Zf):=
 some (Zf.mk false 0 0)
def m_Ib_44 (p1 a b:Int):Option ((Int×Int)⊕(((Unit))⊕(Zf))):=
 some (.inr (.inr (Zf.mk true b (w64 ((w64 (p1+a))+1)))))
def m_Ib_33 (p0:LI) (p1 c a b:Int):Option ((Int×Int)⊕(((Unit))⊕(Zf))):=
 (ck (decide ((0:Int)≤(w64 (7*a))))).bind fun _=>
 if (decide (b < 128)) then
  if (b == 0) then
   if (decide (a > 0)) then
    some (.inr (.inl ()))
   else
    m_Ib_44 p1 a (orI .u64 c (shlI .u64 (wr .u64 (andI .u8 b 127)) (w64 (7*a))))
  else
   m_Ib_44 p1 a (orI .u64 c (shlI .u64 (wr .u64 (andI .u8 b 127)) (w64 (7*a))))
 else
  some (.inl ((orI .u64 c (shlI .u64 (wr .u64 (andI .u8 b 127)) (w64 (7*a)))),(w64 (a+1))))
def m_Ib_17 (p0:LI) (p1 c a:Int):Option ((Int×Int)⊕(((Unit))⊕(Zf))):=
 if (decide (a < 10)) then
  if (decide ((w64 (p1+a)) < (p0.length:Int))) then
   (rd p0 (w64 (p1+a))).bind fun b=>
   if (a == 9) then
    if (decide (b > 1)) then
     some (.inr (.inl ()))
    else
     m_Ib_33 p0 p1 c a b
   else
    m_Ib_33 p0 p1 c a b
  else
   some (.inr (.inl ()))
 else
  some (.inr (.inl ()))
def lp_Ib_17 (p0:LI) (p1:Int) (s:Int×Int):Option ((Int×Int)⊕(((Unit))⊕(Zf))):=m_Ib_17 p0 p1 s.1 s.2
def m_Ib_5 (p0:LI) (p1:Int) (a:Bool):Option (Zf):=
 if a then
  some (Zf.mk false 0 0)
 else
  (loopM (lp_Ib_17 p0 p1) (0,0)).bind fun e=>match e with | .inl e=>m_Ib_49 | .inr e=>some e
def m_Ib_0 (p0:LI) (p1:Int):Option (Zf):=
 if (decide (p1 < 0)) then
  m_Ib_5 p0 p1 true
 else
  m_Ib_5 p0 p1 (decide (p1 > (p0.length:Int)))
def m_Ib (p0:LI) (p1:Int):Option (Zf):=m_Ib_0 p0 p1
def m_Io_41 (a:LI) (b c:Int):Option (Int×Zg):=
 (m_Im (Zg.mk a b c) 2).bind fun d=>
 some (0,d)
def m_Io_35 (a:LI) (c e:Int):Option (Int×Zg):=
 if (decide ((w64 (c+10))≤(a.length:Int))) then
  (m_Im (Zg.mk a c e) 5).bind fun d=>
  m_Io_41 d.b d.at_ d.err
 else
  m_Io_41 a c e
def m_Io_21 (c:Int) (a:LI) (d e:Int):Option ((Int×LI×Int×Int)⊕((LI×Int×Int))):=
 if (decide (c < (a.length:Int))) then
  if (decide (c < (w64 (d+10)))) then
   (rd a c).bind fun g=>
   if (decide (g < 128)) then
    (m_Im (Zg.mk a d e) 5).bind fun f=>
    some (.inl ((w64 (c+1)),f.b,f.at_,f.err))
   else
    some (.inl ((w64 (c+1)),a,d,e))
  else
   some (.inr (a,d,e))
 else
  some (.inr (a,d,e))
def lp_Io_21 (s:Int×LI×Int×Int):Option ((Int×LI×Int×Int)⊕((LI×Int×Int))):=m_Io_21 s.1 s.2.1 s.2.2.1 s.2.2.2
def m_Io_0 (p0:Zg):Option (Int×Zg):=
 if (p0.err != 0) then
  some (0,p0)
 else
  (m_Ib p0.b p0.at_).bind fun a=>
  if a.ok then
   if (decide (a.value > 4611686018427387904)) then
    (m_Im p0 5).bind fun c=>
    some (0,c)
   else
    some ((w64 a.value),(Zg.mk p0.b a.next p0.err))
  else
   (loopM (lp_Io_21) (p0.at_,p0.b,p0.at_,p0.err)).bind fun e=>m_Io_35 e.1 e.2.1 e.2.2
def m_Io (p0:Zg):Option (Int×Zg):=m_Io_0 p0
def m_It_33:Option (Bool):=
 some true
def m_It_15 (p0:Zb) (a:Int):Option ((Int)⊕((Bool)⊕((Unit)))):=
 if (decide (a < (p0.name.size:Int))) then
  (sat p0.name a).bind fun b=>
  if (decide (b < 32)) then
   some (.inr (.inl false))
  else
   if (decide (b > 126)) then
    some (.inr (.inl false))
   else
    some (.inl (w64 (a+1)))
 else
  some (.inr (.inr ()))
def lp_It_15 (p0:Zb) (s:Int):Option ((Int)⊕((Bool)⊕((Unit)))):=m_It_15 p0 s
def m_It_0 (p0:Zb):Option (Bool):=
 if (decide (p0.kind < 1)) then
  some false
 else
  if (decide (p0.kind > 6)) then
   some false
  else
   if (decide (p0.scale < 1)) then
    some false
   else
    if (decide (p0.scale > 1000000)) then
     some false
    else
     if (decide ((p0.name.size:Int) > 40)) then
      some false
     else
      (loopM (lp_It_15 p0) 0).bind fun e=>match e with | .inl e=>some e | .inr e=>m_It_33
def m_It (p0:Zb):Option (Bool):=m_It_0 p0
def m_Ih_0 (p0:LI):Option (Int):=
 (rd p0 0).bind fun a=>
 (rd p0 1).bind fun b=>
 (rd p0 2).bind fun c=>
 (rd p0 3).bind fun d=>
 some (orI .i64 (orI .i64 (orI .i64 (shlI .i64 (w64 a) 24) (shlI .i64 (w64 b) 16)) (shlI .i64 (w64 c) 8)) (w64 d))
def m_Ih (p0:LI):Option (Int):=m_Ih_0 p0
def m_Ia_35 (p0:LI) (a b:Int):Option ((Int×Int)⊕((Int))):=
 some (.inl (b,(w64 (a+1))))
def m_Ia_25 (p0:LI) (c a b:Int):Option ((Int×Int)⊕((Int))):=
 if (decide (b < 8)) then
  some (.inl ((xorI .u32 (shrI .u32 a 1) (wr .u32 (3988292384*(andI .u32 a 1)))),(w64 (b+1))))
 else
  some (.inr a)
def lp_Ia_25 (p0:LI) (a:Int) (s:Int×Int):Option ((Int×Int)⊕((Int))):=m_Ia_25 p0 a s.1 s.2
def m_Ia_36 (a:Int):Option (Int):=
 some (notI .u32 a)
def m_Ia_9 (p0:LI) (b a:Int):Option ((Int×Int)⊕((Int))):=
 if (decide (a < (p0.length:Int))) then
  (rd p0 a).bind fun c=>
  (loopM (lp_Ia_25 p0 a) ((xorI .u32 b (wr .u32 c)),0)).bind fun e=>m_Ia_35 p0 a e
 else
  some (.inr b)
def lp_Ia_9 (p0:LI) (s:Int×Int):Option ((Int×Int)⊕((Int))):=m_Ia_9 p0 s.1 s.2
def m_Ia_0 (p0:LI):Option (Int):=
 (loopM (lp_Ia_9 p0) (4294967295,0)).bind fun e=>m_Ia_36 e
def m_Ia (p0:LI):Option (Int):=m_Ia_0 p0
def m_Iq_6 (a:LI×Zg) (b:Bool):Option (Zg):=
 if b then
  (m_Im a.2 3).bind fun c=>
  some c
 else
  some a.2
def m_Iq_0 (p1:Int) (p0:Zg):Option (Zg):=
 (m_Il p0 4).bind fun a=>
 if (a.2.err == 0) then
  (m_Ih a.1).bind fun c=>
  (ck (decide ((0:Int)≤p0.at_∧p0.at_≤(a.2.b.length:Int)))).bind fun _=>
  (ck (decide ((0:Int)≤p1∧p1≤((Int.toNat p0.at_):Int)))).bind fun _=>
  (m_Ia ((a.2.b.take (Int.toNat p0.at_)).drop (Int.toNat p1))).bind fun d=>
  m_Iq_6 a (c != (w64 d))
 else
  m_Iq_6 a false
def m_Iq (p0:Zg) (p1:Int):Option (Zg):=m_Iq_0 p1 p0
def m_In_57 (i:Int×Zg) (e:Int) (a:Int×Zg) (b:Int×Zg) (c:ByteArray) (d:LZa) (f:LI) (g h:Int):Option ((Int×LI×Int×Int×LZa)⊕(((LZa×Zg))⊕((LI×Int×Int×LZa)))):=
 (ck (decide (d.length+([(Zb.mk a.1 b.1 c)]:LZa).length≤4398046511104))).bind fun _=>
 some (.inl ((w64 (e+1)),f,g,h,(d++([(Zb.mk a.1 b.1 c)]:LZa))))
def m_In_59 (a:LI) (b c:Int) (d:LZa):Option (LZa×Zg):=
 (m_Iq (Zg.mk a b c) 0).bind fun e=>
 some (d,e)
def m_In_31 (f:Int×Zg) (g:Int) (h:LI) (i c:Int) (j:LZa):Option ((Int×LI×Int×Int×LZa)⊕(((LZa×Zg))⊕((LI×Int×Int×LZa)))):=
 if (decide (g < f.1)) then
  if (c != 0) then
   some (.inr (.inl (([]:LZa),(Zg.mk h i c))))
  else
   (m_Ik (Zg.mk h i c)).bind fun d=>
   (m_Io d.2).bind fun e=>
   (m_Ik e.2).bind fun m=>
   (m_Il m.2 m.1).bind fun a=>
   (bstr a.1).bind fun k=>
   (m_It (Zb.mk d.1 e.1 k)).bind fun n=>
   if n then
    m_In_57 f g d e k j a.2.b a.2.at_ a.2.err
   else
    (m_Im a.2 5).bind fun l=>
    m_In_57 f g d e k j l.b l.at_ l.err
 else
  some (.inr (.inr (h,i,c,j)))
def lp_In_31 (a:Int×Zg) (s:Int×LI×Int×Int×LZa):Option ((Int×LI×Int×Int×LZa)⊕(((LZa×Zg))⊕((LI×Int×Int×LZa)))):=m_In_31 a s.1 s.2.1 s.2.2.1 s.2.2.2.1 s.2.2.2.2
def m_In_24 (a:Int×Zg) (b:LI) (c d:Int):Option (LZa×Zg):=
 (loopM (lp_In_31 a) (0,b,c,d,([]:LZa))).bind fun e=>match e with | .inl e=>some e | .inr e=>m_In_59 e.1 e.2.1 e.2.2.1 e.2.2.2
def m_In_21 (a:Int×Zg) (d:Bool):Option (LZa×Zg):=
 if d then
  (m_Im a.2 5).bind fun c=>
  m_In_24 a c.b c.at_ c.err
 else
  m_In_24 a a.2.b a.2.at_ a.2.err
def m_In_0 (p0:Zg):Option (LZa×Zg):=
 if (decide ((p0.b.length:Int) > 120000)) then
  (m_Im p0 1).bind fun c=>
  some (([]:LZa),c)
 else
  (m_Ii p0.b (ByteArray.mk #[66,79,88,49])).bind fun c=>
  (m_Im p0 c).bind fun d=>
  (m_Il d 4).bind fun e=>
  (m_Ik e.2).bind fun a=>
  if (decide (a.1 < 1)) then
   m_In_21 a true
  else
   m_In_21 a (decide (a.1 > 8))
def m_In (p0:Zg):Option (LZa×Zg):=m_In_0 p0
def m_Is_0 (p0:Int):Option (Bool):=
 if (decide (p0≥0)) then
  some (decide (p0≤1000000000))
 else
  some false
def m_Is (p0:Int):Option (Bool):=m_Is_0 p0
def m_Ip_65 (p1 p2 h i:Int) (n:Int×Zg) (a:Int×Zg) (o:Int×Zg) (j:Int) (b:Int×Zg) (c:Int×Zg) (d:Int×Zg) (e:Bool) (f:LZb) (g k:LI) (l m:Int):Option ((Int×Int×Int×LI×Int×Int×LZb×LI)⊕(((Int×LZb×Zg))⊕((LI×Int×Int×LZb×LI)))):=
 (ck (decide (f.length+([(Zc.mk b.1 c.1 d.1 e ([]:LI))]:LZb).length≤2513169434916))).bind fun _=>
 (ck (decide (g.length+([a.1]:LI).length≤17592186044416))).bind fun _=>
 some (.inl (h,i,(w64 (j+1)),k,l,m,(f++([(Zc.mk b.1 c.1 d.1 e ([]:LI))]:LZb)),(g++([a.1]:LI))))
def m_Ip_62 (p1 p2:Int) (c:Int×Zg) (d:Int×Zg) (e:Int×Zg) (f:Int) (g:LI) (h i:Int) (j:Int×Zg) (k:Int×Zg) (l:Int×Zg) (m:LZb) (n:LI) (o p:Int) (r q:Bool):Option ((Int×Int×Int×LI×Int×Int×LZb×LI)⊕(((Int×LZb×Zg))⊕((LI×Int×Int×LZb×LI)))):=
 if r then
  (m_Im (Zg.mk g h i) 7).bind fun a=>
  m_Ip_65 p1 p2 o p c d e f j k l q m n a.b a.at_ a.err
 else
  m_Ip_65 p1 p2 o p c d e f j k l q m n g h i
def m_Ip_53 (p1 p2 b c:Int) (d:Int×Zg) (e:Int×Zg) (a:Int×Zg) (f:Int×Zg) (g:Int) (h:Int×Zg) (i:Int×Zg) (j:Int×Zg) (k:LZb) (l m:LI) (n o:Int):Option ((Int×Int×Int×LI×Int×Int×LZb×LI)⊕(((Int×LZb×Zg))⊕((LI×Int×Int×LZb×LI)))):=
 if (decide ((w64 (b+1)) > 400)) then
  m_Ip_62 p1 p2 d a f g m n o h i j k l (w64 (b+1)) (w64 (c - (mnI a.1 1099511627776))) true (e.1 == 1)
 else
  m_Ip_62 p1 p2 d a f g m n o h i j k l (w64 (b+1)) (w64 (c - (mnI a.1 1099511627776))) (decide ((w64 (c - (mnI a.1 1099511627776))) < 0)) (e.1 == 1)
def m_Ip_50 (p1 p2 d e:Int) (f:Int×Zg) (g:Int×Zg) (a:Int×Zg) (h:Int×Zg) (i:Int) (j:Int×Zg) (k:Int×Zg) (l:Int×Zg) (m:LZb) (n:LI) (o:Bool):Option ((Int×Int×Int×LI×Int×Int×LZb×LI)⊕(((Int×LZb×Zg))⊕((LI×Int×Int×LZb×LI)))):=
 if o then
  (m_Im a.2 5).bind fun c=>
  m_Ip_53 p1 p2 d e f g a h i j k l m n c.b c.at_ c.err
 else
  m_Ip_53 p1 p2 d e f g a h i j k l m n a.2.b a.2.at_ a.2.err
def m_Ip_86 (p1:Int) (a:Int×Zg) (b:LI) (c d:Int) (e:LZb):Option (Int×LZb×Zg):=
 (m_Iq (Zg.mk b c d) p1).bind fun f=>
 some (a.1,e,f)
def m_Ip_74 (p1:Int) (l:Int×Zg) (i:LZb) (j:LI) (a:Int) (f:LI) (g h:Int) (e:LZb):Option ((Int×LI×Int×Int×LZb)⊕((LI×Int×Int×LZb))):=
 if (decide (a < (i.length:Int))) then
  (rd j a).bind fun k=>
  (m_Il (Zg.mk f g h) k).bind fun c=>
  (ck (decide (([]:LI).length+c.1.length≤140737488355328))).bind fun _=>
  (rd e a).bind fun d=>
  some (.inl ((w64 (a+1)),c.2.b,c.2.at_,c.2.err,(e.set (0+Int.toNat a) (Zc.mk d.track d.time d.span d.key (([]:LI)++c.1)))))
 else
  some (.inr (f,g,h,e))
def lp_Ip_74 (p1:Int) (a:Int×Zg) (b:LZb) (c:LI) (s:Int×LI×Int×Int×LZb):Option ((Int×LI×Int×Int×LZb)⊕((LI×Int×Int×LZb))):=m_Ip_74 p1 a b c s.1 s.2.1 s.2.2.1 s.2.2.2.1 s.2.2.2.2
def m_Ip_69 (p1:Int) (a:Int×Zg) (c:LI) (d f:Int) (b:LZb) (g:LI):Option (Int×LZb×Zg):=
 (loopM (lp_Ip_74 p1 a b g) (0,c,d,f,b)).bind fun e=>m_Ip_86 p1 a e.1 e.2.1 e.2.2.1 e.2.2.2
def m_Ip_27 (p1 p2:Int) (i:Int×Zg) (e:Int×Zg) (j k f:Int) (n:LI) (o l:Int) (g:LZb) (h:LI):Option ((Int×Int×Int×LI×Int×Int×LZb×LI)⊕(((Int×LZb×Zg))⊕((LI×Int×Int×LZb×LI)))):=
 if (decide (f < e.1)) then
  if (l != 0) then
   some (.inr (.inl (0,([]:LZb),(Zg.mk n o l))))
  else
   (m_Io (Zg.mk n o l)).bind fun a=>
   (m_Io a.2).bind fun b=>
   (m_Io b.2).bind fun c=>
   (m_Io c.2).bind fun d=>
   (m_Io d.2).bind fun m=>
   if (decide (a.1≥p2)) then
    m_Ip_50 p1 p2 j k i d m e f a b c g h true
   else
    (m_Is b.1).bind fun p=>
    if p then
     (m_Is c.1).bind fun q=>
     if q then
      m_Ip_50 p1 p2 j k i d m e f a b c g h (decide (d.1 > 1))
     else
      m_Ip_50 p1 p2 j k i d m e f a b c g h true
    else
     m_Ip_50 p1 p2 j k i d m e f a b c g h true
 else
  some (.inr (.inr (n,o,l,g,h)))
def lp_Ip_27 (p1 p2:Int) (a:Int×Zg) (b:Int×Zg) (s:Int×Int×Int×LI×Int×Int×LZb×LI):Option ((Int×Int×Int×LI×Int×Int×LZb×LI)⊕(((Int×LZb×Zg))⊕((LI×Int×Int×LZb×LI)))):=m_Ip_27 p1 p2 a b s.1 s.2.1 s.2.2.1 s.2.2.2.1 s.2.2.2.2.1 s.2.2.2.2.2.1 s.2.2.2.2.2.2.1 s.2.2.2.2.2.2.2
def m_Ip_18 (p1 p2 p4 p5:Int) (a:Int×Zg) (b:Int×Zg) (c:LI) (d f:Int):Option (Int×LZb×Zg):=
 (loopM (lp_Ip_27 p1 p2 a b) (p4,p5,0,c,d,f,([]:LZb),([]:LI))).bind fun e=>match e with | .inl e=>some e | .inr e=>m_Ip_69 p1 a e.1 e.2.1 e.2.2.1 e.2.2.2.1 e.2.2.2.2
def m_Ip_15 (p1 p2 p4 p5:Int) (d:Int×Zg) (a:Int×Zg) (e:Bool):Option (Int×LZb×Zg):=
 if e then
  (m_Im a.2 5).bind fun c=>
  m_Ip_18 p1 p2 p4 p5 d a c.b c.at_ c.err
 else
  m_Ip_18 p1 p2 p4 p5 d a a.2.b a.2.at_ a.2.err
def m_Ip_10 (p1 p2 p4 p5:Int) (b:Int×Zg) (c:LI) (d e:Int):Option (Int×LZb×Zg):=
 (m_Io (Zg.mk c d e)).bind fun a=>
 if (decide (a.1 < 1)) then
  m_Ip_15 p1 p2 p4 p5 b a true
 else
  m_Ip_15 p1 p2 p4 p5 b a (decide (a.1 > 100))
def m_Ip_7 (p1 p2 p4 p5:Int) (a:Int×Zg) (d:Bool):Option (Int×LZb×Zg):=
 if d then
  (m_Im a.2 6).bind fun c=>
  m_Ip_10 p1 p2 p4 p5 a c.b c.at_ c.err
 else
  m_Ip_10 p1 p2 p4 p5 a a.2.b a.2.at_ a.2.err
def m_Ip_0 (p1 p2 p3 p4 p5:Int) (p0:Zg):Option (Int×LZb×Zg):=
 (m_Io p0).bind fun a=>
 if (decide (p3≥0)) then
  m_Ip_7 p1 p2 p4 p5 a (a.1 != p3)
 else
  m_Ip_7 p1 p2 p4 p5 a false
def m_Ip (p0:Zg) (p1 p2 p3 p4 p5:Int):Option (Int×LZb×Zg):=m_Ip_0 p1 p2 p3 p4 p5 p0
def m_Ij_72 (a:LZa×Zg) (b:LI) (c d:Int) (e:LZ) (f:LZb):Option (Zd×LZ×Zg):=
 some ((Zd.mk a.1 f),e,(Zg.mk b c d))
def m_Ij_70 (d:Int) (a:Int×LZb×Zg) (g:LZa×Zg) (c:LZb) (e:Int) (f:LZ):Option ((Int×Int×LI×Int×Int×LZ×LZb)⊕(((LI×Int×Int×LZ×LZb))⊕((Zd×LZ×Zg)))):=
 (ck (decide (c.length+a.2.1.length≤2513169434916))).bind fun _=>
 some (.inl (e,(w64 (d+1)),a.2.2.b,a.2.2.at_,a.2.2.err,f,(c++a.2.1)))
def m_Ij_52 (g e:Int) (f:Int×LZb×Zg) (h:LZa×Zg) (i:LZb) (d b:Int) (c:LZ):Option ((Int×Int×LZ)⊕((Int×LZ))):=
 if (decide (b < (f.2.1.length:Int))) then
  (rd f.2.1 b).bind fun a=>
  if a.key then
   (ck (decide (c.length+([(Za.mk a.track a.time e)]:LZ).length≤5864062014805))).bind fun _=>
   some (.inl ((w64 (d - (a.data.length:Int))),(w64 (b+1)),(c++([(Za.mk a.track a.time e)]:LZ))))
  else
   some (.inl ((w64 (d - (a.data.length:Int))),(w64 (b+1)),c))
 else
  some (.inr (d,c))
def lp_Ij_52 (a b:Int) (c:Int×LZb×Zg) (d:LZa×Zg) (e:LZb) (s:Int×Int×LZ):Option ((Int×Int×LZ)⊕((Int×LZ))):=m_Ij_52 a b c d e s.1 s.2.1 s.2.2
def m_Ij_39 (g d h:Int) (i:LZ) (f:LZa×Zg) (c:LZb) (j:LI) (k l:Int):Option ((Int×Int×LI×Int×Int×LZ×LZb)⊕(((LI×Int×Int×LZ×LZb))⊕((Zd×LZ×Zg)))):=
 (m_Ip (Zg.mk j k l) h (f.1.length:Int) d (c.length:Int) g).bind fun a=>
 if (a.2.2.err != 0) then
  some (.inr (.inl (a.2.2.b,a.2.2.at_,a.2.2.err,i,c)))
 else
  (loopM (lp_Ij_52 d h a f c) (g,0,i)).bind fun e=>m_Ij_70 d a f c e.1 e.2
def m_Ij_28 (g h i:Int) (j:ByteArray) (a:LI×Zg) (c:LZ) (d:LZa×Zg) (e:LZb) (k:Bool):Option ((Int×Int×LI×Int×Int×LZ×LZb)⊕(((LI×Int×Int×LZ×LZb))⊕((Zd×LZ×Zg)))):=
 if k then
  some (.inr (.inr ((Zd.mk d.1 e),c,a.2)))
 else
  if (j.toList == (ByteArray.mk #[27,80,73,69,67,69,10,0]).toList) then
   m_Ij_39 g h i c d e a.2.b a.2.at_ a.2.err
  else
   (m_Im a.2 4).bind fun f=>
   m_Ij_39 g h i c d e f.b f.at_ f.err
def m_Ij_13 (g:LZa×Zg) (h i:Int) (j:LI) (a c:Int) (d:LZ) (e:LZb):Option ((Int×Int×LI×Int×Int×LZ×LZb)⊕(((LI×Int×Int×LZ×LZb))⊕((Zd×LZ×Zg)))):=
 if (c == 0) then
  (m_Il (Zg.mk j a c) 8).bind fun b=>
  (bstr b.1).bind fun f=>
  if (b.2.err == 0) then
   m_Ij_28 h i a f b d g e (f.toList == (ByteArray.mk #[27,73,78,68,69,88,10,0]).toList)
  else
   m_Ij_28 h i a f b d g e false
 else
  some (.inr (.inl (j,a,c,d,e)))
def lp_Ij_13 (a:LZa×Zg) (s:Int×Int×LI×Int×Int×LZ×LZb):Option ((Int×Int×LI×Int×Int×LZ×LZb)⊕(((LI×Int×Int×LZ×LZb))⊕((Zd×LZ×Zg)))):=m_Ij_13 a s.1 s.2.1 s.2.2.1 s.2.2.2.1 s.2.2.2.2.1 s.2.2.2.2.2.1 s.2.2.2.2.2.2
def m_Ij_0 (p0:Zg):Option (Zd×LZ×Zg):=
 (m_In p0).bind fun a=>
 (loopM (lp_Ij_13 a) (60000,0,a.2.b,a.2.at_,a.2.err,([]:LZ),([]:LZb))).bind fun e=>match e with | .inl e=>m_Ij_72 a e.1 e.2.1 e.2.2.1 e.2.2.2.1 e.2.2.2.2 | .inr e=>some e
def m_Ij (p0:Zg):Option (Zd×LZ×Zg):=m_Ij_0 p0
def m_Ir_77 (c:Int) (p0:Zd) (d:Int) (a:Zc) (b:LI):Option ((Int×Int×LI)⊕((Bool)⊕((Int)))):=
 (rd b a.track).bind fun _=>
 some (.inl ((w64 (c+(a.data.length:Int))),(w64 (d+1)),(b.set (0+Int.toNat a.track) a.time)))
def m_Ir_81 (a:Int):Option (Bool):=
 some (decide (a≤60000))
def m_Ir_59 (p0:Zd) (c b:Int) (d:LI):Option ((Int×Int×LI)⊕((Bool)⊕((Int)))):=
 if (decide (b < (p0.packets.length:Int))) then
  (rd p0.packets b).bind fun a=>
  if (decide (a.track < 0)) then
   some (.inr (.inl false))
  else
   if (decide (a.track≥(p0.tracks.length:Int))) then
    some (.inr (.inl false))
   else
    (m_Is a.time).bind fun f=>
    if f then
     (m_Is a.span).bind fun g=>
     if g then
      (rd d a.track).bind fun e=>
      if (decide (a.time < e)) then
       some (.inr (.inl false))
      else
       if (decide (e < 0)) then
        if a.key then
         m_Ir_77 c p0 b a d
        else
         some (.inr (.inl false))
       else
        m_Ir_77 c p0 b a d
     else
      some (.inr (.inl false))
    else
     some (.inr (.inl false))
 else
  some (.inr (.inr c))
def lp_Ir_59 (p0:Zd) (s:Int×Int×LI):Option ((Int×Int×LI)⊕((Bool)⊕((Int)))):=m_Ir_59 p0 s.1 s.2.1 s.2.2
def m_Ir_54 (p0:Zd) (a:LI):Option (Bool):=
 (loopM (lp_Ir_59 p0) (0,0,a)).bind fun e=>match e with | .inl e=>some e | .inr e=>m_Ir_81 e
def m_Ir_42 (p0:Zd) (c a:Int) (b:LI):Option ((Int×Int×LI)⊕((LI))):=
 if (decide (a < c)) then
  (rd b a).bind fun _=>
  some (.inl (c,(w64 (a+1)),(b.set (0+Int.toNat a) (-1))))
 else
  some (.inr b)
def lp_Ir_42 (p0:Zd) (s:Int×Int×LI):Option ((Int×Int×LI)⊕((LI))):=m_Ir_42 p0 s.1 s.2.1 s.2.2
def m_Ir_33 (p0:Zd):Option (Bool):=
 (ck (decide ((0:Int)≤(p0.tracks.length:Int)∧(p0.tracks.length:Int)≤(17592186044416:Int)))).bind fun _=>
 (loopM (lp_Ir_42 p0) (((Int.toNat (p0.tracks.length:Int)):Int),0,(List.replicate (Int.toNat (p0.tracks.length:Int)) (0:Int)))).bind fun e=>m_Ir_54 p0 e
def m_Ir_15 (p0:Zd) (a:Int):Option ((Int)⊕((Bool)⊕((Unit)))):=
 if (decide (a < (p0.tracks.length:Int))) then
  (rd p0.tracks a).bind fun b=>
  (m_It b).bind fun c=>
  if c then
   some (.inl (w64 (a+1)))
  else
   some (.inr (.inl false))
 else
  some (.inr (.inr ()))
def lp_Ir_15 (p0:Zd) (s:Int):Option ((Int)⊕((Bool)⊕((Unit)))):=m_Ir_15 p0 s
def m_Ir_0 (p0:Zd):Option (Bool):=
 if (decide ((p0.tracks.length:Int) < 1)) then
  some false
 else
  if (decide ((p0.tracks.length:Int) > 8)) then
   some false
  else
   if (decide ((p0.packets.length:Int) > 400)) then
    some false
   else
    (loopM (lp_Ir_15 p0) 0).bind fun e=>match e with | .inl e=>some e | .inr e=>m_Ir_33 p0
def m_Ir (p0:Zd):Option (Bool):=m_Ir_0 p0
def m_Ig_0 (p0:Zd) (p1 p2:Int):Option (Bool):=
 (rd p0.packets p1).bind fun a=>
 (rd p0.packets p2).bind fun b=>
 (rd p0.tracks b.track).bind fun c=>
 (rd p0.tracks a.track).bind fun d=>
 if ((w64 (a.time*c.scale)) != (w64 (b.time*d.scale))) then
  some (decide ((w64 (a.time*c.scale)) < (w64 (b.time*d.scale))))
 else
  if (a.track != b.track) then
   some (decide (a.track < b.track))
  else
   some (decide (p1 < p2))
def m_Ig (p0:Zd) (p1 p2:Int):Option (Bool):=m_Ig_0 p0 p1 p2
def m_Ic_31:Option (Bool):=
 some true
def m_Ic_15 (p0:Zd) (a:Int):Option ((Int)⊕((Bool)⊕((Unit)))):=
 if (decide (a < (p0.packets.length:Int))) then
  (m_Ig p0 a (w64 (a - 1))).bind fun b=>
  if b then
   some (.inr (.inl false))
  else
   some (.inl (w64 (a+1)))
 else
  some (.inr (.inr ()))
def lp_Ic_15 (p0:Zd) (s:Int):Option ((Int)⊕((Bool)⊕((Unit)))):=m_Ic_15 p0 s
def m_Ic_0 (p0:Zd):Option (Bool):=
 (m_Ir p0).bind fun a=>
 if a then
  (loopM (lp_Ic_15 p0) 1).bind fun e=>match e with | .inl e=>some e | .inr e=>m_Ic_31
 else
  some false
def m_Ic (p0:Zd):Option (Bool):=m_Ic_0 p0
def m_Ie_72 (b:Zd×LZ×Zg) (c:LI) (d a:Int):Option (Zh):=
 if (a != 0) then
  some (Zh.mk a (Zd.mk ([]:LZa) ([]:LZb)) 0)
 else
  some (Zh.mk 0 b.1 0)
def m_Ie_66 (a:Zd×LZ×Zg) (d:LI) (e f:Int):Option (Zh):=
 (m_Ic a.1).bind fun g=>
 if g then
  m_Ie_72 a d e f
 else
  (m_Im (Zg.mk d e f) 6).bind fun c=>
  m_Ie_72 a c.b c.at_ c.err
def m_Ie_60 (p0:LI) (d:Zd×LZ×Zg) (e:LI) (a f:Int):Option (Zh):=
 if (decide (a < (p0.length:Int))) then
  (m_Im (Zg.mk e a f) 8).bind fun c=>
  m_Ie_66 d c.b c.at_ c.err
 else
  m_Ie_66 d e a f
def m_Ie_54 (p0:LI) (a:Zg) (d:Zd×LZ×Zg) (e:Bool):Option (Zh):=
 if e then
  m_Ie_60 p0 d a.b a.at_ a.err
 else
  (m_Im a 5).bind fun c=>
  m_Ie_60 p0 d c.b c.at_ c.err
def m_Ie_44 (p0:LI) (g:Zg) (f:Zd×LZ×Zg) (e:LZ) (b:Bool) (a:Int):Option ((Bool×Int)⊕((Bool))):=
 if b then
  if (decide (a < (e.length:Int))) then
   (rd e a).bind fun c=>
   (rd f.2.1 a).bind fun d=>
   some (.inl (((c.track == d.track)&&((c.time == d.time)&&((c.at_ == d.at_)&&true))),(w64 (a+1))))
  else
   some (.inr b)
 else
  some (.inr b)
def lp_Ie_44 (p0:LI) (a:Zg) (b:Zd×LZ×Zg) (c:LZ) (s:Bool×Int):Option ((Bool×Int)⊕((Bool))):=m_Ie_44 p0 a b c s.1 s.2
def m_Ie_39 (p0:LI) (a:Zg) (b:Zd×LZ×Zg) (c:LZ) (d:Bool):Option (Zh):=
 (loopM (lp_Ie_44 p0 a b c) (d,0)).bind fun e=>m_Ie_54 p0 a b e
def m_Ie_33 (p0:LI) (c:Int) (a:Zd×LZ×Zg) (f:LI) (g h:Int) (b:LZ):Option (Zh):=
 (m_Io (Zg.mk f g h)).bind fun d=>
 (m_Iq d.2 (mxI c 0)).bind fun e=>
 if ((b.length:Int) == (a.2.1.length:Int)) then
  m_Ie_39 p0 e a b (d.1 == c)
 else
  m_Ie_39 p0 e a b false
def m_Ie_23 (p0:LI) (k:Int) (j:Int×Zg) (l:Zd×LZ×Zg) (i:Int) (e:LI) (f c:Int) (d:LZ):Option ((Int×LI×Int×Int×LZ)⊕((LI×Int×Int×LZ))):=
 if (decide (i < j.1)) then
  if (c == 0) then
   (m_Io (Zg.mk e f c)).bind fun g=>
   (m_Io g.2).bind fun h=>
   (m_Io h.2).bind fun a=>
   (ck (decide (d.length+([(Za.mk g.1 h.1 a.1)]:LZ).length≤5864062014805))).bind fun _=>
   some (.inl ((w64 (i+1)),a.2.b,a.2.at_,a.2.err,(d++([(Za.mk g.1 h.1 a.1)]:LZ))))
  else
   some (.inr (e,f,c,d))
 else
  some (.inr (e,f,c,d))
def lp_Ie_23 (p0:LI) (a:Int) (b:Int×Zg) (c:Zd×LZ×Zg) (s:Int×LI×Int×Int×LZ):Option ((Int×LI×Int×Int×LZ)⊕((LI×Int×Int×LZ))):=m_Ie_23 p0 a b c s.1 s.2.1 s.2.2.1 s.2.2.2.1 s.2.2.2.2
def m_Ie_16 (p0:LI) (c:Int×Zg) (a:Zd×LZ×Zg) (b:Int) (d:LI) (f g:Int):Option (Zh):=
 (loopM (lp_Ie_23 p0 b c a) (0,d,f,g,([]:LZ))).bind fun e=>m_Ie_33 p0 b a e.1 e.2.1 e.2.2.1 e.2.2.2
def m_Ie_0 (p0:LI):Option (Zh):=
 (m_Ij (Zg.mk p0 0 0)).bind fun c=>
 (m_Io c.2.2).bind fun a=>
 if (decide (a.1 > 400)) then
  (m_Im a.2 5).bind fun d=>
  m_Ie_16 p0 a c (w64 (c.2.2.at_ - 8)) d.b d.at_ d.err
 else
  m_Ie_16 p0 a c (w64 (c.2.2.at_ - 8)) a.2.b a.2.at_ a.2.err
def m_Ie (p0:LI):Option (Zh):=m_Ie_0 p0
def m_Id_0 (p0:LI):Option (LZ):=
 (m_Ij (Zg.mk p0 0 0)).bind fun a=>
 some a.2.1
def m_Id (p0:LI):Option (LZ):=m_Id_0 p0
def m_If_0 (p0:LI):Option (LZ):=
 (m_Ie p0).bind fun a=>
 if (a.err != 0) then
  some ([]:LZ)
 else
  (m_Id p0).bind fun b=>
  some b
def m_If (p0:LI):Option (LZ):=m_If_0 p0
def m_Lb_0 (p0 p1:Za):Option (Bool):=
 if (p0.track != p1.track) then
  some false
 else
  if (p0.time != p1.time) then
   some false
  else
   if (p0.at_ != p1.at_) then
    some false
   else
    some true
def m_Lb (p0 p1:Za):Option (Bool):=m_Lb_0 p0 p1
def m_Lc_31:Option (Bool):=
 some true
def m_Lc_15 (p0 p1:LZ) (a:Int):Option ((Int)⊕((Bool)⊕((Unit)))):=
 if (decide (a < (p0.length:Int))) then
  (rd p0 a).bind fun b=>
  (rd p1 a).bind fun c=>
  (m_Lb b c).bind fun d=>
  if d then
   some (.inl (w64 (a+1)))
  else
   some (.inr (.inl false))
 else
  some (.inr (.inr ()))
def lp_Lc_15 (p0 p1:LZ) (s:Int):Option ((Int)⊕((Bool)⊕((Unit)))):=m_Lc_15 p0 p1 s
def m_Lc_0 (p0 p1:LZ):Option (Bool):=
 if ((p0.length:Int) != (p1.length:Int)) then
  some false
 else
  (loopM (lp_Lc_15 p0 p1) 0).bind fun e=>match e with | .inl e=>some e | .inr e=>m_Lc_31
def m_Lc (p0 p1:LZ):Option (Bool):=m_Lc_0 p0 p1
def m_La_31:Option (Bool):=
 some true
def m_La_15 (p0 p1:LI) (a:Int):Option ((Int)⊕((Bool)⊕((Unit)))):=
 if (decide (a < (p0.length:Int))) then
  (rd p0 a).bind fun b=>
  (rd p1 a).bind fun c=>
  if (b != c) then
   some (.inr (.inl false))
  else
   some (.inl (w64 (a+1)))
 else
  some (.inr (.inr ()))
def lp_La_15 (p0 p1:LI) (s:Int):Option ((Int)⊕((Bool)⊕((Unit)))):=m_La_15 p0 p1 s
def m_La_0 (p0 p1:LI):Option (Bool):=
 if ((p0.length:Int) != (p1.length:Int)) then
  some false
 else
  (loopM (lp_La_15 p0 p1) 0).bind fun e=>match e with | .inl e=>some e | .inr e=>m_La_31
def m_La (p0 p1:LI):Option (Bool):=m_La_0 p0 p1
def m_Le_19 (a:Int) (b:LI):Option (Int×LI):=
 some (a,b)
def m_Le_7 (c a:Int) (b:LI):Option ((Int×Int×LI)⊕((Int×LI))):=
 if (decide (a < (b.length:Int))) then
  (rd b a).bind fun _=>
  some (.inl ((w64 (c+1)),(w64 (a+1)),(b.set (0+Int.toNat a) (wr .u8 c))))
 else
  some (.inr (c,b))
def lp_Le_7 (s:Int×Int×LI):Option ((Int×Int×LI)⊕((Int×LI))):=m_Le_7 s.1 s.2.1 s.2.2
def m_Le_0 (p1:Int) (p0:LI):Option (Int×LI):=
 (loopM (lp_Le_7) (p1,0,p0)).bind fun e=>m_Le_19 e.1 e.2
def m_Le (p0:LI) (p1:Int):Option (Int×LI):=m_Le_0 p1 p0
def m_Lf_27 (a:Int) (b:LZ):Option (Int×LZ):=
 some (a,b)
def m_Lf_7 (a b:Int) (c:LZ):Option ((Int×Int×LZ)⊕((Int×LZ))):=
 if (decide (b < (c.length:Int))) then
  (rd c b).bind fun _=>
  some (.inl ((w64 ((w64 ((w64 (a+1))+1))+1)),(w64 (b+1)),(c.set (0+Int.toNat b) (Za.mk a (w64 (a+1)) (w64 ((w64 (a+1))+1))))))
 else
  some (.inr (a,c))
def lp_Lf_7 (s:Int×Int×LZ):Option ((Int×Int×LZ)⊕((Int×LZ))):=m_Lf_7 s.1 s.2.1 s.2.2
def m_Lf_0 (p1:Int) (p0:LZ):Option (Int×LZ):=
 (loopM (lp_Lf_7) (p1,0,p0)).bind fun e=>m_Lf_27 e.1 e.2
def m_Lf (p0:LZ) (p1:Int):Option (Int×LZ):=m_Lf_0 p1 p0
def m_Ld_45 (a:Int):Option (Int):=
 some a
def m_Ld_7 (p0:LZ) (a b:Int):Option ((Int×Int)⊕((Int)⊕((Int)))):=
 if (decide (b < (p0.length:Int))) then
  (rd p0 b).bind fun c=>
  if (c.track != a) then
   some (.inr (.inl (-1)))
  else
   if (c.time != (w64 (a+1))) then
    some (.inr (.inl (-1)))
   else
    if (c.at_ != (w64 ((w64 (a+1))+1))) then
     some (.inr (.inl (-1)))
    else
     some (.inl ((w64 ((w64 ((w64 (a+1))+1))+1)),(w64 (b+1))))
 else
  some (.inr (.inr a))
def lp_Ld_7 (p0:LZ) (s:Int×Int):Option ((Int×Int)⊕((Int)⊕((Int)))):=m_Ld_7 p0 s.1 s.2
def m_Ld_0 (p0:LZ) (p1:Int):Option (Int):=
 (loopM (lp_Ld_7 p0) (p1,0)).bind fun e=>match e with | .inl e=>some e | .inr e=>m_Ld_45 e
def m_Ld (p0:LZ) (p1:Int):Option (Int):=m_Ld_0 p0 p1
def m_laws_FnExactReadIndex_0 (p0:LI):Option (Bool):=
 if (decide ((p0.length:Int) > 1048576)) then
  some true
 else
  (m_Lg p0).bind fun a=>
  (m_Sd a).bind fun f=>
  (m_If a).bind fun b=>
  (m_Lc b f).bind fun g=>
  if g then
   (m_La a a).bind fun h=>
   if h then
    (m_Le a 1).bind fun d=>
    (ck (decide (d.2.length=a.length))).bind fun _=>
    if (decide (d.1 < 0)) then
     some false
    else
     (m_Lf b 1).bind fun c=>
     (ck (decide (c.2.length=b.length))).bind fun _=>
     (m_Ld c.2 1).bind fun e=>
     if (decide (e < 0)) then
      some false
     else
      if (e != c.1) then
       some false
      else
       some true
   else
    some false
  else
   some false
def m_laws_FnExactReadIndex (p0:LI):Option (Bool):=m_laws_FnExactReadIndex_0 p0
end
end Go.Proofs.V

set_option linter.unusedSimpArgs false
namespace Go.Proofs.V
open Go
def num0:Zf:=Zf.mk false 0 0
def gnGo (d:List Int) (a:Nat):Nat→Nat→Int→Zf
 | 0,_,_=>num0
 | k+1,i,v=>
  if d.length≤a+i then num0 else
  if i=9∧1 < d.getD (a+i) 0 then num0 else
  if d.getD (a+i) 0 < 128 then
   if d.getD (a+i) 0=0∧0 < i then num0 else Zf.mk true (orI .u64 v (shlI .u64 (d.getD (a+i) 0 % 128) (7*i))) (a+i+1)
  else gnGo d a k (i+1) (orI .u64 v (shlI .u64 (d.getD (a+i) 0 % 128) (7*i)))
def gn0 (d:List Int) (a:Nat):Zf:=gnGo d a 10 0 0
theorem spec_gn (d:List Int) (a:Nat) (hd:d.length≤1048576) (ha:a≤1048576) (hb:∀ x ∈ d,0≤x∧x≤255):m_Sb d a=some (gn0 d a):=by
 have key:∀ (k i:Nat) (v:Int),i+k=10→(loopM (lp_Sb_17 d a) (v,(i:Int))).bind (fun e=>match e with | .inl e=>m_Sb_61 | .inr e=>some e)=some (gnGo d a k i v):=by
  intro k
  induction k with
  | zero=>
   intro i v hi
   rw [loopM_eq]
   dsimp only [lp_Sb_17,m_Sb_17]
   rw [if_neg (by simp;omega)]
   rfl
  | succ k ih=>
   intro i v hi
   rw [loopM_eq]
   dsimp only [lp_Sb_17,m_Sb_17]
   rw [if_pos (by simp;omega)]
   unfold gnGo
   have e28:∀ q,m_Sb_28 d a v i q=if q then some (.inr (.inr num0)) else m_Sb_28 d a v i false:=by
    intro q;cases q <;> rfl
   by_cases h1:d.length≤a+i
   ·rw [if_pos h1]
    have hq:(if decide ((a:Int)≥(d.length:Int))=true then m_Sb_28 d a v i true else m_Sb_28 d a v i (decide ((i:Int) > w64 (w64 ((d.length:Int) - 1) - (a:Int)))))=some (.inr (.inr num0)):=by
     by_cases h2:(a:Int)≥(d.length:Int)
     ·rw [if_pos (by simpa using h2)];rfl
     ·rw [if_neg (by simpa using h2),w64_id (x:=(d.length:Int) - 1) (by omega) (by omega),w64_id (by omega) (by omega),show decide ((i:Int) > (d.length:Int) - 1 - (a:Int))=true by simp;omega];rfl
    rw [hq];rfl
   ·rw [if_neg h1,if_neg (by simp;omega),w64_id (x:=(d.length:Int) - 1) (by omega) (by omega),w64_id (x:=(d.length:Int) - 1 - (a:Int)) (by omega) (by omega),show decide ((i:Int) > (d.length:Int) - 1 - (a:Int))=false by simp;omega]
    have hx:d.getD (a+i) 0 ∈ d:=by
     rw [List.getD_eq_getElem?_getD,List.getElem?_eq_getElem (by omega)];simp
    have hxb:=hb _ hx
    dsimp only [m_Sb_28]
    rw [if_neg (by simp),w64_id (x:=(a:Int)+i) (by omega) (by omega),show (a:Int)+(i:Int)=((a+i:Nat):Int) by omega,rd_d 0 (by omega)]
    simp only [Option.bind_some]
    generalize d.getD (a+i) 0=c at hxb ⊢
    rw [wu64_id (by omega) (by omega)]
    have e38:∀ q,m_Sb_38 d a v i c q=if q then some (.inr (.inr num0)) else m_Sb_38 d a v i c false:=by
     intro q;cases q <;> rfl
    have hc:(c.tmod 128)=c % 128:=Int.tmod_eq_emod_of_nonneg hxb.1
    have eF:m_Sb_38 d a v i c false=if c < 128 then (if c=0∧0 < i then some (.inr (.inr num0)) else some (.inr (.inr (Zf.mk true (orI .u64 v (shlI .u64 (c % 128) (7*i))) (a+i+1))))) else some (.inl (orI .u64 v (shlI .u64 (c % 128) (7*i)),((i+1:Nat):Int))):=by
     dsimp only [m_Sb_38,m_Sb_51]
     rw [if_neg (by simp),w64_id (x:=7*(i:Int)) (by omega) (by omega),wu64_id (by omega) (by omega),ck_eq (by omega)]
     simp only [Option.bind_some]
     rw [hc,w64_id (x:=(a:Int)+i) (by omega) (by omega),w64_id (by omega) (by omega),w64_succ (by omega)]
     by_cases g1:c < 128
     ·rw [if_pos (by simpa using g1),if_pos g1]
      by_cases g2:c=0
      ·subst g2
       by_cases g3:0 < i
       ·simp [g3,num0]
       ·simp [g3]
      ·have g0:(c == 0)=false:=by simpa using g2
       have g4 : ¬ (c=0∧0 < i):=fun h=>g2 h.1
       simp only [g0,g4,Bool.false_eq_true,if_false]
     ·rw [if_neg (by simpa using g1),if_neg g1]
    by_cases h9:i=9∧1 < c
    ·rw [if_pos h9,if_pos (by simp;omega),show decide (c > 1)=true by simpa using h9.2];rfl
    ·rw [if_neg h9]
     have hq:(if ((i:Int) == 9)=true then m_Sb_38 d a v i c (decide (c > 1)) else m_Sb_38 d a v i c false)=m_Sb_38 d a v i c false:=by
      by_cases g:(i:Int)=9
      ·rw [if_pos (by simpa using g),show decide (c > 1)=false by simp;omega]
      ·rw [if_neg (by simpa using g)]
     rw [hq,eF]
     by_cases g1:c < 128
     ·rw [if_pos g1,if_pos g1]
      by_cases g2:c=0∧0 < i
      ·rw [if_pos g2,if_pos g2];rfl
      ·rw [if_neg g2,if_neg g2];rfl
     ·rw [if_neg g1,if_neg g1]
      exact ih (i+1) _ (by omega)
 dsimp only [m_Sb,m_Sb_0]
 rw [if_neg (by simp)]
 exact key 10 0 0 rfl
theorem and127 (c:Int) (h0:0≤c) (h1:c≤255):andI .u8 c 127=c % 128:=by
 obtain ⟨n,rfl⟩:∃ n:Nat,c=n:=⟨c.toNat,by omega⟩
 unfold andI
 have h2:(BitVec.ofInt IntKind.u8.bits (n:Int) &&& BitVec.ofInt IntKind.u8.bits 127).toNat=n % 128:=by
  show (BitVec.ofInt 8 (n:Int) &&& BitVec.ofNat 8 127).toNat=n % 128
  rw [BitVec.ofInt_natCast,BitVec.toNat_and,BitVec.toNat_ofNat,BitVec.toNat_ofNat,Nat.mod_eq_of_lt (by omega:n < 2 ^ 8)]
  exact Nat.and_two_pow_sub_one_eq_mod n 7
 rw [h2]
 rw [show IntKind.wrap .u8 ((n % 128:Nat):Int)=((n % 128:Nat):Int) from wu8_id (by omega) (by omega)]
 omega
theorem impl_gn (d:List Int) (a:Nat) (hd:d.length≤1048576) (ha:a≤1048576) (hb:∀ x ∈ d,0≤x∧x≤255):m_Ib d a=some (gn0 d a):=by
 have key:∀ (k i:Nat) (v:Int),i+k=10→(loopM (lp_Ib_17 d a) (v,(i:Int))).bind (fun e=>match e with | .inl e=>m_Ib_49 | .inr e=>some e)=some (gnGo d a k i v):=by
  intro k
  induction k with
  | zero=>
   intro i v hi
   rw [loopM_eq]
   dsimp only [lp_Ib_17,m_Ib_17]
   rw [if_neg (by simp;omega)]
   rfl
  | succ k ih=>
   intro i v hi
   rw [loopM_eq]
   dsimp only [lp_Ib_17,m_Ib_17]
   rw [if_pos (by simp;omega),w64_id (x:=(a:Int)+i) (by omega) (by omega)]
   unfold gnGo
   by_cases h1:d.length≤a+i
   ·rw [if_pos h1,if_neg (by simp;omega)];rfl
   ·rw [if_neg h1,if_pos (by simp;omega)]
    have hx:d.getD (a+i) 0 ∈ d:=by
     rw [List.getD_eq_getElem?_getD,List.getElem?_eq_getElem (by omega)];simp
    have hxb:=hb _ hx
    rw [show (a:Int)+(i:Int)=((a+i:Nat):Int) by omega,rd_d 0 (by omega)]
    simp only [Option.bind_some]
    generalize d.getD (a+i) 0=c at hxb ⊢
    have eF:m_Ib_33 d a v i c=if c < 128 then (if c=0∧0 < i then some (.inr (.inl ())) else some (.inr (.inr (Zf.mk true (orI .u64 v (shlI .u64 (c % 128) (7*i))) (a+i+1))))) else some (.inl (orI .u64 v (shlI .u64 (c % 128) (7*i)),((i+1:Nat):Int))):=by
     dsimp only [m_Ib_33,m_Ib_44]
     rw [w64_id (x:=7*(i:Int)) (by omega) (by omega),ck_eq (by omega)]
     simp only [Option.bind_some]
     rw [and127 c hxb.1 hxb.2,wu64_id (by omega) (by omega),w64_id (x:=(a:Int)+i) (by omega) (by omega),w64_id (by omega) (by omega),w64_succ (by omega)]
     by_cases g1:c < 128
     ·rw [if_pos (by simpa using g1),if_pos g1]
      by_cases g2:c=0
      ·subst g2
       by_cases g3:0 < i
       ·simp [g3]
       ·simp [g3]
      ·have g0:(c == 0)=false:=by simpa using g2
       have g4 : ¬ (c=0∧0 < i):=fun h=>g2 h.1
       simp only [g0,g4,Bool.false_eq_true,if_false]
     ·rw [if_neg (by simpa using g1),if_neg g1]
    by_cases h9:i=9∧1 < c
    ·rw [if_pos h9,if_pos (by simp;omega),if_pos (by simpa using h9.2)];rfl
    ·rw [if_neg h9]
     have hq:(if ((i:Int) == 9)=true then (if decide (c > 1)=true then some (.inr (.inl ())) else m_Ib_33 d a v i c) else m_Ib_33 d a v i c)=m_Ib_33 d a v i c:=by
      by_cases g:(i:Int)=9
      ·rw [if_pos (by simpa using g),if_neg (by simp;omega)]
      ·rw [if_neg (by simpa using g)]
     rw [hq,eF]
     by_cases g1:c < 128
     ·rw [if_pos g1,if_pos g1]
      by_cases g2:c=0∧0 < i
      ·rw [if_pos g2,if_pos g2];rfl
      ·rw [if_neg g2,if_neg g2];rfl
     ·rw [if_neg g1,if_neg g1]
      exact ih (i+1) _ (by omega)
 dsimp only [m_Ib,m_Ib_0]
 rw [if_neg (by simp)]
 dsimp only [m_Ib_5]
 by_cases h:(a:Int) > (d.length:Int)
 ·rw [if_pos (by simpa using h)]
  unfold gn0 gnGo
  rw [if_pos (by omega)];rfl
 ·rw [if_neg (by simpa using h)]
  exact key 10 0 0 rfl
end Go.Proofs.V

namespace Go.Proofs.V
open Go
theorem wu32_eq (x:Int):wr .u32 x=x % 4294967296:=by
 unfold wr IntKind.wrap
 simp [IntKind.bits,IntKind.signed]
theorem wu32_rng (x:Int):0≤wr .u32 x∧wr .u32 x < 4294967296:=by rw [wu32_eq];omega
def crc1 (r:Int):Int:=if andI .u32 r 1 == 1 then xorI .u32 (shrI .u32 r 1) 3988292384 else shrI .u32 r 1
def crc8 (r:Int):Int:=(List.range 8).foldl (fun r _=>crc1 r) r
def crcF (l:List Int):Int:=notI .u32 (l.foldl (fun r c=>crc8 (xorI .u32 r (wr .u32 c))) 4294967295)
theorem xor_rng (a b:Int):0≤xorI .u32 a b∧xorI .u32 a b < 4294967296:=wu32_rng _
theorem crcF_rng (l:List Int):0≤crcF l∧crcF l < 4294967296:=wu32_rng _
theorem shr1 (r:Int) (h:0≤r∧r < 4294967296):shrI .u32 r 1=r / 2:=by
 unfold shrI
 rw [show (2:Int) ^ min (Int.toNat 1) IntKind.u32.bits=2 from rfl,Int.fdiv_eq_ediv_of_nonneg _ (by omega)]
theorem crc1_rng (r:Int) (h:0≤r∧r < 4294967296):0≤crc1 r∧crc1 r < 4294967296:=by
 unfold crc1
 split
 ·exact xor_rng _ _
 ·rw [shr1 r h];omega
theorem and1_u32 (r:Int):andI .u32 r 1=0∨andI .u32 r 1=1:=by
 unfold andI
 have h1:(BitVec.ofInt IntKind.u32.bits r &&& BitVec.ofInt IntKind.u32.bits 1).toNat≤1:=by
  show (BitVec.ofInt 32 r &&& BitVec.ofNat 32 1).toNat≤1
  rw [BitVec.toNat_and,BitVec.toNat_ofNat]
  exact Nat.and_le_right
 have h2:∀ k:Nat,k≤1→IntKind.wrap .u32 (k:Int)=0∨IntKind.wrap .u32 (k:Int)=1:=by
  intro k hk
  have:k=0∨k=1:=by omega
  rcases this with rfl | rfl
  ·left;rfl
  ·right;rfl
 exact h2 _ h1
theorem xor_zero_u32 (x:Int) (h:0≤x∧x < 4294967296):xorI .u32 x 0=x:=by
 unfold xorI
 show IntKind.u32.wrap ((BitVec.ofInt 32 x ^^^ 0#32).toNat:Int)=x
 rw [BitVec.xor_zero]
 obtain ⟨n,rfl⟩:∃ n:Nat,x=n:=⟨x.toNat,by omega⟩
 rw [BitVec.ofInt_natCast,BitVec.toNat_ofNat,Nat.mod_eq_of_lt (by omega)]
 exact wu32_id (by omega) (by omega)
theorem crc1_impl (r:Int) (h:0≤r∧r < 4294967296):xorI .u32 (shrI .u32 r 1) (wr .u32 (3988292384*(andI .u32 r 1)))=crc1 r:=by
 unfold crc1
 rcases and1_u32 r with h1 | h1
 ·rw [h1,if_neg (by decide),show wr .u32 (3988292384*0)=0 from rfl]
  exact xor_zero_u32 _ (by rw [shr1 r h];omega)
 ·rw [h1,if_pos (by decide),show wr .u32 (3988292384*1)=3988292384 from rfl]
theorem crc8_rng (r:Int) (h:0≤r∧r < 4294967296):0≤crc8 r∧crc8 r < 4294967296:=by
 have:∀ (k:List Nat) (r:Int),0≤r∧r < 4294967296→0≤k.foldl (fun r _=>crc1 r) r∧k.foldl (fun r _=>crc1 r) r < 4294967296:=by
  intro k
  induction k with
  | nil=>intro r h;exact h
  | cons a k ih=>intro r h;exact ih _ (crc1_rng r h)
 exact this _ r h
theorem spec_crc8 (p0:List Int) (i:Int) (r:Int) (h:0≤r∧r < 4294967296):loopM (lp_Sa_25 p0 i) (r,0)=some (crc8 r):=by
 refine (fold_range (n:=8) (fun (s:Int) i=>(s,(i:Int))) (g:=fun r _=>crc1 r) (I:=fun _ s=>0≤s∧s < 4294967296) (e1:=fun s=>s) (fun i s hi hI=>⟨?_,crc1_rng s hI⟩) (fun s hI=>?_) r h).1
 ·simp only [lp_Sa_25,m_Sa_25,decide_eq_true_eq]
  rw [if_pos (by omega),w64_succ (by omega)]
  unfold crc1
  split <;> rfl
 ·simp only [lp_Sa_25,m_Sa_25]
  rfl
theorem impl_crc8 (p0:List Int) (i:Int) (r:Int) (h:0≤r∧r < 4294967296):loopM (lp_Ia_25 p0 i) (r,0)=some (crc8 r):=by
 refine (fold_range (n:=8) (fun (s:Int) i=>(s,(i:Int))) (g:=fun r _=>crc1 r) (I:=fun _ s=>0≤s∧s < 4294967296) (e1:=fun s=>s) (fun i s hi hI=>⟨?_,crc1_rng s hI⟩) (fun s hI=>?_) r h).1
 ·simp only [lp_Ia_25,m_Ia_25,decide_eq_true_eq]
  rw [if_pos (by omega),w64_succ (by omega),crc1_impl s hI]
 ·simp only [lp_Ia_25,m_Ia_25]
  rfl
theorem spec_crc (l:List Int) (hl:l.length≤2305843009213693952):m_Sa l=some (crcF l):=by
 unfold m_Sa m_Sa_0
 have key:=fold_list (l:=l) (fun (s:Int) i=>(s,(i:Int))) (g:=fun r c=>crc8 (xorI .u32 r (wr .u32 c))) (I:=fun _ s=>0≤s∧s < 4294967296) (b:=lp_Sa_9 l) (e1:=fun s=>s)
  (fun i s hi hI=>⟨by
   simp only [lp_Sa_9,m_Sa_9,decide_eq_true_eq]
   rw [if_pos (by omega),rd_eq hi]
   simp only [Option.bind_some]
   rw [spec_crc8 _ _ _ (xor_rng _ _)]
   simp only [Option.bind_some,m_Sa_43]
   rw [w64_succ (by omega)],crc8_rng _ (xor_rng _ _)⟩)
  (fun s hI=>by
   simp only [lp_Sa_9,m_Sa_9]
   rw [if_neg (by simp)]) 4294967295 (by omega)
 have k1:=key.1
 simp only [show ((0:Nat):Int)=0 from rfl] at k1
 rw [k1]
 rfl
theorem impl_crc (l:List Int) (hl:l.length≤2305843009213693952):m_Ia l=some (crcF l):=by
 unfold m_Ia m_Ia_0
 have key:=fold_list (l:=l) (fun (s:Int) i=>(s,(i:Int))) (g:=fun r c=>crc8 (xorI .u32 r (wr .u32 c))) (I:=fun _ s=>0≤s∧s < 4294967296) (b:=lp_Ia_9 l) (e1:=fun s=>s)
  (fun i s hi hI=>⟨by
   simp only [lp_Ia_9,m_Ia_9,decide_eq_true_eq]
   rw [if_pos (by omega),rd_eq hi]
   simp only [Option.bind_some]
   rw [impl_crc8 _ _ _ (xor_rng _ _)]
   simp only [Option.bind_some,m_Ia_35]
   rw [w64_succ (by omega)],crc8_rng _ (xor_rng _ _)⟩)
  (fun s hI=>by
   simp only [lp_Ia_9,m_Ia_9]
   rw [if_neg (by simp)]) 4294967295 (by omega)
 have k1:=key.1
 simp only [show ((0:Nat):Int)=0 from rfl] at k1
 rw [k1]
 rfl
end Go.Proofs.V

namespace Go.Proofs.V
open Go
def slc (d:List Int) (a n:Nat):List Int:=(d.take (a+n)).drop a
theorem spec_take_bad (r:Ze) (n:Int) (he:r.err≠0):m_Sr r n=some ([],r):=by
 dsimp only [m_Sr,m_Sr_0,m_Sr_5,m_Sr_8]
 rw [if_neg (by simpa using he),if_neg (by simp),if_pos (by simpa using he)]
theorem spec_take_ok (r:Ze) (a n:Nat) (hd:r.data.length≤1048576) (he:r.err=0) (ha:r.at_=a) (h:a+n≤r.data.length) :
  m_Sr r n=some (slc r.data a n,{ r with at_:=((a+n:Nat):Int) }):=by
 dsimp only [m_Sr,m_Sr_0]
 rw [if_pos (by simpa using he),ha,w64_id (x:=(r.data.length:Int) - a) (by omega) (by omega),show decide ((n:Int) > (r.data.length:Int) - (a:Int))=false by simp;omega]
 dsimp only [m_Sr_5,m_Sr_8]
 rw [if_neg (by simp),if_neg (by simpa using he),ha,w64_id (x:=(a:Int)+n) (by omega) (by omega),w64_id (x:=(a:Int)+n - n) (by omega) (by omega),ck_eq (by omega)]
 simp only [Option.bind_some]
 rw [ck_eq (by omega)]
 simp only [Option.bind_some]
 have e1:Int.toNat ((a:Int)+n)=a+n:=by omega
 have e2:Int.toNat ((a:Int)+n - n)=a:=by omega
 rw [e1,e2]
 simp [slc]
theorem spec_take_no (r:Ze) (a n:Nat) (hd:r.data.length≤1048576) (he:r.err=0) (ha:r.at_=a) (ha2:a≤r.data.length) (h:r.data.length < a+n) :
  m_Sr r n=some ([],{ r with err:=2 }):=by
 dsimp only [m_Sr,m_Sr_0]
 rw [if_pos (by simpa using he),ha,w64_id (x:=(r.data.length:Int) - a) (by omega) (by omega),show decide ((n:Int) > (r.data.length:Int) - (a:Int))=true by simp;omega]
 dsimp only [m_Sr_5,m_Sj,m_Sj_0]
 rw [if_pos rfl,if_pos (by simpa using he)]
 simp only [Option.bind_some]
 dsimp only [m_Sr_8]
 rw [if_pos (by simp),ha]
theorem impl_bytes_bad (r:Zg) (n:Int) (he:r.err≠0):m_Il r n=some ([],r):=by
 dsimp only [m_Il,m_Il_0,m_Il_5,m_Im,m_Im_0]
 rw [if_pos (by simpa using he),if_pos rfl,if_neg (by simpa using he)]
 rfl
theorem impl_bytes_ok (r:Zg) (a n:Nat) (hd:r.b.length≤1048576) (he:r.err=0) (ha:r.at_=a) (h:a+n≤r.b.length) :
  m_Il r n=some (slc r.b a n,{ r with at_:=((a+n:Nat):Int) }):=by
 dsimp only [m_Il,m_Il_0]
 rw [if_neg (by simpa using he),ha,w64_id (x:=(r.b.length:Int) - a) (by omega) (by omega),show decide ((n:Int) > (r.b.length:Int) - (a:Int))=false by simp;omega]
 dsimp only [m_Il_5]
 rw [if_neg (by simp),ha,w64_id (x:=(a:Int)+n) (by omega) (by omega),ck_eq (by omega)]
 simp only [Option.bind_some]
 rw [ck_eq (by omega)]
 simp only [Option.bind_some]
 have e1:Int.toNat ((a:Int)+n)=a+n:=by omega
 rw [e1]
 simp [slc]
theorem impl_bytes_no (r:Zg) (a n:Nat) (hd:r.b.length≤1048576) (he:r.err=0) (ha:r.at_=a) (ha2:a≤r.b.length) (h:r.b.length < a+n) :
  m_Il r n=some ([],{ r with err:=2 }):=by
 dsimp only [m_Il,m_Il_0]
 rw [if_neg (by simpa using he),ha,w64_id (x:=(r.b.length:Int) - a) (by omega) (by omega),show decide ((n:Int) > (r.b.length:Int) - (a:Int))=true by simp;omega]
 dsimp only [m_Il_5,m_Im,m_Im_0]
 rw [if_pos rfl,if_pos (by simpa using he)]
 simp only [Option.bind_some]
 rw [ha]
theorem slc_one (d:List Int) (a:Nat) (h:a < d.length):slc d a 1=[d.getD a 0]:=by
 unfold slc
 rw [List.take_succ_eq_append_getElem h,List.drop_append_of_le_length (by simp;omega),List.drop_of_length_le (by simp;omega),List.nil_append,List.getD_eq_getElem?_getD,List.getElem?_eq_getElem h]
 rfl
theorem spec_byte_bad (r:Ze) (he:r.err≠0):m_Si r=some (0,r):=by
 dsimp only [m_Si,m_Si_0]
 rw [spec_take_bad r 1 he]
 simp only [Option.bind_some]
 rw [if_pos (by simpa using he)]
theorem impl_byte_bad (r:Zg) (he:r.err≠0):m_Ik r=some (0,r):=by
 dsimp only [m_Ik,m_Ik_0]
 rw [impl_bytes_bad r 1 he]
 rfl
theorem mem_gd {d:List Int} {a:Nat} (h:a < d.length):d.getD a 0 ∈ d:=by
 rw [List.getD_eq_getElem?_getD,List.getElem?_eq_getElem h];simp
theorem spec_byte_ok (r:Ze) (a:Nat) (hd:r.data.length≤1048576) (hb:∀ x ∈ r.data,0≤x∧x≤255) (he:r.err=0) (ha:r.at_=a) (h:a < r.data.length) :
  m_Si r=some (r.data.getD a 0,{ r with at_:=((a+1:Nat):Int) }):=by
 dsimp only [m_Si,m_Si_0]
 have:=spec_take_ok r a 1 hd he ha h
 rw [show ((1:Nat):Int)=1 from rfl] at this
 rw [this]
 simp only [Option.bind_some]
 have hx:=hb _ (mem_gd h)
 rw [if_neg (by simpa using he),slc_one _ _ h]
 show (some (r.data.getD a 0)).bind _=_
 simp only [Option.bind_some]
 rw [w64_id (by omega) (by omega)]
theorem impl_byte_ok (r:Zg) (a:Nat) (hd:r.b.length≤1048576) (hb:∀ x ∈ r.b,0≤x∧x≤255) (he:r.err=0) (ha:r.at_=a) (h:a < r.b.length) :
  m_Ik r=some (r.b.getD a 0,{ r with at_:=((a+1:Nat):Int) }):=by
 dsimp only [m_Ik,m_Ik_0]
 have:=impl_bytes_ok r a 1 hd he ha h
 rw [show ((1:Nat):Int)=1 from rfl] at this
 rw [this]
 simp only [Option.bind_some]
 have hx:=hb _ (mem_gd h)
 rw [slc_one _ _ h,if_pos (by simp)]
 show (some (r.b.getD a 0)).bind _=_
 simp only [Option.bind_some]
 rw [w64_id (by omega) (by omega)]
end Go.Proofs.V

namespace Go.Proofs.V
open Go
def numF (d:List Int) (a:Nat):Option (Int×Int):=if (gn0 d a).ok=true∧(gn0 d a).value≤4611686018427387904 then some ((gn0 d a).value,(gn0 d a).next) else none
theorem spec_number_bad (r:Ze) (he:r.err≠0):m_Sn r=some (0,r):=by
 dsimp only [m_Sn,m_Sn_0]
 rw [if_pos (by simpa using he)]
theorem impl_num_bad (r:Zg) (he:r.err≠0):m_Io r=some (0,r):=by
 dsimp only [m_Io,m_Io_0]
 rw [if_pos (by simpa using he)]
theorem spec_num_loop (r:Ze) (hd:r.data.length≤1048576):∀ (k a:Nat),a+k=r.data.length→∃ e,loopM (lp_Sn_21 r) (a:Int)=some e:=by
 intro k
 induction k with
 | zero=>
  intro a h
  refine ⟨a,?_⟩
  rw [loopM_eq]
  dsimp only [lp_Sn_21,m_Sn_21]
  rw [if_neg (by simp;omega)]
 | succ k ih=>
  intro a h
  rw [loopM_eq]
  dsimp only [lp_Sn_21,m_Sn_21]
  rw [if_pos (by simp;omega)]
  cases hq:decide ((a:Int) < w64 (r.at_+10)) with
  | false=>exact ⟨a,rfl⟩
  | true=>
   simp only [if_true]
   rw [rd_d 0 (by omega)]
   simp only [Option.bind_some]
   cases hq2:decide (r.data.getD a 0≥128) with
   | false=>exact ⟨a,rfl⟩
   | true=>
    simp only [if_true]
    rw [w64_succ (by omega)]
    exact ih (a+1) (by omega)
theorem spec_number (r:Ze) (a:Nat) (hd:r.data.length≤1048576) (hb:∀ x ∈ r.data,0≤x∧x≤255) (he:r.err=0) (ha:r.at_=a) (h:a≤r.data.length) :
  match numF r.data a with
  | some (v,n)=>m_Sn r=some (w64 v,{ r with at_:=n })
  | none=>∃ e,e≠0∧m_Sn r=some (0,{ r with err:=e }):=by
 have f:∀ e,m_Sj r e=some { r with err:=e }:=fun e=>by
  dsimp only [m_Sj,m_Sj_0]
  rw [if_pos (by simpa using he)]
 have hg:=spec_gn r.data a hd (by omega) hb
 have key:m_Sn r=if (gn0 r.data a).ok then (if decide ((gn0 r.data a).value > 4611686018427387904) then some (0,{ r with err:=5 }) else some (w64 (gn0 r.data a).value,{ r with at_:=(gn0 r.data a).next }))
   else (loopM (lp_Sn_21 r) r.at_).bind fun e=>m_Sn_29 r e:=by
  dsimp only [m_Sn,m_Sn_0]
  rw [if_neg (by simpa using he)]
  have:m_Sb r.data r.at_=some (gn0 r.data a):=by rw [ha];exact hg
  rw [this]
  simp only [Option.bind_some]
  rw [f]
  rfl
 unfold numF
 rw [key]
 cases hok:(gn0 r.data a).ok with
 | true=>
  by_cases hv:(gn0 r.data a).value≤4611686018427387904
  ·rw [if_pos ⟨rfl,hv⟩]
   simp only [if_true]
   rw [if_neg (by simp;omega)]
  ·rw [if_neg (fun hh=>hv hh.2)]
   exact ⟨5,by decide,by simp only [if_true];rw [if_pos (by simp;omega)]⟩
 | false=>
  rw [if_neg (fun hh=>by simp at hh)]
  obtain ⟨e,h1⟩ :=spec_num_loop r hd (r.data.length - a) a (by omega)
  rw [←ha] at h1
  simp only [Bool.false_eq_true,if_false]
  rw [h1]
  simp only [Option.bind_some]
  have e32:∀ q,∃ e,e≠0∧m_Sn_32 r q=some (0,{ r with err:=e }):=by
   intro q
   dsimp only [m_Sn_32]
   cases q with
   | true=>exact ⟨2,by decide,by rw [if_pos rfl,f];rfl⟩
   | false=>exact ⟨5,by decide,by rw [if_neg (by simp),f];rfl⟩
  dsimp only [m_Sn_29]
  split
  ·exact e32 _
  ·exact e32 _
theorem impl_num_loop (r:Zg) (hd:r.b.length≤1048576):∀ (k a:Nat) (err:Int),a+k=r.b.length→∃ e,loopM lp_Io_21 ((a:Int),r.b,r.at_,err)=some (r.b,r.at_,e)∧(err≠0→e≠0):=by
 intro k
 induction k with
 | zero=>
  intro a err h
  refine ⟨err,?_,id⟩
  rw [loopM_eq]
  dsimp only [lp_Io_21,m_Io_21]
  rw [if_neg (by simp;omega)]
 | succ k ih=>
  intro a err h
  rw [loopM_eq]
  dsimp only [lp_Io_21,m_Io_21]
  rw [if_pos (by simp;omega)]
  cases hq:decide ((a:Int) < w64 (r.at_+10)) with
  | false=>exact ⟨err,rfl,id⟩
  | true=>
   simp only [if_true]
   rw [rd_d 0 (by omega)]
   simp only [Option.bind_some]
   rw [w64_succ (by omega)]
   cases hq2:decide (r.b.getD a 0 < 128) with
   | false=>
    simp only [Bool.false_eq_true,if_false]
    exact ih (a+1) err (by omega)
   | true=>
    simp only [if_true]
    by_cases he:err=0
    ·subst he
     obtain ⟨e,h1,h2⟩ :=ih (a+1) 5 (by omega)
     exact ⟨e,h1,fun h=>absurd rfl h⟩
    ·obtain ⟨e,h1,h2⟩ :=ih (a+1) err (by omega)
     refine ⟨e,?_,h2⟩
     have:m_Im (Zg.mk r.b r.at_ err) 5=some (Zg.mk r.b r.at_ err):=by
      dsimp only [m_Im,m_Im_0]
      rw [if_neg (by simpa using he)]
     rw [this]
     exact h1
theorem impl_num (r:Zg) (a:Nat) (hd:r.b.length≤1048576) (hb:∀ x ∈ r.b,0≤x∧x≤255) (he:r.err=0) (ha:r.at_=a) (h:a≤r.b.length) :
  match numF r.b a with
  | some (v,n)=>m_Io r=some (w64 v,{ r with at_:=n })
  | none=>∃ e,e≠0∧m_Io r=some (0,{ r with err:=e }):=by
 have hg:=impl_gn r.b a hd (by omega) hb
 have f:∀ (b:List Int) (i err c:Int),c≠0→∃ e,e≠0∧m_Im (Zg.mk b i err) c=some (Zg.mk b i e):=fun b i err c hc=>by
  dsimp only [m_Im,m_Im_0]
  by_cases h0:err=0
  ·rw [if_pos (by simpa using h0)];exact ⟨c,hc,rfl⟩
  ·rw [if_neg (by simpa using h0)];exact ⟨err,h0,rfl⟩
 have key:m_Io r=if (gn0 r.b a).ok then (if decide ((gn0 r.b a).value > 4611686018427387904) then (m_Im (Zg.mk r.b r.at_ r.err) 5).bind fun x=>some (0,x) else some (w64 (gn0 r.b a).value,{ r with at_:=(gn0 r.b a).next }))
   else (loopM lp_Io_21 (r.at_,r.b,r.at_,r.err)).bind fun e=>m_Io_35 e.1 e.2.1 e.2.2:=by
  dsimp only [m_Io,m_Io_0]
  rw [if_neg (by simpa using he)]
  have:m_Ib r.b r.at_=some (gn0 r.b a):=by rw [ha];exact hg
  rw [this]
  rfl
 unfold numF
 rw [key]
 cases hok:(gn0 r.b a).ok with
 | true=>
  by_cases hv:(gn0 r.b a).value≤4611686018427387904
  ·rw [if_pos ⟨rfl,hv⟩]
   simp only [if_true]
   rw [if_neg (by simp;omega)]
  ·rw [if_neg (fun hh=>hv hh.2)]
   simp only [if_true]
   rw [if_pos (by simp;omega)]
   obtain ⟨e,h1,h2⟩ :=f r.b r.at_ r.err 5 (by decide)
   refine ⟨e,h1,?_⟩
   rw [h2];rfl
 | false=>
  rw [if_neg (fun hh=>by simp at hh)]
  simp only [Bool.false_eq_true,if_false]
  obtain ⟨e,h1,_⟩ :=impl_num_loop r hd (r.b.length - a) a r.err (by omega)
  rw [←ha] at h1
  rw [h1]
  simp only [Option.bind_some]
  have e41:∀ err,∃ e,e≠0∧m_Io_41 r.b r.at_ err=some (0,Zg.mk r.b r.at_ e):=fun err=>by
   obtain ⟨e,h3,h4⟩ :=f r.b r.at_ err 2 (by decide)
   refine ⟨e,h3,?_⟩
   dsimp only [m_Io_41]
   rw [h4];rfl
  dsimp only [m_Io_35]
  split
  ·obtain ⟨e',h3,h4⟩ :=f r.b r.at_ e 5 (by decide)
   rw [h4]
   exact e41 _
  ·exact e41 _
end Go.Proofs.V

set_option linter.unusedSectionVars false
namespace Go.Proofs.V
open Go
def RdS (d:List Int) (st:Option Nat) (at_ e:Int):Prop:=match st with | some a=>e=0∧at_=a∧a≤d.length | none=>e≠0
theorem orI_nn (x y:Int):0≤orI .u64 x y:=by
 have h:orI .u64 x y=wr .u64 (BitVec.ofInt IntKind.u64.bits x ||| BitVec.ofInt IntKind.u64.bits y).toNat:=rfl
 rw [h,wu64_eq];omega
theorem gnGo_facts (d:List Int) (a:Nat):∀ (k i:Nat) (v:Int),(gnGo d a k i v).ok=true→0≤(gnGo d a k i v).value∧∃ n:Nat,(gnGo d a k i v).next=n∧a < n∧n≤d.length
 | 0,i,v,h=>by simp [gnGo,num0] at h
 | k+1,i,v,h=>by
  unfold gnGo at h ⊢
  by_cases h1:d.length≤a+i
  ·rw [if_pos h1] at h;simp [num0] at h
  ·rw [if_neg h1] at h ⊢
   by_cases h2:i=9∧1 < d.getD (a+i) 0
   ·rw [if_pos h2] at h;simp [num0] at h
   ·rw [if_neg h2] at h ⊢
    by_cases h3:d.getD (a+i) 0 < 128
    ·rw [if_pos h3] at h ⊢
     by_cases h4:d.getD (a+i) 0=0∧0 < i
     ·rw [if_pos h4] at h;simp [num0] at h
     ·rw [if_neg h4] at h ⊢
      exact ⟨orI_nn _ _,a+i+1,by simp,by omega,by omega⟩
    ·rw [if_neg h3] at h ⊢
     exact gnGo_facts d a k (i+1) _ h
def numS (d:List Int) (st:Option Nat):Int×Option Nat:=match st with
 | none=>(0,none)
 | some a=>if (gn0 d a).ok=true∧(gn0 d a).value≤4611686018427387904 then ((gn0 d a).value,some (gn0 d a).next.toNat) else (0,none)
theorem numS_rng (d:List Int) (st:Option Nat):0≤(numS d st).1∧(numS d st).1≤4611686018427387904:=by
 cases st with
 | none=>exact ⟨by simp [numS],by simp [numS]⟩
 | some a=>
  unfold numS
  dsimp only
  by_cases h:(gn0 d a).ok=true∧(gn0 d a).value≤4611686018427387904
  ·rw [if_pos h];exact ⟨(gnGo_facts d a 10 0 0 h.1).1,h.2⟩
  ·rw [if_neg h];exact ⟨by simp,by simp⟩
def takeS (d:List Int) (n:Int) (st:Option Nat):List Int×Option Nat:=match st with
 | none=>([],none)
 | some a=>if (a:Int)+n≤d.length then (slc d a n.toNat,some (a+n.toNat)) else ([],none)
def byteS (d:List Int) (st:Option Nat):Int×Option Nat:=match st with
 | none=>(0,none)
 | some a=>if a < d.length then (d.getD a 0,some (a+1)) else (0,none)
def be4 (l:List Int):Int:=((l.getD 0 0*256+l.getD 1 0)*256+l.getD 2 0)*256+l.getD 3 0
def sumS (d:List Int) (f:Nat) (st:Option Nat):Option Nat:=match st with
 | none=>none
 | some a=>if a+4≤d.length∧be4 (slc d a 4)=crcF (slc d f (a - f)) then some (a+4) else none
section
variable {d:List Int} (hd:d.length≤1048576) (hb:∀ x ∈ d,0≤x∧x≤255)
include hd
theorem sp_take {st:Option Nat} {at_ e:Int} (h:RdS d st at_ e) (n:Int) (hn:0≤n∧n≤4611686018427387904) (B:Zd) (du by_:Int) (ix:List Za) :
  ∃ at' e',m_Sr (Ze.mk d at_ e B du by_ ix) n=some ((takeS d n st).1,Ze.mk d at' e' B du by_ ix)∧RdS d (takeS d n st).2 at' e':=by
 cases st with
 | none=>exact ⟨at_,e,spec_take_bad _ _ h,h⟩
 | some a=>
  obtain ⟨rfl,rfl,h3⟩ :=h
  obtain ⟨m,rfl⟩:∃ m:Nat,n=m:=⟨n.toNat,by omega⟩
  unfold takeS
  dsimp only
  by_cases h4:(a:Int)+(m:Int)≤d.length
  ·rw [if_pos h4]
   exact ⟨_,0,spec_take_ok (Ze.mk d a 0 B du by_ ix) a m hd rfl rfl (by show a+m≤d.length;omega),rfl,rfl,by simp;omega⟩
  ·rw [if_neg h4]
   exact ⟨_,2,spec_take_no (Ze.mk d a 0 B du by_ ix) a m hd rfl rfl h3 (by show d.length < a+m;omega),by show (2:Int)≠0;decide⟩
theorem im_take {st:Option Nat} {at_ e:Int} (h:RdS d st at_ e) (n:Int) (hn:0≤n∧n≤4611686018427387904) :
  ∃ at' e',m_Il (Zg.mk d at_ e) n=some ((takeS d n st).1,Zg.mk d at' e')∧RdS d (takeS d n st).2 at' e':=by
 cases st with
 | none=>exact ⟨at_,e,impl_bytes_bad _ _ h,h⟩
 | some a=>
  obtain ⟨rfl,rfl,h3⟩ :=h
  obtain ⟨m,rfl⟩:∃ m:Nat,n=m:=⟨n.toNat,by omega⟩
  unfold takeS
  dsimp only
  by_cases h4:(a:Int)+(m:Int)≤d.length
  ·rw [if_pos h4]
   exact ⟨_,0,impl_bytes_ok (Zg.mk d a 0) a m hd rfl rfl (by show a+m≤d.length;omega),rfl,rfl,by simp;omega⟩
  ·rw [if_neg h4]
   exact ⟨_,2,impl_bytes_no (Zg.mk d a 0) a m hd rfl rfl h3 (by show d.length < a+m;omega),by show (2:Int)≠0;decide⟩
omit hd in
theorem numS_F (a:Nat):(∃ v n:_,∃ m:Nat,numF d a=some (v,n)∧n=m∧a < m∧m≤d.length∧0≤v∧v≤4611686018427387904∧numS d (some a)=(v,some m))∨(numF d a=none∧numS d (some a)=(0,none)):=by
 unfold numF numS
 dsimp only
 by_cases h:(gn0 d a).ok=true∧(gn0 d a).value≤4611686018427387904
 ·rw [if_pos h,if_pos h]
  obtain ⟨h0,n,h1,h2,h3⟩ :=gnGo_facts d a 10 0 0 h.1
  have h1' : (gn0 d a).next=n:=h1
  exact .inl ⟨_,_,n,rfl,h1',h2,h3,h0,h.2,by rw [h1'];rfl⟩
 ·rw [if_neg h,if_neg h];exact .inr ⟨rfl,rfl⟩
include hb
theorem sp_number {st:Option Nat} {at_ e:Int} (h:RdS d st at_ e) (B:Zd) (du by_:Int) (ix:List Za) :
  ∃ at' e',m_Sn (Ze.mk d at_ e B du by_ ix)=some ((numS d st).1,Ze.mk d at' e' B du by_ ix)∧RdS d (numS d st).2 at' e':=by
 cases st with
 | none=>exact ⟨at_,e,spec_number_bad _ h,h⟩
 | some a=>
  obtain ⟨rfl,rfl,h3⟩ :=h
  have h4:=spec_number (Ze.mk d a 0 B du by_ ix) a hd hb rfl rfl h3
  rw [show (Ze.mk d a 0 B du by_ ix).data=d from rfl] at h4
  rcases numS_F a (d:=d) with ⟨v,n,m,h5,rfl,h6,h7,h8,h9,h10⟩ | ⟨h5,h10⟩
  ·rw [h5] at h4
   dsimp only at h4
   rw [w64_id (by omega) (by omega)] at h4
   rw [h10]
   exact ⟨_,0,h4,rfl,rfl,h7⟩
  ·rw [h5] at h4
   obtain ⟨e,h7,h8⟩ :=h4
   rw [h10]
   exact ⟨_,e,h8,h7⟩
theorem im_number {st:Option Nat} {at_ e:Int} (h:RdS d st at_ e) :
  ∃ at' e',m_Io (Zg.mk d at_ e)=some ((numS d st).1,Zg.mk d at' e')∧RdS d (numS d st).2 at' e':=by
 cases st with
 | none=>exact ⟨at_,e,impl_num_bad _ h,h⟩
 | some a=>
  obtain ⟨rfl,rfl,h3⟩ :=h
  have h4:=impl_num (Zg.mk d a 0) a hd hb rfl rfl h3
  rw [show (Zg.mk d a 0).b=d from rfl] at h4
  rcases numS_F a (d:=d) with ⟨v,n,m,h5,rfl,h6,h7,h8,h9,h10⟩ | ⟨h5,h10⟩
  ·rw [h5] at h4
   dsimp only at h4
   rw [w64_id (by omega) (by omega)] at h4
   rw [h10]
   exact ⟨_,0,h4,rfl,rfl,h7⟩
  ·rw [h5] at h4
   obtain ⟨e,h7,h8⟩ :=h4
   rw [h10]
   exact ⟨_,e,h8,h7⟩
theorem sp_byte {st:Option Nat} {at_ e:Int} (h:RdS d st at_ e) (B:Zd) (du by_:Int) (ix:List Za) :
  ∃ at' e',m_Si (Ze.mk d at_ e B du by_ ix)=some ((byteS d st).1,Ze.mk d at' e' B du by_ ix)∧RdS d (byteS d st).2 at' e':=by
 cases st with
 | none=>exact ⟨at_,e,spec_byte_bad _ h,h⟩
 | some a=>
  obtain ⟨rfl,rfl,h3⟩ :=h
  unfold byteS
  dsimp only
  by_cases h4:a < d.length
  ·rw [if_pos h4]
   exact ⟨_,0,spec_byte_ok (Ze.mk d a 0 B du by_ ix) a hd hb rfl rfl h4,rfl,rfl,by omega⟩
  ·rw [if_neg h4]
   refine ⟨(a:Int),2,?_,by show (2:Int)≠0;decide⟩
   dsimp only [m_Si,m_Si_0]
   have:=spec_take_no (Ze.mk d a 0 B du by_ ix) a 1 hd rfl rfl h3 (by show d.length < a+1;omega)
   rw [show ((1:Nat):Int)=1 from rfl] at this
   rw [this];rfl
theorem im_byte {st:Option Nat} {at_ e:Int} (h:RdS d st at_ e) :
  ∃ at' e',m_Ik (Zg.mk d at_ e)=some ((byteS d st).1,Zg.mk d at' e')∧RdS d (byteS d st).2 at' e':=by
 cases st with
 | none=>exact ⟨at_,e,impl_byte_bad _ h,h⟩
 | some a=>
  obtain ⟨rfl,rfl,h3⟩ :=h
  unfold byteS
  dsimp only
  by_cases h4:a < d.length
  ·rw [if_pos h4]
   exact ⟨_,0,impl_byte_ok (Zg.mk d a 0) a hd hb rfl rfl h4,rfl,rfl,by omega⟩
  ·rw [if_neg h4]
   refine ⟨(a:Int),2,?_,by show (2:Int)≠0;decide⟩
   dsimp only [m_Ik,m_Ik_0]
   have:=impl_bytes_no (Zg.mk d a 0) a 1 hd rfl rfl h3 (by show d.length < a+1;omega)
   rw [show ((1:Nat):Int)=1 from rfl] at this
   rw [this];rfl
omit hd hb in
theorem sp_fail {st:Option Nat} {at_ e:Int} (h:RdS d st at_ e) (c:Int) (hc:c≠0) (B:Zd) (du by_:Int) (ix:List Za) :
  ∃ at' e',m_Sj (Ze.mk d at_ e B du by_ ix) c=some (Ze.mk d at' e' B du by_ ix)∧RdS d none at' e':=by
 dsimp only [m_Sj,m_Sj_0]
 by_cases h0:e=0
 ·rw [if_pos (by simpa using h0)];exact ⟨_,c,rfl,hc⟩
 ·rw [if_neg (by simpa using h0)];exact ⟨_,e,rfl,h0⟩
omit hd hb in
theorem im_fail {st:Option Nat} {at_ e:Int} (h:RdS d st at_ e) (c:Int) (hc:c≠0) :
  ∃ at' e',m_Im (Zg.mk d at_ e) c=some (Zg.mk d at' e')∧RdS d none at' e':=by
 dsimp only [m_Im,m_Im_0]
 by_cases h0:e=0
 ·rw [if_pos (by simpa using h0)];exact ⟨_,c,rfl,hc⟩
 ·rw [if_neg (by simpa using h0)];exact ⟨_,e,rfl,h0⟩
omit hd in
theorem slc_b {a n:Nat} : ∀ x ∈ slc d a n,0≤x∧x≤255:=fun x hx=>hb x (List.mem_of_mem_take (List.mem_of_mem_drop hx))
omit hd hb in
theorem slc_ln {a n:Nat} (h:a+n≤d.length):(slc d a n).length=n:=by unfold slc;simp;omega
end
theorem four {l:List Int} (h:l.length=4):∃ a b c e,l=[a,b,c,e]:=by
 match l,h with
 | [a,b,c,e],_=>exact ⟨a,b,c,e,rfl⟩
theorem l5int4 (a b c e:Int) (ha:0≤a∧a≤255) (hb:0≤b∧b≤255) (hc:0≤c∧c≤255) (he:0≤e∧e≤255):m_Sx [a,b,c,e]=some (be4 [a,b,c,e]):=by
 have key:loopM (lp_Sx_9 [a,b,c,e]) (0,0)=some (be4 [a,b,c,e]):=by
  refine (loopM_fun (b:=lp_Sx_9 [a,b,c,e]) (fun i (s:Int)=>(s,(i:Int))) 4 (fun i=>([0,a,a*256+b,(a*256+b)*256+c,((a*256+b)*256+c)*256+e]:List Int).getD i 0) (e:=be4 [a,b,c,e]) ?_ ?_ :)
  ·intro i hi
   dsimp only [lp_Sx_9,m_Sx_9]
   match i,hi with
   | 0,_=>
    rw [if_pos (by simp),rd_d 0 (by simp)]
    simp only [Option.bind_some,List.getD_cons_zero,List.getD_cons_succ]
    rw [w64_id (x:=0*256) (by omega) (by omega),w64_id (x:=a) (by omega) (by omega),w64_id (by omega) (by omega),w64_succ (by omega)]
    simp
   | 1,_=>
    rw [if_pos (by simp),rd_d 0 (by simp)]
    simp only [Option.bind_some,List.getD_cons_zero,List.getD_cons_succ]
    rw [w64_id (x:=a*256) (by omega) (by omega),w64_id (x:=b) (by omega) (by omega),w64_id (by omega) (by omega),w64_succ (by omega)]
   | 2,_=>
    rw [if_pos (by simp),rd_d 0 (by simp)]
    simp only [Option.bind_some,List.getD_cons_zero,List.getD_cons_succ]
    rw [w64_id (x:=(a*256+b)*256) (by omega) (by omega),w64_id (x:=c) (by omega) (by omega),w64_id (by omega) (by omega),w64_succ (by omega)]
   | 3,_=>
    rw [if_pos (by simp),rd_d 0 (by simp)]
    simp only [Option.bind_some,List.getD_cons_zero,List.getD_cons_succ]
    rw [w64_id (x:=((a*256+b)*256+c)*256) (by omega) (by omega),w64_id (x:=e) (by omega) (by omega),w64_id (by omega) (by omega),w64_succ (by omega)]
  ·dsimp only [lp_Sx_9,m_Sx_9]
   rw [if_neg (by simp)]
   rfl
 dsimp only [m_Sx,m_Sx_0]
 rw [key];rfl
theorem zget4_4 (a b c e:Int) (ha:0≤a∧a≤255) (hb:0≤b∧b≤255) (hc:0≤c∧c≤255) (he:0≤e∧e≤255):m_Ih [a,b,c,e]=some (be4 [a,b,c,e]):=by
 obtain ⟨a,rfl⟩:∃ n:Nat,a=n:=⟨a.toNat,by omega⟩
 obtain ⟨b,rfl⟩:∃ n:Nat,b=n:=⟨b.toNat,by omega⟩
 obtain ⟨c,rfl⟩:∃ n:Nat,c=n:=⟨c.toNat,by omega⟩
 obtain ⟨e,rfl⟩:∃ n:Nat,e=n:=⟨e.toNat,by omega⟩
 dsimp only [m_Ih,m_Ih_0]
 rw [show ((0:Int))=((0:Nat):Int) from rfl,show ((1:Int))=((1:Nat):Int) from rfl,show ((2:Int))=((2:Nat):Int) from rfl,show ((3:Int))=((3:Nat):Int) from rfl,rd_d 0 (by simp),rd_d 0 (by simp),rd_d 0 (by simp),rd_d 0 (by simp)]
 simp only [Option.bind_some,List.getD_cons_zero,List.getD_cons_succ]
 rw [w64_id (x:=(a:Int)) (by omega) (by omega),w64_id (x:=(b:Int)) (by omega) (by omega),w64_id (x:=(c:Int)) (by omega) (by omega),w64_id (x:=(e:Int)) (by omega) (by omega)]
 have s24:=shl64i a 24 (by omega) (by omega)
 have s16:=shl64i b 16 (by omega) (by omega)
 have s8:=shl64i c 8 (by omega) (by omega)
 rw [show ((24:Nat):Int)=24 from rfl] at s24
 rw [show ((16:Nat):Int)=16 from rfl] at s16
 rw [show ((8:Nat):Int)=8 from rfl] at s8
 rw [s24,s16,s8,or64i _ _ (by omega) (by omega)]
 have e1:a*2 ^ 24 ||| b*2 ^ 16=(a*2 ^ 8+b)*2 ^ 16:=by rw [or_nat a (b*2 ^ 16) 24 (by omega)];omega
 rw [e1,or64i _ _ (by omega) (by omega)]
 have e2:(a*2 ^ 8+b)*2 ^ 16 ||| c*2 ^ 8=((a*2 ^ 8+b)*2 ^ 8+c)*2 ^ 8:=by rw [or_nat (a*2 ^ 8+b) (c*2 ^ 8) 16 (by omega)];omega
 rw [e2,or64i _ _ (by omega) (by omega),or_nat _ _ 8 (by omega)]
 unfold be4
 simp only [List.getD_cons_zero,List.getD_cons_succ]
 congr 1
section
variable {d:List Int} (hd:d.length≤1048576) (hb:∀ x ∈ d,0≤x∧x≤255)
include hd hb
theorem be4_both {a:Nat} (h:a+4≤d.length):m_Sx (slc d a 4)=some (be4 (slc d a 4))∧m_Ih (slc d a 4)=some (be4 (slc d a 4))∧0≤be4 (slc d a 4)∧be4 (slc d a 4) < 4294967296:=by
 have h1:=slc_b hb (a:=a) (n:=4)
 obtain ⟨x,y,z,w,h2⟩ :=four (slc_ln h)
 rw [h2] at h1 ⊢
 have hx:=h1 x (by simp)
 have hy:=h1 y (by simp)
 have hz:=h1 z (by simp)
 have hw:=h1 w (by simp)
 refine ⟨l5int4 x y z w hx hy hz hw,zget4_4 x y z w hx hy hz hw,?_⟩
 unfold be4
 simp only [List.getD_cons_zero,List.getD_cons_succ]
 omega
theorem sp_sum {st:Option Nat} {at_ e:Int} (h:RdS d st at_ e) (f:Nat) (hf:∀ a,st=some a→f≤a) (B:Zd) (du by_:Int) (ix:List Za) :
  ∃ at' e',m_Sq (Ze.mk d at_ e B du by_ ix) f=some (Ze.mk d at' e' B du by_ ix)∧RdS d (sumS d f st) at' e':=by
 dsimp only [m_Sq,m_Sq_0]
 obtain ⟨at1,e1,h1,h2⟩ :=sp_take hd h 4 (by omega) B du by_ ix
 rw [h1]
 simp only [Option.bind_some]
 cases st with
 | none=>
  have h2' : e1≠0:=h2
  rw [if_neg (by simpa using h2')]
  exact ⟨_,_,rfl,h2⟩
 | some a=>
  have hfa:=hf a rfl
  obtain ⟨rfl,rfl,h3⟩ :=h
  unfold takeS at h2 ⊢
  unfold sumS
  dsimp only at h2 ⊢
  by_cases h4:(a:Int)+4≤d.length
  ·have h4' : a+4≤d.length:=by omega
   rw [if_pos h4] at h2 ⊢
   obtain ⟨rfl,rfl,h5⟩ :=h2
   obtain ⟨b1,b2,b3,b4⟩ :=be4_both hd hb h4'
   rw [if_pos (by simp),show Int.toNat 4=4 from rfl,b1]
   simp only [Option.bind_some]
   rw [ck_eq (by omega)]
   simp only [Option.bind_some]
   rw [ck_eq (by simp;omega)]
   simp only [Option.bind_some,Int.toNat_natCast]
   have e3:(d.take a).drop f=slc d f (a - f):=by unfold slc;rw [show f+(a - f)=a by omega]
   rw [e3,spec_crc _ (by rw [slc_ln (by omega)];omega)]
   simp only [Option.bind_some]
   rw [wu32_id (by omega) (by omega)]
   dsimp only [m_Sq_6]
   by_cases h6:be4 (slc d a 4)=crcF (slc d f (a - f))
   ·rw [if_neg (by simpa using h6),if_pos ⟨h4',h6⟩]
    exact ⟨_,_,rfl,rfl,rfl,h5⟩
   ·rw [if_pos (by simpa using h6),if_neg (fun hh=>h6 hh.2)]
    exact ⟨((a+4:Nat):Int),3,rfl,by show (3:Int)≠0;decide⟩
  ·rw [if_neg h4] at h2
   have h2' : e1≠0:=h2
   rw [if_neg h4,if_neg (by simpa using h2'),if_neg (fun hh=>h4 (by omega))]
   exact ⟨_,_,rfl,h2⟩
theorem im_sum {st:Option Nat} {at_ e:Int} (h:RdS d st at_ e) (f:Nat) (hf:∀ a,st=some a→f≤a) :
  ∃ at' e',m_Iq (Zg.mk d at_ e) f=some (Zg.mk d at' e')∧RdS d (sumS d f st) at' e':=by
 dsimp only [m_Iq,m_Iq_0]
 obtain ⟨at1,e1,h1,h2⟩ :=im_take hd h 4 (by omega)
 rw [h1]
 simp only [Option.bind_some]
 cases st with
 | none=>
  have h2' : e1≠0:=h2
  rw [if_neg (by simpa using h2')]
  exact ⟨_,_,rfl,h2⟩
 | some a=>
  have hfa:=hf a rfl
  obtain ⟨rfl,rfl,h3⟩ :=h
  unfold takeS at h2 ⊢
  unfold sumS
  dsimp only at h2 ⊢
  by_cases h4:(a:Int)+4≤d.length
  ·have h4' : a+4≤d.length:=by omega
   rw [if_pos h4] at h2 ⊢
   obtain ⟨rfl,rfl,h5⟩ :=h2
   obtain ⟨b1,b2,b3,b4⟩ :=be4_both hd hb h4'
   rw [if_pos (by simp),show Int.toNat 4=4 from rfl,b2]
   simp only [Option.bind_some]
   rw [ck_eq (by omega)]
   simp only [Option.bind_some]
   rw [ck_eq (by simp;omega)]
   simp only [Option.bind_some,Int.toNat_natCast]
   have e3:(d.take a).drop f=slc d f (a - f):=by unfold slc;rw [show f+(a - f)=a by omega]
   have c1:=crcF_rng (slc d f (a - f))
   rw [e3,impl_crc _ (by rw [slc_ln (by omega)];omega)]
   simp only [Option.bind_some]
   rw [w64_id (by omega) (by omega)]
   dsimp only [m_Iq_6]
   by_cases h6:be4 (slc d a 4)=crcF (slc d f (a - f))
   ·rw [if_neg (by simpa using h6),if_pos ⟨h4',h6⟩]
    exact ⟨_,_,rfl,rfl,rfl,h5⟩
   ·rw [if_pos (by simpa using h6),if_neg (fun hh=>h6 hh.2)]
    exact ⟨((a+4:Nat):Int),3,rfl,by show (3:Int)≠0;decide⟩
  ·rw [if_neg h4] at h2
   have h2' : e1≠0:=h2
   rw [if_neg h4,if_neg (by simpa using h2'),if_neg (fun hh=>h4 (by omega))]
   exact ⟨_,_,rfl,h2⟩
end
end Go.Proofs.V

namespace Go.Proofs.V
open Go
theorem loop_all {b:Int→Option (Int⊕(Bool⊕Unit))} (n:Nat) (q:Nat→Bool) (i0:Nat) (step:∀ i:Nat,i0≤i→i < n→b (i:Int)=some (if q i then .inl (((i+1:Nat)):Int) else .inr (.inl false)))
  (done:∀ i:Nat,n≤i→i≤n+i0→b (i:Int)=some (.inr (.inr ()))):loopM b (i0:Int)=some (if (List.range' i0 (n - i0)).all q then .inr () else .inl false):=by
 have key:∀ (d i:Nat),n - i=d→i0≤i→i≤n+i0→loopM b (i:Int)=some (if (List.range' i (n - i)).all q then .inr () else .inl false):=by
  intro d
  induction d with
  | zero=>
   intro i hd h0 h1
   rw [loopM_eq,done i (by omega) h1,hd]
   rfl
  | succ d ih=>
   intro i hd h0 h1
   rw [loopM_eq,step i h0 (by omega),show n - i=(n - (i+1))+1 by omega,List.range'_succ,List.all_cons]
   cases hq:q i with
   | true=>
    simp only [if_true,Bool.true_and]
    exact ih (i+1) (by omega) (by omega) (by omega)
   | false=>simp
 exact key _ i0 rfl (Nat.le_refl _) (by omega)
def bytesOk (s:ByteArray):Bool:=s.data.toList.all fun b=>decide (32≤b.toNat)&&decide (b.toNat≤126)
def trackOk (t:Zb):Bool:=decide (1≤t.kind∧t.kind≤6∧1≤t.scale∧t.scale≤1000000∧t.name.size≤40)&&bytesOk t.name
theorem sat_eq {s:ByteArray} {i:Nat} (h:i < s.data.toList.length):sat s (i:Int)=some ((s.data.toList[i].toNat:Nat):Int):=by
 unfold sat
 rw [if_pos (by omega),Int.toNat_natCast]
 have h' : i < s.size:=by simpa using h
 rw [getElem?_pos s i h']
 rfl
theorem size_toList (s:ByteArray):s.data.toList.length=s.size:=Array.length_toList
theorem bytes_loop {s:ByteArray} {b:Int→Option (Int⊕(Bool⊕Unit))} (hs:s.size < 4611686018427387904) (h:∀ i:Int,b i=if (decide (i < (s.size:Int))) then (sat s i).bind fun x=>if (decide (x < 32)) then some (.inr (.inl false)) else if (decide (x > 126)) then some (.inr (.inl false)) else some (.inl (w64 (i+1))) else some (.inr (.inr ()))) :
  loopM b 0=some (bif bytesOk s then .inr () else .inl false):=by
 have hl:=size_toList s
 refine all_list (l:=s.data.toList) (q:=fun b=>decide (32≤b.toNat)&&decide (b.toNat≤126)) (by omega) (fun i hi=>?_) ?_
 ·rw [h,if_pos (by rw [←hl];simpa using hi),sat_eq hi]
  simp only [Option.bind_some]
  rw [w64_succ (by omega)]
  generalize s.data.toList[i].toNat=x
  by_cases h1:x < 32
  ·rw [if_pos (by simp;omega),if_neg (by simp;omega)]
  ·rw [if_neg (by simp;omega)]
   by_cases h2:x > 126
   ·rw [if_pos (by simp;omega),if_neg (by simp;omega)]
   ·rw [if_neg (by simp;omega),if_pos (by simp;omega)]
 ·rw [h,if_neg (by rw [hl];simp)]
theorem spec_track (t:Zb) (h:t.name.size < 4611686018427387904):m_Sv t=some (trackOk t):=by
 simp only [m_Sv,m_Sv_0,m_Se,m_Se_0]
 rw [bytes_loop (b:=lp_Se_7 t.name) h (fun i=>rfl)]
 unfold trackOk
 by_cases h1:1≤t.kind
 ·rw [if_pos (by simpa using h1)]
  by_cases h2:t.kind≤6
  ·rw [if_pos (by simpa using h2)]
   by_cases h3:1≤t.scale
   ·rw [if_pos (by simpa using h3)]
    by_cases h4:t.scale≤1000000
    ·rw [if_pos (by simpa using h4)]
     by_cases h5:t.name.size≤40
     ·rw [if_pos (by simp;omega)]
      cases bytesOk t.name <;> simp [h1,h2,h3,h4,h5,m_Se_23]
     ·rw [if_neg (by simp;omega)];simp [h5]
    ·rw [if_neg (by simpa using h4)];simp [h4]
   ·rw [if_neg (by simpa using h3)];simp [h3]
  ·rw [if_neg (by simpa using h2)];simp [h2]
 ·rw [if_neg (by simpa using h1)];simp [h1]
theorem impl_track (t:Zb) (h:t.name.size < 4611686018427387904):m_It t=some (trackOk t):=by
 simp only [m_It,m_It_0]
 rw [bytes_loop (b:=lp_It_15 t) h (fun i=>rfl)]
 unfold trackOk
 by_cases h1:1≤t.kind
 ·rw [if_neg (by simp;omega)]
  by_cases h2:t.kind≤6
  ·rw [if_neg (by simp;omega)]
   by_cases h3:1≤t.scale
   ·rw [if_neg (by simp;omega)]
    by_cases h4:t.scale≤1000000
    ·rw [if_neg (by simp;omega)]
     by_cases h5:t.name.size≤40
     ·rw [if_neg (by simp;omega)]
      cases bytesOk t.name <;> simp [h1,h2,h3,h4,h5,m_It_33]
     ·rw [if_pos (by simp;omega)];simp [h5]
    ·rw [if_pos (by simp;omega)];simp [h4]
   ·rw [if_pos (by simp;omega)];simp [h3]
  ·rw [if_pos (by simp;omega)];simp [h2]
 ·rw [if_pos (by simp;omega)];simp [h1]
def ticksOk (n:Int):Bool:=decide (0≤n∧n≤1000000000)
theorem spec_ticks (n:Int):m_Su n=some (ticksOk n):=by
 simp only [m_Su,m_Su_0,ticksOk]
 by_cases h:0≤n
 ·rw [if_pos (by simpa using h)];simp [h]
 ·rw [if_neg (by simpa using h)];simp [h]
theorem impl_ticks (n:Int):m_Is n=some (ticksOk n):=spec_ticks n
def SmT (l:List Zb):Prop:=l.length≤1048576∧∀ t ∈ l,t.name.size≤1048576
end Go.Proofs.V

namespace Go.Proofs.V
open Go
theorem loop_step {τ ε:Type} {b:τ→Option (τ⊕ε)} {s s' : τ} (h:b s=some (.inl s')):loopM b s=loopM b s':=by rw [loopM_eq,h]
theorem loop_end {τ ε:Type} {b:τ→Option (τ⊕ε)} {s:τ} {e:ε} (h:b s=some (.inr e)):loopM b s=some e:=by rw [loopM_eq,h]
theorem bytesOf_some:∀ (l:List Int),(∀ x ∈ l,0≤x∧x≤255)→∃ bs,bytesOf (l.map (rI .u8))=some bs∧bs.length=l.length
 | [],_=>⟨[],rfl,rfl⟩
 | x::l,h=>by
  obtain ⟨bs,h1,h2⟩ :=bytesOf_some l (fun y hy=>h y (List.mem_cons_of_mem _ hy))
  have hx:=h x List.mem_cons_self
  refine ⟨UInt8.ofNat x.toNat::bs,?_,by simp [h2]⟩
  show (if 0≤x∧x≤255 then (bytesOf (l.map (rI .u8))).map (UInt8.ofNat x.toNat :: ·) else none)=_
  rw [if_pos hx,h1];rfl
def nameOf (l:List Int):ByteArray:=(bstr l).getD default
theorem bstr_name {l:List Int} (h:∀ x ∈ l,0≤x∧x≤255):bstr l=some (nameOf l)∧(nameOf l).size=l.length:=by
 obtain ⟨bs,h1,h2⟩ :=bytesOf_some l h
 have h3:bstr l=some ⟨bs.toArray⟩ :=by unfold bstr;rw [h1];rfl
 unfold nameOf
 rw [h3]
 exact ⟨rfl,by rw [←h2];rfl⟩
def mkS (d:List Int) (c:Int) (st:Option Nat):Option Nat:=if (byteS d st).1=c then (byteS d st).2 else none
def magS (d:List Int):Option Nat:=mkS d 49 (mkS d 88 (mkS d 79 (mkS d 66 (some 0))))
def trkT (d:List Int) (st:Option Nat):Zb×Option Nat:=
 (⟨(byteS d st).1,(numS d (byteS d st).2).1,nameOf (takeS d (byteS d (numS d (byteS d st).2).2).1 (byteS d (numS d (byteS d st).2).2).2).1⟩,(takeS d (byteS d (numS d (byteS d st).2).2).1 (byteS d (numS d (byteS d st).2).2).2).2)
def trkS (d:List Int) (st:Option Nat):Zb×Option Nat:=((trkT d st).1,if trackOk (trkT d st).1=true then (trkT d st).2 else none)
def tracksS (d:List Int):Nat→List Zb→Nat→Option (List Zb×Nat)
 | 0,acc,a=>some (acc,a)
 | k+1,acc,a=>match (trkS d (some a)).2 with | some b=>tracksS d k (acc++[(trkS d (some a)).1]) b | none=>none
def headS (d:List Int):Option (List Zb×Nat):=match (byteS d (magS d)).2 with
 | none=>none
 | some b=>if 1≤(byteS d (magS d)).1∧(byteS d (magS d)).1≤8 then (match tracksS d (byteS d (magS d)).1.toNat [] b with | none=>none | some (l,c)=>(match sumS d 0 (some c) with | none=>none | some e=>some (l,e))) else none
theorem byteS_none (d:List Int):byteS d none=(0,none):=rfl
theorem mkS_none (d:List Int) (c:Int):mkS d c none=none:=by unfold mkS byteS;simp
section
variable {d:List Int} (hd:d.length≤1048576) (hb:∀ x ∈ d,0≤x∧x≤255)
theorem takeS_len (n:Int) (st:Option Nat):(takeS d n st).1.length≤d.length:=by
 unfold takeS
 cases st with
 | none=>simp
 | some a=>
  dsimp only
  split
  ·unfold slc;simp;omega
  ·simp
theorem RdS_e {st:Option Nat} {at_ e:Int} (h:RdS d st at_ e):(e == 0)=st.isSome:=by
 cases st with
 | none=>have h' : e≠0:=h;simpa using h'
 | some a=>simp [h.1]
theorem RdS_ne {st:Option Nat} {at_ e:Int} (h:RdS d st at_ e):(e != 0)=st.isNone:=by
 cases st with
 | none=>have h' : e≠0:=h;simpa using h'
 | some a=>simp [h.1]
include hb
theorem byteS_rng (st:Option Nat):0≤(byteS d st).1∧(byteS d st).1≤255:=by
 unfold byteS
 cases st with
 | none=>simp
 | some a=>
  dsimp only
  by_cases h:a < d.length
  ·rw [if_pos h];exact hb _ (mem_gd h)
  ·rw [if_neg h];simp
theorem takeS_b (n:Int) (st:Option Nat):∀ x ∈ (takeS d n st).1,0≤x∧x≤255:=by
 unfold takeS
 cases st with
 | none=>simp
 | some a=>
  dsimp only
  split
  ·exact slc_b hb
  ·simp
include hd
theorem trk_name (st:Option Nat):bstr (takeS d (byteS d (numS d (byteS d st).2).2).1 (byteS d (numS d (byteS d st).2).2).2).1=some (trkT d st).1.name∧(trkT d st).1.name.size≤1048576:=by
 have h1:=bstr_name (takeS_b hb (byteS d (numS d (byteS d st).2).2).1 (byteS d (numS d (byteS d st).2).2).2)
 have h2:=takeS_len (d:=d) (byteS d (numS d (byteS d st).2).2).1 (byteS d (numS d (byteS d st).2).2).2
 exact ⟨h1.1,by show (nameOf _).size≤_;rw [h1.2];omega⟩
theorem spec_mag_step {st:Option Nat} {at_ e:Int} (h:RdS d st at_ e) (i:Nat) (hi:i < 4) (c:Int) (hc:([66,79,88,49]:List Int)[i]? = some c) (du by_:Int) (T:List Zb) (P:List Zc) (ix:List Za) :
  ∃ at' e',lp_Sk_5 ((i:Int),d,at_,e,du,by_,([66,79,88,49]:List Int),T,P,ix)=some (.inl (((i+1:Nat):Int),d,at',e',du,by_,([66,79,88,49]:List Int),T,P,ix))∧RdS d (mkS d c st) at' e':=by
 dsimp only [lp_Sk_5,m_Sk_5]
 have hr:rd ([66,79,88,49]:List Int) (i:Int)=some c:=by unfold rd;rw [if_pos (by omega)];exact hc
 have hc2:w64 c=c:=by
  have:c ∈ ([66,79,88,49]:List Int):=List.mem_of_getElem? hc
  simp at this
  rcases this with rfl | rfl | rfl | rfl <;> exact w64_id (by omega) (by omega)
 rw [if_pos (by simp;omega),hr]
 simp only [Option.bind_some]
 obtain ⟨at1,e1,h1,h2⟩ :=sp_byte hd hb h (Zd.mk T P) du by_ ix
 rw [h1]
 simp only [Option.bind_some]
 rw [RdS_e h2,hc2]
 unfold mkS
 dsimp only [m_Sk_19]
 rw [w64_succ (by omega)]
 cases hq:(byteS d st).2 with
 | none=>
  simp only [Option.isSome_none,Bool.false_eq_true,if_false]
  rw [hq] at h2
  exact ⟨_,_,rfl,by split <;> exact h2⟩
 | some b=>
  simp only [Option.isSome_some,if_true]
  rw [hq] at h2
  by_cases hc3:(byteS d st).1=c
  ·rw [if_neg (by simpa using hc3),if_pos hc3]
   exact ⟨_,_,rfl,h2⟩
  ·rw [if_pos (by simpa using hc3),if_neg hc3]
   obtain ⟨at3,e3,h3,h4⟩ :=sp_fail h2 4 (by decide) (Zd.mk T P) du by_ ix
   rw [h3]
   exact ⟨_,_,rfl,h4⟩
theorem spec_mag (du by_:Int) (T:List Zb) (P:List Zc) (ix:List Za) :
  ∃ at' e',loopM lp_Sk_5 (0,d,0,0,du,by_,([66,79,88,49]:List Int),T,P,ix)=some (d,at',e',du,by_,T,P,ix)∧RdS d (magS d) at' e':=by
 have h0:RdS d (some 0) 0 0:=⟨rfl,rfl,Nat.zero_le _⟩
 obtain ⟨a1,e1,h1,g1⟩ :=spec_mag_step hd hb h0 0 (by omega) 66 rfl du by_ T P ix
 obtain ⟨a2,e2,h2,g2⟩ :=spec_mag_step hd hb g1 1 (by omega) 79 rfl du by_ T P ix
 obtain ⟨a3,e3,h3,g3⟩ :=spec_mag_step hd hb g2 2 (by omega) 88 rfl du by_ T P ix
 obtain ⟨a4,e4,h4,g4⟩ :=spec_mag_step hd hb g3 3 (by omega) 49 rfl du by_ T P ix
 refine ⟨a4,e4,?_,g4⟩
 refine (loop_step h1).trans ((loop_step h2).trans ((loop_step h3).trans ((loop_step h4).trans (loop_end ?_))))
 dsimp only [lp_Sk_5,m_Sk_5]
 rw [if_neg (by simp)]
theorem spec_trk_step (x:Int×Ze) (n:Nat) (hx:x.1=n) (hn:n≤255) (du by_:Int) (P:List Zc) (ix:List Za) (i:Nat) (T:List Zb) (a:Nat) (hi:i < n) (hT:T.length=i) (ha:a≤d.length) :
  ∃ at' e',lp_Sk_36 x ((i:Int),d,(a:Int),0,du,by_,T,P,ix)=some (.inl (((i+1:Nat):Int),d,at',e',du,by_,T++[(trkS d (some a)).1],P,ix))∧RdS d (trkS d (some a)).2 at' e':=by
 dsimp only [lp_Sk_36,m_Sk_36]
 have h0:RdS d (some a) a 0:=⟨rfl,rfl,ha⟩
 rw [if_pos (by rw [hx];simp;omega),if_pos (by simp)]
 obtain ⟨a1,e1,h1,g1⟩ :=sp_byte hd hb h0 (Zd.mk T P) du by_ ix
 rw [h1]
 simp only [Option.bind_some]
 obtain ⟨a2,e2,h2,g2⟩ :=sp_number hd hb g1 (Zd.mk T P) du by_ ix
 rw [h2]
 simp only [Option.bind_some]
 obtain ⟨a3,e3,h3,g3⟩ :=sp_byte hd hb g2 (Zd.mk T P) du by_ ix
 rw [h3]
 simp only [Option.bind_some]
 have hr3:=byteS_rng hb (numS d (byteS d (some a)).2).2
 obtain ⟨a4,e4,h4,g4⟩ :=sp_take hd g3 (byteS d (numS d (byteS d (some a)).2).2).1 (by omega) (Zd.mk T P) du by_ ix
 rw [h4]
 simp only [Option.bind_some]
 obtain ⟨n1,n2⟩ :=trk_name hd hb (some a)
 rw [n1]
 simp only [Option.bind_some]
 rw [RdS_e g4]
 have e58:∀ at_ e,m_Sk_58 x (i:Int) ((byteS d (some a)).1,Ze.mk d a1 e1 (Zd.mk T P) du by_ ix) ((numS d (byteS d (some a)).2).1,Ze.mk d a2 e2 (Zd.mk T P) du by_ ix) (trkT d (some a)).1.name d at_ e du by_ T P ix=some (.inl (((i+1:Nat):Int),d,at_,e,du,by_,T++[(trkT d (some a)).1],P,ix)):=by
  intro at_ e
  dsimp only [m_Sk_58]
  rw [ck_eq (by simp;omega)]
  simp only [Option.bind_some]
  rw [w64_succ (by omega)]
  rfl
 have g4' : RdS d (trkT d (some a)).2 a4 e4:=g4
 have et:Zb.mk (byteS d (some a)).1 (numS d (byteS d (some a)).2).1 (trkT d (some a)).1.name=(trkT d (some a)).1:=rfl
 rw [show (takeS d (byteS d (numS d (byteS d (some a)).2).2).1 (byteS d (numS d (byteS d (some a)).2).2).2).2=(trkT d (some a)).2 from rfl,et]
 unfold trkS
 dsimp only
 cases hq:(trkT d (some a)).2 with
 | none=>
  rw [hq] at g4'
  simp only [Option.isSome_none,Bool.false_eq_true,if_false,ite_self]
  dsimp only [m_Sk_55]
  rw [if_neg (by simp),e58]
  exact ⟨_,_,rfl,g4'⟩
 | some b=>
  rw [hq] at g4'
  simp only [Option.isSome_some,if_true]
  rw [spec_track _ (by omega)]
  simp only [Option.bind_some]
  dsimp only [m_Sk_55]
  cases trackOk (trkT d (some a)).1 with
  | true=>
   rw [if_neg (by simp),e58,if_pos rfl]
   exact ⟨_,_,rfl,g4'⟩
  | false=>
   obtain ⟨a5,e5,h5,g5⟩ :=sp_fail g4' 5 (by decide) (Zd.mk T P) du by_ ix
   rw [if_pos (by simp),h5]
   simp only [Option.bind_some]
   rw [e58,if_neg (by simp)]
   exact ⟨_,_,rfl,g5⟩
theorem spec_tracks_loop (x:Int×Ze) (n:Nat) (hx:x.1=n) (hn:n≤255) (du by_:Int) (P:List Zc) (ix:List Za):∀ (k i:Nat) (T:List Zb) (a:Nat),i+k=n→T.length=i→a≤d.length→
  ∃ at' e' T',loopM (lp_Sk_36 x) ((i:Int),d,(a:Int),0,du,by_,T,P,ix)=some (d,at',e',du,by_,T',P,ix)∧(match tracksS d k T a with | some (l,b)=>T' = l∧RdS d (some b) at' e' | none=>e'≠0):=by
 intro k
 induction k with
 | zero=>
  intro i T a hi hT ha
  rw [loopM_eq]
  dsimp only [lp_Sk_36,m_Sk_36]
  rw [if_neg (by rw [hx];simp;omega)]
  exact ⟨_,_,_,rfl,rfl,rfl,rfl,ha⟩
 | succ k ih=>
  intro i T a hi hT ha
  obtain ⟨a1,e1,h1,g1⟩ :=spec_trk_step hd hb x n hx hn du by_ P ix i T a (by omega) hT ha
  rw [loop_step h1]
  unfold tracksS
  cases hq:(trkS d (some a)).2 with
  | none=>
   rw [hq] at g1
   have g1' : e1≠0:=g1
   refine ⟨a1,e1,T++[(trkS d (some a)).1],loop_end ?_,g1'⟩
   dsimp only [lp_Sk_36,m_Sk_36]
   rw [if_neg (show ¬ ((e1 == 0)=true) by simpa using g1'),ite_self]
  | some b=>
   rw [hq] at g1
   obtain ⟨rfl,rfl,hb'⟩ :=g1
   exact ih (i+1) _ b (by omega) (by simp;omega) hb'
theorem spec_head (du by_:Int) (ix:List Za) (P:List Zc):∃ at' e' T',m_Sk (Ze.mk d 0 0 (Zd.mk [] P) du by_ ix)=some (Ze.mk d at' e' (Zd.mk T' P) du by_ ix)∧(match headS d with | some (l,b)=>T' = l∧RdS d (some b) at' e' | none=>e'≠0):=by
 dsimp only [m_Sk,m_Sk_0]
 obtain ⟨a1,e1,h1,g1⟩ :=spec_mag hd hb du by_ [] P ix
 rw [h1]
 simp only [Option.bind_some]
 dsimp only [m_Sk_23]
 obtain ⟨a2,e2,h2,g2⟩ :=sp_byte hd hb g1 (Zd.mk [] P) du by_ ix
 rw [h2]
 simp only [Option.bind_some]
 rw [RdS_e g2]
 have hr:=byteS_rng hb (magS d)
 have bad:∀ (at_ e:Int),e≠0→∃ at' e' T',m_Sk_31 ((byteS d (magS d)).1,Ze.mk d a2 e2 (Zd.mk [] P) du by_ ix) d at_ e du by_ [] P ix=some (Ze.mk d at' e' (Zd.mk T' P) du by_ ix)∧e'≠0:=by
  intro at_ e he
  dsimp only [m_Sk_31]
  rw [loop_end (e:=(d,at_,e,du,by_,[],P,ix)) (by
   dsimp only [lp_Sk_36,m_Sk_36]
   rw [if_neg (show ¬ ((e == 0)=true) by simpa using he),ite_self])]
  simp only [Option.bind_some]
  dsimp only [m_Sk_60]
  obtain ⟨a3,e3,h3,g3⟩ :=sp_sum hd hb (show RdS d none at_ e from he) 0 (by simp) (Zd.mk [] P) du by_ ix
  rw [show ((0:Int))=((0:Nat):Int) from rfl,h3]
  exact ⟨_,_,_,rfl,g3⟩
 unfold headS
 cases hq:(byteS d (magS d)).2 with
 | none=>
  rw [hq] at g2
  simp only [Option.isSome_none,Bool.false_eq_true,if_false]
  dsimp only [m_Sk_28]
  rw [if_neg (by simp)]
  exact bad _ _ g2
 | some b=>
  rw [hq] at g2
  simp only [Option.isSome_some,if_true]
  have e28:(if decide ((byteS d (magS d)).1 < 1)=true then m_Sk_28 ((byteS d (magS d)).1,Ze.mk d a2 e2 (Zd.mk [] P) du by_ ix) true else m_Sk_28 ((byteS d (magS d)).1,Ze.mk d a2 e2 (Zd.mk [] P) du by_ ix) (decide ((byteS d (magS d)).1 > 8)))
    = m_Sk_28 ((byteS d (magS d)).1,Ze.mk d a2 e2 (Zd.mk [] P) du by_ ix) (!decide (1≤(byteS d (magS d)).1∧(byteS d (magS d)).1≤8)):=by
   by_cases k1:(byteS d (magS d)).1 < 1
   ·rw [if_pos (by simpa using k1),show decide (1≤(byteS d (magS d)).1∧(byteS d (magS d)).1≤8)=false by simp;omega];rfl
   ·rw [if_neg (by simpa using k1)]
    congr 1
    by_cases k2:(byteS d (magS d)).1≤8
    ·rw [show decide (1≤(byteS d (magS d)).1∧(byteS d (magS d)).1≤8)=true by simp;omega,show decide ((byteS d (magS d)).1 > 8)=false by simp;omega];rfl
    ·rw [show decide (1≤(byteS d (magS d)).1∧(byteS d (magS d)).1≤8)=false by simp;omega,show decide ((byteS d (magS d)).1 > 8)=true by simp;omega];rfl
  rw [e28]
  dsimp only [m_Sk_28]
  by_cases k:1≤(byteS d (magS d)).1∧(byteS d (magS d)).1≤8
  ·rw [if_neg (by rw [decide_eq_true k];simp),if_pos k]
   dsimp only [m_Sk_31]
   obtain ⟨rfl,rfl,hb2⟩ :=g2
   obtain ⟨n,hn⟩:∃ n:Nat,(byteS d (magS d)).1=n:=⟨(byteS d (magS d)).1.toNat,by omega⟩
   obtain ⟨a3,e3,T',h3,g3⟩ :=spec_tracks_loop hd hb ((byteS d (magS d)).1,Ze.mk d b 0 (Zd.mk [] P) du by_ ix) n hn (by omega) du by_ P ix n 0 [] b (by omega) rfl hb2
   rw [show (((0:Nat):Int))=0 from rfl] at h3
   rw [h3]
   simp only [Option.bind_some]
   dsimp only [m_Sk_60]
   rw [hn,Int.toNat_natCast]
   cases hqq:tracksS d n [] b with
   | none=>
    rw [hqq] at g3
    obtain ⟨a4,e4,h4,g4⟩ :=sp_sum hd hb (show RdS d none a3 e3 from g3) 0 (by simp) (Zd.mk T' P) du by_ ix
    rw [show ((0:Int))=((0:Nat):Int) from rfl,h4]
    exact ⟨_,_,_,rfl,g4⟩
   | some lc=>
    obtain ⟨l,c⟩ :=lc
    rw [hqq] at g3
    obtain ⟨rfl,g3⟩ :=g3
    obtain ⟨a4,e4,h4,g4⟩ :=sp_sum hd hb g3 0 (by simp) (Zd.mk T' P) du by_ ix
    rw [show ((0:Int))=((0:Nat):Int) from rfl,h4]
    refine ⟨_,_,_,rfl,?_⟩
    dsimp only
    cases hs:sumS d 0 (some c) with
    | none=>rw [hs] at g4;exact g4
    | some e=>rw [hs] at g4;exact ⟨rfl,g4⟩
  ·rw [if_pos (by rw [decide_eq_false k];rfl),if_neg k]
   obtain ⟨a5,e5,h5,g5⟩ :=sp_fail g2 5 (by decide) (Zd.mk [] P) du by_ ix
   rw [h5]
   simp only [Option.bind_some]
   exact bad _ _ g5
omit hd hb in
theorem byteS_lt {i:Nat} (h:i < d.length):byteS d (some i)=(d.getD i 0,some (i+1)):=by unfold byteS;dsimp only;rw [if_pos h]
omit hd hb in
theorem byteS_ge {i:Nat} (h : ¬ i < d.length):byteS d (some i)=(0,none):=by unfold byteS;dsimp only;rw [if_neg h]
omit hd hb in
theorem mkS_some {c:Int} {i b:Nat} (h:mkS d c (some i)=some b):b=i+1∧i < d.length∧d.getD i 0=c:=by
 unfold mkS at h
 by_cases h1:i < d.length
 ·rw [byteS_lt h1] at h
  dsimp only at h
  by_cases h2:d.getD i 0=c
  ·rw [if_pos h2] at h
   exact ⟨by simpa using h.symm,h1,h2⟩
  ·rw [if_neg h2] at h;simp at h
 ·rw [byteS_ge h1] at h;simp at h
omit hd hb in
theorem zm_step (s:ByteArray) (hs:s.size=4) (i:Nat) (hi:i < 4) (c:Int) (hc:sat s (i:Int)=some c) :
  ∃ e:Int,e≠0∧lp_Ii_7 d s (i:Int)=match mkS d c (some i) with | some _=>some (.inl ((i+1:Nat):Int)) | none=>some (.inr (.inl e)):=by
 dsimp only [lp_Ii_7,m_Ii_7]
 rw [if_pos (by rw [hs];simp;omega)]
 unfold mkS
 by_cases h1:i < d.length
 ·rw [byteS_lt h1,if_neg (by simp;omega),rd_d 0 h1,hc]
  simp only [Option.bind_some]
  refine ⟨4,by decide,?_⟩
  rw [w64_succ (by omega)]
  by_cases h2:d.getD i 0=c
  ·rw [if_pos h2,if_neg (by simpa using h2)]
  ·rw [if_neg h2,if_pos (by simpa using h2)]
 ·rw [byteS_ge h1,if_pos (by simp;omega)]
  refine ⟨2,by decide,?_⟩
  simp
omit hd hb in
theorem impl_mag:∃ c,m_Ii d (ByteArray.mk #[66,79,88,49])=some c∧(match magS d with | some a=>c=0∧a=4∧4≤d.length | none=>c≠0):=by
 dsimp only [m_Ii,m_Ii_0]
 obtain ⟨e1,h1,s1⟩ :=zm_step (d:=d) (ByteArray.mk #[66,79,88,49]) rfl 0 (by omega) 66 rfl
 obtain ⟨e2,h2,s2⟩ :=zm_step (d:=d) (ByteArray.mk #[66,79,88,49]) rfl 1 (by omega) 79 rfl
 obtain ⟨e3,h3,s3⟩ :=zm_step (d:=d) (ByteArray.mk #[66,79,88,49]) rfl 2 (by omega) 88 rfl
 obtain ⟨e4,h4,s4⟩ :=zm_step (d:=d) (ByteArray.mk #[66,79,88,49]) rfl 3 (by omega) 49 rfl
 unfold magS
 cases q1:mkS d 66 (some 0) with
 | none=>
  rw [q1] at s1
  rw [loop_end (s:=(0:Int)) (e:=.inl e1) s1,mkS_none,mkS_none,mkS_none]
  exact ⟨_,rfl,h1⟩
 | some b1=>
  rw [q1] at s1
  obtain ⟨rfl,_,_⟩ :=mkS_some q1
  rw [loop_step (s:=(0:Int)) (s':=((1:Nat):Int)) s1]
  cases q2:mkS d 79 (some 1) with
  | none=>
   rw [q2] at s2
   rw [loop_end (e:=.inl e2) s2,mkS_none,mkS_none]
   exact ⟨_,rfl,h2⟩
  | some b2=>
   rw [q2] at s2
   obtain ⟨rfl,_,_⟩ :=mkS_some q2
   rw [loop_step (s':=((2:Nat):Int)) s2]
   cases q3:mkS d 88 (some 2) with
   | none=>
    rw [q3] at s3
    rw [loop_end (e:=.inl e3) s3,mkS_none]
    exact ⟨_,rfl,h3⟩
   | some b3=>
    rw [q3] at s3
    obtain ⟨rfl,_,_⟩ :=mkS_some q3
    rw [loop_step (s':=((3:Nat):Int)) s3]
    cases q4:mkS d 49 (some 3) with
    | none=>
     rw [q4] at s4
     rw [loop_end (e:=.inl e4) s4]
     exact ⟨_,rfl,h4⟩
    | some b4=>
     rw [q4] at s4
     obtain ⟨rfl,h5,_⟩ :=mkS_some q4
     rw [loop_step (s':=((4:Nat):Int)) s4,loop_end (e:=.inr ()) (by
      dsimp only [lp_Ii_7,m_Ii_7]
      rw [if_neg (by decide)])]
     exact ⟨0,rfl,rfl,rfl,by omega⟩
theorem impl_trk_step (x:Int×Zg) (n:Nat) (hx:x.1=n) (hn:n≤255) (i:Nat) (T:List Zb) (a:Nat) (hi:i < n) (hT:T.length=i) (ha:a≤d.length) :
  ∃ at' e',lp_In_31 x ((i:Int),d,(a:Int),0,T)=some (.inl (((i+1:Nat):Int),d,at',e',T++[(trkS d (some a)).1]))∧RdS d (trkS d (some a)).2 at' e':=by
 dsimp only [lp_In_31,m_In_31]
 have h0:RdS d (some a) a 0:=⟨rfl,rfl,ha⟩
 rw [if_pos (by rw [hx];simp;omega),if_neg (by simp)]
 obtain ⟨a1,e1,h1,g1⟩ :=im_byte hd hb h0
 rw [h1]
 simp only [Option.bind_some]
 obtain ⟨a2,e2,h2,g2⟩ :=im_number hd hb g1
 rw [h2]
 simp only [Option.bind_some]
 obtain ⟨a3,e3,h3,g3⟩ :=im_byte hd hb g2
 rw [h3]
 simp only [Option.bind_some]
 have hr3:=byteS_rng hb (numS d (byteS d (some a)).2).2
 obtain ⟨a4,e4,h4,g4⟩ :=im_take hd g3 (byteS d (numS d (byteS d (some a)).2).2).1 (by omega)
 rw [h4]
 simp only [Option.bind_some]
 obtain ⟨n1,n2⟩ :=trk_name hd hb (some a)
 rw [n1]
 simp only [Option.bind_some]
 have e57:∀ at_ e,m_In_57 x (i:Int) ((byteS d (some a)).1,Zg.mk d a1 e1) ((numS d (byteS d (some a)).2).1,Zg.mk d a2 e2) (trkT d (some a)).1.name T d at_ e=some (.inl (((i+1:Nat):Int),d,at_,e,T++[(trkT d (some a)).1])):=by
  intro at_ e
  dsimp only [m_In_57]
  rw [ck_eq (by simp;omega)]
  simp only [Option.bind_some]
  rw [w64_succ (by omega)]
  rfl
 have g4' : RdS d (trkT d (some a)).2 a4 e4:=g4
 have et:Zb.mk (byteS d (some a)).1 (numS d (byteS d (some a)).2).1 (trkT d (some a)).1.name=(trkT d (some a)).1:=rfl
 rw [et,impl_track _ (by omega)]
 simp only [Option.bind_some]
 unfold trkS
 dsimp only
 cases trackOk (trkT d (some a)).1 with
 | true=>
  rw [if_pos rfl,if_pos rfl,e57]
  exact ⟨_,_,rfl,g4'⟩
 | false=>
  obtain ⟨a5,e5,h5,g5⟩ :=im_fail g4' 5 (by decide)
  rw [if_neg (by simp),if_neg (by simp),h5]
  simp only [Option.bind_some]
  rw [e57]
  exact ⟨_,_,rfl,g5⟩
theorem impl_tracks_loop (x:Int×Zg) (n:Nat) (hx:x.1=n) (hn:n≤255):∀ (k i:Nat) (T:List Zb) (a:Nat),i+k=n→T.length=i→a≤d.length→SmT T→
  ∃ r,loopM (lp_In_31 x) ((i:Int),d,(a:Int),0,T)=some r∧(match tracksS d k T a with | some (l,b)=>r = .inr (d,(b:Int),0,l)∧b≤d.length∧SmT l | none=>∃ at' e' l,e'≠0∧SmT l∧(r = .inl (l,Zg.mk d at' e')∨r = .inr (d,at',e',l))):=by
 intro k
 induction k with
 | zero=>
  intro i T a hi hT ha hs
  rw [loopM_eq]
  dsimp only [lp_In_31,m_In_31]
  rw [if_neg (by rw [hx];simp;omega)]
  exact ⟨_,rfl,rfl,ha,hs⟩
 | succ k ih=>
  intro i T a hi hT ha hs
  have hs' : SmT (T++[(trkS d (some a)).1]):=by
   refine ⟨by simp;omega,fun t ht=>?_⟩
   rcases List.mem_append.1 ht with ht | ht
   ·exact hs.2 t ht
   ·simp at ht;subst ht;exact (trk_name hd hb (some a)).2
  obtain ⟨a1,e1,h1,g1⟩ :=impl_trk_step hd hb x n hx hn i T a (by omega) hT ha
  rw [loop_step h1]
  unfold tracksS
  cases hq:(trkS d (some a)).2 with
  | none=>
   rw [hq] at g1
   have g1' : e1≠0:=g1
   by_cases h2:(((i+1:Nat):Int)) < x.1
   ·refine ⟨.inl ([],Zg.mk d a1 e1),loop_end ?_,a1,e1,[],g1',⟨by simp,by simp⟩,.inl rfl⟩
    dsimp only [lp_In_31,m_In_31]
    rw [if_pos (by simpa using h2),if_pos (by simpa using g1')]
   ·refine ⟨.inr (d,a1,e1,T++[(trkS d (some a)).1]),loop_end ?_,a1,e1,T++[(trkS d (some a)).1],g1',hs',.inr rfl⟩
    dsimp only [lp_In_31,m_In_31]
    rw [if_neg (by simpa using h2)]
  | some b=>
   rw [hq] at g1
   obtain ⟨rfl,rfl,hb'⟩ :=g1
   exact ih (i+1) _ b (by omega) (by simp;omega) hb' hs'
theorem impl_head (hl:d.length≤120000):∃ T' at' e',m_In (Zg.mk d 0 0)=some (T',Zg.mk d at' e')∧SmT T'∧(match headS d with | some (l,b)=>T' = l∧RdS d (some b) at' e' | none=>e'≠0):=by
 dsimp only [m_In,m_In_0]
 rw [if_neg (by simp;omega)]
 obtain ⟨c,h1,g1⟩ :=impl_mag (d:=d)
 rw [h1]
 simp only [Option.bind_some]
 have hm:∃ at_ e,(m_Im (Zg.mk d 0 0) c).bind (fun x0_2=>m_Il x0_2 4)=some ((takeS d 4 (if c=0 then some 0 else none)).1,Zg.mk d at_ e)∧RdS d (magS d) at_ e:=by
  cases hq:magS d with
  | none=>
   rw [hq] at g1
   obtain ⟨a2,e2,h2,g2⟩ :=im_fail (d:=d) (st:=some 0) (at_:=0) (e:=0) ⟨rfl,rfl,Nat.zero_le _⟩ c g1
   rw [h2,if_neg g1]
   simp only [Option.bind_some]
   exact im_take hd g2 4 (by omega)
  | some a=>
   rw [hq] at g1
   obtain ⟨rfl,rfl,h4⟩ :=g1
   have:m_Im (Zg.mk d 0 0) 0=some (Zg.mk d 0 0):=rfl
   rw [this,if_pos rfl]
   simp only [Option.bind_some]
   obtain ⟨a3,e3,h3,g3⟩ :=im_take hd (d:=d) (st:=some 0) (at_:=0) (e:=0) ⟨rfl,rfl,Nat.zero_le _⟩ 4 (by omega)
   refine ⟨a3,e3,h3,?_⟩
   unfold takeS at g3
   dsimp only at g3
   rw [if_pos (by omega)] at g3
   exact g3
 obtain ⟨a1,e1,h2,g2⟩ :=hm
 rw [←Option.bind_assoc,h2]
 simp only [Option.bind_some]
 obtain ⟨a3,e3,h3,g3⟩ :=im_byte hd hb g2
 rw [h3]
 simp only [Option.bind_some]
 have hr:=byteS_rng hb (magS d)
 have e21:(if decide ((byteS d (magS d)).1 < 1)=true then m_In_21 ((byteS d (magS d)).1,Zg.mk d a3 e3) true else m_In_21 ((byteS d (magS d)).1,Zg.mk d a3 e3) (decide ((byteS d (magS d)).1 > 8)))
   = m_In_21 ((byteS d (magS d)).1,Zg.mk d a3 e3) (!decide (1≤(byteS d (magS d)).1∧(byteS d (magS d)).1≤8)):=by
  by_cases k1:(byteS d (magS d)).1 < 1
  ·rw [if_pos (by simpa using k1),show decide (1≤(byteS d (magS d)).1∧(byteS d (magS d)).1≤8)=false by simp;omega];rfl
  ·rw [if_neg (by simpa using k1)]
   congr 1
   by_cases k2:(byteS d (magS d)).1≤8
   ·rw [show decide (1≤(byteS d (magS d)).1∧(byteS d (magS d)).1≤8)=true by simp;omega,show decide ((byteS d (magS d)).1 > 8)=false by simp;omega];rfl
   ·rw [show decide (1≤(byteS d (magS d)).1∧(byteS d (magS d)).1≤8)=false by simp;omega,show decide ((byteS d (magS d)).1 > 8)=true by simp;omega];rfl
 rw [e21]
 obtain ⟨n,hn⟩:∃ n:Nat,(byteS d (magS d)).1=n:=⟨(byteS d (magS d)).1.toNat,by omega⟩
 have bad:∀ (at_ e:Int),e≠0→∃ T' at' e',m_In_24 ((byteS d (magS d)).1,Zg.mk d a3 e3) d at_ e=some (T',Zg.mk d at' e')∧SmT T'∧e'≠0:=by
  intro at_ e he
  dsimp only [m_In_24]
  by_cases h5:(0:Int) < (byteS d (magS d)).1
  ·rw [loop_end (e:=.inl ([],Zg.mk d at_ e)) (by
    dsimp only [lp_In_31,m_In_31]
    rw [if_pos (by simpa using h5),if_pos (by simpa using he)])]
   exact ⟨_,_,_,rfl,⟨by simp,by simp⟩,he⟩
  ·rw [loop_end (e:=.inr (d,at_,e,[])) (by
    dsimp only [lp_In_31,m_In_31]
    rw [if_neg (by simpa using h5)])]
   simp only [Option.bind_some]
   dsimp only [m_In_59]
   obtain ⟨a4,e4,h4,g4⟩ :=im_sum hd hb (show RdS d none at_ e from he) 0 (by simp)
   rw [show ((0:Int))=((0:Nat):Int) from rfl,h4]
   exact ⟨_,_,_,rfl,⟨by simp,by simp⟩,g4⟩
 unfold headS
 dsimp only [m_In_21]
 by_cases k:1≤(byteS d (magS d)).1∧(byteS d (magS d)).1≤8
 ·rw [if_neg (by rw [decide_eq_true k];simp)]
  cases hq:(byteS d (magS d)).2 with
  | none=>
   rw [hq] at g3
   exact bad _ _ g3
  | some b=>
   rw [hq] at g3
   obtain ⟨rfl,rfl,hb2⟩ :=g3
   dsimp only
   rw [if_pos k]
   dsimp only [m_In_24]
   obtain ⟨r,h5,g5⟩ :=impl_tracks_loop hd hb ((byteS d (magS d)).1,Zg.mk d b 0) n hn (by omega) n 0 [] b (by omega) rfl hb2 ⟨by simp,by simp⟩
   rw [show (((0:Nat):Int))=0 from rfl] at h5
   rw [h5]
   simp only [Option.bind_some]
   rw [hn,Int.toNat_natCast]
   cases hqq:tracksS d n [] b with
   | none=>
    rw [hqq] at g5
    obtain ⟨a6,e6,l,h6,hsl,rfl | rfl⟩ :=g5
    ·exact ⟨_,_,_,rfl,hsl,h6⟩
    ·dsimp only [m_In_59]
     obtain ⟨a4,e4,h4,g4⟩ :=im_sum hd hb (show RdS d none a6 e6 from h6) 0 (by simp)
     rw [show ((0:Int))=((0:Nat):Int) from rfl,h4]
     exact ⟨_,_,_,rfl,hsl,g4⟩
   | some lc=>
    obtain ⟨l,c'⟩ :=lc
    rw [hqq] at g5
    obtain ⟨rfl,g5,hsl⟩ :=g5
    dsimp only [m_In_59]
    obtain ⟨a4,e4,h4,g4⟩ :=im_sum hd hb (show RdS d (some c') c' 0 from ⟨rfl,rfl,g5⟩) 0 (by simp)
    rw [show (((0:Nat):Int))=0 from rfl] at h4
    rw [h4]
    refine ⟨_,_,_,rfl,hsl,?_⟩
    cases hs:sumS d 0 (some c') with
    | none=>rw [hs] at g4;exact g4
    | some e=>rw [hs] at g4;exact ⟨rfl,g4⟩
 ·rw [if_pos (by rw [decide_eq_false k];rfl)]
  obtain ⟨a5,e5,h5,g5⟩ :=im_fail g3 5 (by decide)
  rw [h5]
  simp only [Option.bind_some]
  obtain ⟨T',at',e',h6,hsl,h7⟩ :=bad _ _ g5
  refine ⟨T',at',e',h6,hsl,?_⟩
  cases (byteS d (magS d)).2 with
  | none=>exact h7
  | some b=>dsimp only;rw [if_neg k];exact h7
end
end Go.Proofs.V

namespace Go.Proofs.V
open Go
def pq1 (d:List Int) (a:Nat):=numS d (some a)
def pq2 (d:List Int) (a:Nat):=numS d (pq1 d a).2
def pq3 (d:List Int) (a:Nat):=numS d (pq2 d a).2
def pq4 (d:List Int) (a:Nat):=numS d (pq3 d a).2
def pq5 (d:List Int) (a:Nat):=numS d (pq4 d a).2
def pkv (d:List Int) (a:Nat):Zc:=⟨(pq1 d a).1,(pq2 d a).1,(pq3 d a).1,(pq4 d a).1 == 1,[]⟩
def pkc (d:List Int) (nt:Nat) (a:Nat):Bool:=decide ((pq1 d a).1 < nt)&&ticksOk (pq2 d a).1&&ticksOk (pq3 d a).1&&decide ((pq4 d a).1≤1)
def pkS (d:List Int) (nt:Nat) (by_:Int) (a:Nat):Option Nat:=if pkc d nt a=true∧(pq5 d a).1≤60000 - by_ then (pq5 d a).2 else none
def pksS (d:List Int) (nt:Nat):Nat→Int→Nat→List Zc→List Int→Option (List Zc×List Int×Int×Nat)
 | 0,by_,a,L,S=>some (L,S,by_,a)
 | k+1,by_,a,L,S=>match pkS d nt by_ a with | some b=>pksS d nt k (by_+(pq5 d a).1) b (L++[pkv d a]) (S++[(pq5 d a).1]) | none=>none
def datS (d:List Int):List Zc→List Int→Option Nat→List Zc×Option Nat
 | p::P,s::S,st=>(⟨p.track,p.time,p.span,p.key,(takeS d s st).1⟩::(datS d P S (takeS d s st).2).1,(datS d P S (takeS d s st).2).2)
 | _,_,st=>([],st)
def restS (d:List Int) (f nt np:Nat) (by_ num:Int) (q:Int×Option Nat):Option (Int×List Zc×Int×Nat):=match q.2 with
 | none=>none
 | some b=>if 1≤q.1∧q.1≤100∧(np:Int)+q.1≤400 then
   (match pksS d nt q.1.toNat by_ b [] [] with
   | none=>none
   | some (L,S,by',c)=>match sumS d f (datS d L S (some c)).2 with | none=>none | some e=>some (num,(datS d L S (some c)).1,by',e)) else none
def pieceS (d:List Int) (f nt np:Nat) (by_ due:Int) (st:Option Nat):Option (Int×List Zc×Int×Nat):=
 if due < 0∨(numS d st).1=due then restS d f nt np by_ (numS d st).1 (numS d (numS d st).2) else none
def PkI (L:List Zc) (S:List Int):Prop:=(∀ p ∈ L,p.data=[])∧∀ s ∈ S,0≤s∧s≤4611686018427387904
theorem PkI_step {d:List Int} {L:List Zc} {S:List Int} (h:PkI L S) (a:Nat):PkI (L++[pkv d a]) (S++[(pq5 d a).1]):=by
 refine ⟨fun p hp=>?_,fun s hs=>?_⟩
 ·rcases List.mem_append.1 hp with hp | hp
  ·exact h.1 p hp
  ·simp at hp;subst hp;rfl
 ·rcases List.mem_append.1 hs with hs | hs
  ·exact h.2 s hs
  ·simp at hs;subst hs;exact numS_rng d (pq4 d a).2
theorem takeS_none (d:List Int) (n:Int):takeS d n none=([],none):=rfl
theorem datS_none (d:List Int):∀ (P:List Zc) (S:List Int),(datS d P S none).2=none
 | [],_=>by unfold datS;rfl
 | _::_,[]=>by unfold datS;rfl
 | p::P,s::S=>by unfold datS;rw [takeS_none];exact datS_none d P S
theorem numS_none (d:List Int):numS d none=(0,none):=rfl
theorem sumS_none (d:List Int) (f:Nat):sumS d f none=none:=rfl
section
variable {d:List Int} (hd:d.length≤1048576) (hb:∀ x ∈ d,0≤x∧x≤255)
theorem sp73 (p0:Ze) (x0 x14:Int×Ze) (by_ i:Int) (x6 x2 x3 x4:Int×Ze) (b:Bool) (L:List Zc) (S:List Int) (at_ e du byr:Int) (T:List Zb) (P:List Zc) (ix:List Za) (hL:L.length≤1000) (hS:S.length≤1000) :
  m_So_73 p0 x0 x14 by_ i x6 x2 x3 x4 b L S d at_ e du byr T P ix=some (.inl (w64 (by_+x6.1),w64 (i+1),d,at_,e,du,byr,L++[Zc.mk x2.1 x3.1 x4.1 b []],S++[x6.1],T,P,ix)):=by
 dsimp only [m_So_73]
 rw [ck_eq (by simp;omega)]
 simp only [Option.bind_some]
 rw [ck_eq (by simp;omega)]
 rfl
theorem sp67 (p0:Ze) (x0 x14:Int×Ze) (by_ i:Int) (x6 x2 x3 x4:Int×Ze) (b:Bool) (L:List Zc) (S:List Int) (at_ e du byr:Int) (T:List Zb) (P:List Zc) (ix:List Za) (hL:L.length≤1000) (hS:S.length≤1000)
  (hy:0≤by_∧by_≤60000) {st:Option Nat} (h:RdS d st at_ e) :
  ∃ at' e',m_So_67 p0 x0 x14 by_ i x6 x2 x3 x4 b L S d at_ e du byr T P ix=some (.inl (w64 (by_+x6.1),w64 (i+1),d,at',e',du,byr,L++[Zc.mk x2.1 x3.1 x4.1 b []],S++[x6.1],T,P,ix))∧RdS d (if x6.1≤60000 - by_ then st else none) at' e':=by
 dsimp only [m_So_67]
 rw [RdS_e h]
 cases st with
 | none=>
  simp only [Option.isSome_none,Bool.false_eq_true,if_false,ite_self]
  dsimp only [m_So_70]
  rw [if_neg (by simp),sp73 _ _ _ _ _ _ _ _ _ _ _ _ _ _ _ _ _ _ _ hL hS]
  exact ⟨_,_,rfl,h⟩
 | some a=>
  simp only [Option.isSome_some,if_true]
  rw [w64_id (x:=60000 - by_) (by omega) (by omega)]
  dsimp only [m_So_70]
  by_cases k:x6.1≤60000 - by_
  ·rw [if_neg (by simpa using k),sp73 _ _ _ _ _ _ _ _ _ _ _ _ _ _ _ _ _ _ _ hL hS,if_pos k]
   exact ⟨_,_,rfl,h⟩
  ·obtain ⟨a5,e5,h5,g5⟩ :=sp_fail h 7 (by decide) (Zd.mk T P) du byr ix
   rw [if_pos (by simpa using k),h5]
   simp only [Option.bind_some]
   rw [sp73 _ _ _ _ _ _ _ _ _ _ _ _ _ _ _ _ _ _ _ hL hS,if_neg k]
   exact ⟨_,_,rfl,g5⟩
theorem sp64 (p0:Ze) (x0 x14:Int×Ze) (by_ i:Int) (x6 x2 x3 x4:Int×Ze) (b0 b:Bool) (L:List Zc) (S:List Int) (at_ e du byr:Int) (T:List Zb) (P:List Zc) (ix:List Za) (hL:L.length≤1000) (hS:S.length≤1000)
  (hy:0≤by_∧by_≤60000) {st:Option Nat} (h:RdS d st at_ e) (hx:x6.2=Ze.mk d at_ e (Zd.mk T P) du byr ix) :
  ∃ at' e',m_So_64 p0 x0 x14 by_ i x6 x2 x3 x4 L S b0 b=some (.inl (w64 (by_+x6.1),w64 (i+1),d,at',e',du,byr,L++[Zc.mk x2.1 x3.1 x4.1 b []],S++[x6.1],T,P,ix))∧RdS d (if b0=false∧x6.1≤60000 - by_ then st else none) at' e':=by
 dsimp only [m_So_64]
 rw [hx]
 cases b0 with
 | true=>
  obtain ⟨a5,e5,h5,g5⟩ :=sp_fail h 5 (by decide) (Zd.mk T P) du byr ix
  rw [if_pos rfl,h5]
  simp only [Option.bind_some]
  obtain ⟨a6,e6,h6,g6⟩ :=sp67 p0 x0 x14 by_ i x6 x2 x3 x4 b L S a5 e5 du byr T P ix hL hS hy g5
  rw [h6]
  refine ⟨_,_,rfl,?_⟩
  rw [if_neg (by simp)]
  rw [ite_self] at g6
  exact g6
 | false=>
  rw [if_neg (by simp)]
  obtain ⟨a6,e6,h6,g6⟩ :=sp67 p0 x0 x14 by_ i x6 x2 x3 x4 b L S at_ e du byr T P ix hL hS hy h
  dsimp only
  rw [h6]
  refine ⟨_,_,rfl,?_⟩
  simpa using g6
include hd hb
theorem spec_pk_step (p0:Ze) (x0 x14:Int×Ze) (m:Nat) (hx:x14.1=m) (hm:m≤100) (by_:Int) (hy:0≤by_∧by_≤60000) (i:Nat) (hi:i < m) (a:Nat) (ha:a≤d.length) (du byr:Int) (L:List Zc) (S:List Int) (hL:L.length=i) (hS:S.length=i) (T:List Zb) (P:List Zc) (ix:List Za) :
  ∃ at' e',lp_So_39 p0 x0 x14 (by_,(i:Int),d,(a:Int),0,du,byr,L,S,T,P,ix)=some (.inl (w64 (by_+(pq5 d a).1),((i+1:Nat):Int),d,at',e',du,byr,L++[pkv d a],S++[(pq5 d a).1],T,P,ix))∧RdS d (pkS d T.length by_ a) at' e':=by
 dsimp only [lp_So_39,m_So_39]
 have h0:RdS d (some a) a 0:=⟨rfl,rfl,ha⟩
 rw [if_pos (by rw [hx];simp;omega),if_pos (by simp)]
 obtain ⟨a1,e1,h1,g1⟩ :=sp_number hd hb h0 (Zd.mk T P) du byr ix
 rw [h1]
 simp only [Option.bind_some]
 obtain ⟨a2,e2,h2,g2⟩ :=sp_number hd hb g1 (Zd.mk T P) du byr ix
 rw [h2]
 simp only [Option.bind_some]
 obtain ⟨a3,e3,h3,g3⟩ :=sp_number hd hb g2 (Zd.mk T P) du byr ix
 rw [h3]
 simp only [Option.bind_some]
 obtain ⟨a4,e4,h4,g4⟩ :=sp_number hd hb g3 (Zd.mk T P) du byr ix
 rw [h4]
 simp only [Option.bind_some]
 obtain ⟨a5,e5,h5,g5⟩ :=sp_number hd hb g4 (Zd.mk T P) du byr ix
 rw [h5]
 simp only [Option.bind_some]
 have gq:RdS d (pq5 d a).2 a5 e5:=g5
 rw [show numS d (numS d (numS d (numS d (numS d (some a)).2).2).2).2=pq5 d a from rfl,show numS d (numS d (numS d (numS d (some a)).2).2).2=pq4 d a from rfl,show numS d (numS d (numS d (some a)).2).2=pq3 d a from rfl,show numS d (numS d (some a)).2=pq2 d a from rfl,show numS d (some a)=pq1 d a from rfl]
 rw [RdS_e gq]
 have k64:∀ b0,(b0=(((pq5 d a).2).isSome && !pkc d T.length a))→∃ at' e',m_So_64 p0 x0 x14 by_ (i:Int) ((pq5 d a).1,Ze.mk d a5 e5 (Zd.mk T P) du byr ix) ((pq1 d a).1,Ze.mk d a1 e1 (Zd.mk T P) du byr ix) ((pq2 d a).1,Ze.mk d a2 e2 (Zd.mk T P) du byr ix) ((pq3 d a).1,Ze.mk d a3 e3 (Zd.mk T P) du byr ix) L S b0 ((pq4 d a).1 == 1)=some (.inl (w64 (by_+(pq5 d a).1),((i+1:Nat):Int),d,at',e',du,byr,L++[pkv d a],S++[(pq5 d a).1],T,P,ix))∧RdS d (pkS d T.length by_ a) at' e':=by
  intro b0 hb0
  obtain ⟨a6,e6,h6,g6⟩ :=sp64 p0 x0 x14 by_ (i:Int) ((pq5 d a).1,Ze.mk d a5 e5 (Zd.mk T P) du byr ix) ((pq1 d a).1,Ze.mk d a1 e1 (Zd.mk T P) du byr ix) ((pq2 d a).1,Ze.mk d a2 e2 (Zd.mk T P) du byr ix) ((pq3 d a).1,Ze.mk d a3 e3 (Zd.mk T P) du byr ix) b0 ((pq4 d a).1 == 1) L S a5 e5 du byr T P ix (by omega) (by omega) hy gq rfl
  rw [h6,w64_succ (by omega)]
  refine ⟨_,_,rfl,?_⟩
  unfold pkS
  cases hq:(pq5 d a).2 with
  | none=>
   rw [hq] at g6
   rw [ite_self] at g6 ⊢
   exact g6
  | some b=>
   rw [hq] at g6 hb0
   simp only [Option.isSome_some,Bool.true_and] at hb0
   subst hb0
   simpa using g6
 cases hs:((pq5 d a).2).isSome with
 | false=>
  simp only [Bool.false_eq_true,if_false]
  exact k64 false (by rw [hs];rfl)
 | true=>
  simp only [if_true]
  rw [spec_ticks,spec_ticks]
  simp only [Option.bind_some]
  have hp:pkc d T.length a=(decide ((pq1 d a).1 < T.length)&&ticksOk (pq2 d a).1&&ticksOk (pq3 d a).1&&decide ((pq4 d a).1≤1)):=rfl
  by_cases c1:(pq1 d a).1 < T.length
  ·rw [if_neg (by simpa using c1)]
   cases c2:ticksOk (pq2 d a).1 with
   | false=>
    simp only [Bool.false_eq_true,if_false]
    exact k64 true (by rw [hs,hp,c2];simp)
   | true=>
    simp only [if_true]
    cases c3:ticksOk (pq3 d a).1 with
    | false=>
     simp only [Bool.false_eq_true,if_false]
     exact k64 true (by rw [hs,hp,c3];simp)
    | true=>
     simp only [if_true]
     refine k64 _ ?_
     rw [hs,hp,c2,c3]
     by_cases c4:(pq4 d a).1≤1
     ·simp [c1,c4]
     ·simp [c1,c4];omega
  ·rw [if_pos (by simpa using c1)]
   exact k64 true (by rw [hs,hp,decide_eq_false c1];simp)
theorem pkS_some {nt:Nat} {by_:Int} {a b:Nat} (h:pkS d nt by_ a=some b):(pq5 d a).2=some b∧pkc d nt a=true∧0≤(pq5 d a).1∧by_+(pq5 d a).1≤60000:=by
 unfold pkS at h
 by_cases k:pkc d nt a=true∧(pq5 d a).1≤60000 - by_
 ·rw [if_pos k] at h
  exact ⟨h,k.1,(numS_rng d (pq4 d a).2).1,by omega⟩
 ·rw [if_neg k] at h;simp at h
theorem spec_pks (p0:Ze) (x0 x14:Int×Ze) (m:Nat) (hx:x14.1=m) (hm:m≤100) (du byr:Int) (T:List Zb) (P:List Zc) (ix:List Za):∀ (k i:Nat) (by_:Int) (a:Nat) (L:List Zc) (S:List Int),i+k=m→0≤by_∧by_≤60000→a≤d.length→L.length=i→S.length=i→PkI L S→
  ∃ by' at' e' L' S',loopM (lp_So_39 p0 x0 x14) (by_,(i:Int),d,(a:Int),0,du,byr,L,S,T,P,ix)=some (by',d,at',e',du,byr,L',S',T,P,ix)∧L'.length=S'.length∧L'.length≤100∧PkI L' S'∧
   (match pksS d T.length k by_ a L S with | some (L2,S2,by2,b)=>L' = L2∧S' = S2∧by' = by2∧RdS d (some b) at' e' | none=>e'≠0):=by
 intro k
 induction k with
 | zero=>
  intro i by_ a L S hi hy ha hL hS hI
  refine ⟨by_,a,0,L,S,loop_end ?_,by omega,by omega,hI,rfl,rfl,rfl,rfl,rfl,ha⟩
  dsimp only [lp_So_39,m_So_39]
  rw [if_neg (by rw [hx];simp;omega)]
 | succ k ih=>
  intro i by_ a L S hi hy ha hL hS hI
  have hI':=PkI_step (d:=d) hI a
  obtain ⟨a1,e1,h1,g1⟩ :=spec_pk_step hd hb p0 x0 x14 m hx hm by_ hy i (by omega) a ha du byr L S hL hS T P ix
  rw [loop_step h1]
  unfold pksS
  cases hq:pkS d T.length by_ a with
  | none=>
   rw [hq] at g1
   have g1' : e1≠0:=g1
   refine ⟨w64 (by_+(pq5 d a).1),a1,e1,L++[pkv d a],S++[(pq5 d a).1],loop_end ?_,by simp;omega,by simp;omega,hI',g1'⟩
   dsimp only [lp_So_39,m_So_39]
   rw [if_neg (show ¬ ((e1 == 0)=true) by simpa using g1'),ite_self]
  | some b=>
   rw [hq] at g1
   obtain ⟨rfl,rfl,hb'⟩ :=g1
   obtain ⟨_,_,y1,y2⟩ :=pkS_some hd hb hq
   rw [w64_id (by omega) (by omega)]
   exact ih (i+1) _ b _ _ (by omega) (by omega) hb' (by simp;omega) (by simp;omega) hI'
theorem spec_dat (p0:Ze) (x0:Int×Ze) (by' : Int) (L0:List Zc) (S0:List Int) (hLS:L0.length=S0.length) (hS0:∀ s ∈ S0,0≤s∧s≤4611686018427387904) (du byr:Int) (T:List Zb) (P:List Zc) (ix:List Za):∀ (R:List Zc) (i:Nat) (Q:List Zc) (st:Option Nat) (at_ e:Int),RdS d st at_ e→Q.length=i→L0.length=i+R.length→(∀ p ∈ R,p.data=[])→L0.length≤1000→
  ∃ at' e' L',loopM (lp_So_84 p0 x0 by' L0 S0) ((i:Int),d,at_,e,du,byr,Q++R,T,P,ix)=some (d,at',e',du,byr,L',T,P,ix)∧RdS d (datS d R (S0.drop i) st).2 at' e'∧(∀ b,(datS d R (S0.drop i) st).2=some b→L' = Q++(datS d R (S0.drop i) st).1):=by
 intro R
 induction R with
 | nil=>
  intro i Q st at_ e h hQ hl hR hlen
  have e0:datS d [] (S0.drop i) st=([],st):=by unfold datS;rfl
  rw [e0]
  refine ⟨at_,e,Q++[],loop_end ?_,h,fun _ _=>rfl⟩
  dsimp only [lp_So_84,m_So_84]
  simp at hl
  rw [if_neg (by simp;omega)]
 | cons p R ih=>
  intro i Q st at_ e h hQ hl hR hlen
  have hi:i < S0.length:=by simp at hl;omega
  have hdr:S0.drop i=S0.getD i 0::S0.drop (i+1):=by
   rw [List.drop_eq_getElem_cons hi,List.getD_eq_getElem?_getD,List.getElem?_eq_getElem hi];rfl
  have hs:S0.getD i 0 ∈ S0:=mem_gd hi
  rw [hdr]
  unfold datS
  obtain ⟨a1,e1,h1,g1⟩ :=sp_take hd h (S0.getD i 0) (hS0 _ hs) (Zd.mk T P) du byr ix
  have hp:=hR p (by simp)
  have htl:=takeS_len (d:=d) (S0.getD i 0) st
  have hrd:rd (Q++p::R) (i:Int)=some p:=by
   rw [rd_d default (by simp;omega),List.getD_eq_getElem?_getD,List.getElem?_append_right (by omega)]
   simp [hQ]
  have hset:(Q++p::R).set (0+Int.toNat (i:Int)) (Zc.mk p.track p.time p.span p.key (p.data++(takeS d (S0.getD i 0) st).1))=(Q++[Zc.mk p.track p.time p.span p.key (takeS d (S0.getD i 0) st).1])++R:=by
   rw [hp,List.nil_append,Int.toNat_natCast,Nat.zero_add,List.set_append_right _ _ (by omega)]
   simp [hQ]
  have hstep:m_So_84 p0 x0 by' L0 S0 (i:Int) d at_ e du byr (Q++p::R) T P ix=if (takeS d (S0.getD i 0) st).2.isNone then some (.inr (d,a1,e1,du,byr,(Q++[Zc.mk p.track p.time p.span p.key (takeS d (S0.getD i 0) st).1])++R,T,P,ix)) else some (.inl (((i+1:Nat):Int),d,a1,e1,du,byr,(Q++[Zc.mk p.track p.time p.span p.key (takeS d (S0.getD i 0) st).1])++R,T,P,ix)):=by
   dsimp only [m_So_84]
   rw [if_pos (by simp at hl ⊢;omega),hrd]
   simp only [Option.bind_some]
   rw [rd_d 0 hi]
   simp only [Option.bind_some]
   rw [h1]
   simp only [Option.bind_some]
   rw [ck_eq (by rw [hp,List.length_nil];omega)]
   simp only [Option.bind_some]
   rw [RdS_ne g1,hset,w64_succ (by omega)]
  cases hq:(takeS d (S0.getD i 0) st).2 with
  | none=>
   rw [hq] at hstep g1
   rw [datS_none]
   exact ⟨_,_,_,loop_end (by show m_So_84 p0 x0 by' L0 S0 (i:Int) d at_ e du byr (Q++p::R) T P ix=_;rw [hstep];rfl),g1,fun b hb=>by simp at hb⟩
  | some b=>
   rw [hq] at hstep g1
   obtain ⟨a2,e2,L2,h2,g2,k2⟩ :=ih (i+1) (Q++[Zc.mk p.track p.time p.span p.key (takeS d (S0.getD i 0) st).1]) (some b) a1 e1 g1 (by simp;omega) (by simp at hl ⊢;omega) (fun x hx=>hR x (by simp [hx])) hlen
   refine ⟨a2,e2,L2,(loop_step (by show m_So_84 p0 x0 by' L0 S0 (i:Int) d at_ e du byr (Q++p::R) T P ix=_;rw [hstep];rfl)).trans h2,g2,fun b' hb'=>?_⟩
   rw [k2 b' hb']
   simp
theorem spec_79 (p0:Ze) (f:Nat) (hf:p0.at_=f) (x0:Int×Ze) (by' : Int) (L:List Zc) (S:List Int) (hLS:L.length=S.length) (hI:PkI L S) (hlen:L.length≤1000) (du byr:Int) (T:List Zb) (P:List Zc) (ix:List Za) (st:Option Nat) (at_ e:Int) (h:RdS d st at_ e) (hfs:∀ a,(datS d L S st).2=some a→f≤a) :
  ∃ at' e' L' y',m_So_79 p0 x0 by' d at_ e du byr L S T P ix=some (x0.1,L',Ze.mk d at' e' (Zd.mk T P) du y' ix)∧(match sumS d f (datS d L S st).2 with | some b=>RdS d (some b) at' e'∧L' = (datS d L S st).1∧y' = by' | none=>e'≠0∧y' = byr):=by
 dsimp only [m_So_79]
 obtain ⟨a1,e1,L1,h1,g1,k1⟩ :=spec_dat hd hb p0 x0 by' L S hLS hI.2 du byr T P ix L 0 [] st at_ e h rfl (by simp) hI.1 hlen
 rw [List.nil_append,show (((0:Nat):Int))=0 from rfl] at h1
 rw [h1]
 rw [List.drop_zero] at g1 k1
 simp only [Option.bind_some]
 dsimp only [m_So_102]
 obtain ⟨a2,e2,h2,g2⟩ :=sp_sum hd hb g1 f hfs (Zd.mk T P) du byr ix
 rw [hf,h2]
 simp only [Option.bind_some]
 rw [RdS_e g2]
 cases hq:sumS d f (datS d L S st).2 with
 | none=>
  rw [hq] at g2
  simp only [Option.isSome_none,Bool.false_eq_true,if_false]
  exact ⟨a2,e2,L1,byr,rfl,g2,rfl⟩
 | some b=>
  rw [hq] at g2
  simp only [Option.isSome_some,if_true]
  refine ⟨a2,e2,L1,by',rfl,g2,?_,rfl⟩
  cases hz:(datS d L S st).2 with
  | none=>rw [hz] at hq;simp [sumS] at hq
  | some c=>have:=k1 c hz;simpa using this
omit hd hb in
theorem numS_lt {st:Option Nat} {b:Nat} (h:(numS d st).2=some b):∃ a,st=some a∧a < b∧b≤d.length:=by
 cases st with
 | none=>simp [numS] at h
 | some a=>
  rcases numS_F a (d:=d) with ⟨v,n,m,h5,rfl,h6,h7,h8,h9,h10⟩ | ⟨h5,h10⟩
  ·rw [h10] at h;simp at h;exact ⟨a,rfl,by omega,by omega⟩
  ·rw [h10] at h;simp at h
omit hd hb in
theorem datS_le:∀ (L:List Zc) (S:List Int) (a b:Nat),(∀ s ∈ S,0≤s∧s≤4611686018427387904)→(datS d L S (some a)).2=some b→a≤b
 | [],S,a,b,_,h=>by unfold datS at h;simp at h;omega
 | _::_,[],a,b,_,h=>by unfold datS at h;simp at h;omega
 | p::L,s::S,a,b,hs,h=>by
  unfold datS at h
  cases hq:(takeS d s (some a)).2 with
  | none=>rw [hq] at h;rw [datS_none] at h;simp at h
  | some c=>
   rw [hq] at h
   have:=datS_le L S c b (fun x hx=>hs x (by simp [hx])) h
   have h1:=hs s (by simp)
   unfold takeS at hq
   dsimp only at hq
   split at hq
   ·simp at hq;omega
   ·simp at hq
theorem pksS_le (nt:Nat):∀ (k:Nat) (by_:Int) (a:Nat) (L:List Zc) (S:List Int) (L2:List Zc) (S2:List Int) (y:Int) (b:Nat),0≤by_∧by_≤60000→PkI L S→L.length=S.length→pksS d nt k by_ a L S=some (L2,S2,y,b)→a≤b∧PkI L2 S2∧(0≤y∧y≤60000)∧L2.length=S2.length∧L2.length=L.length+k
 | 0,by_,a,L,S,L2,S2,y,b,hy,hI,hL,h=>by
  unfold pksS at h
  simp at h
  obtain ⟨rfl,rfl,rfl,rfl⟩ :=h
  exact ⟨by omega,hI,hy,hL,rfl⟩
 | k+1,by_,a,L,S,L2,S2,y,b,hy,hI,hL,h=>by
  unfold pksS at h
  cases hq:pkS d nt by_ a with
  | none=>rw [hq] at h;simp at h
  | some c=>
   rw [hq] at h
   obtain ⟨z1,z2,z3,z4⟩ :=pkS_some hd hb hq
   obtain ⟨j1,j2,j3,j4,j5⟩ :=pksS_le nt k _ c _ _ L2 S2 y b (by omega) (PkI_step hI a) (by simp [hL]) h
   refine ⟨?_,j2,j3,j4,by rw [j5];simp;omega⟩
   obtain ⟨x4,w4,v4,_⟩ :=numS_lt z1
   obtain ⟨x3,w3,v3,_⟩ :=numS_lt w4
   obtain ⟨x2,w2,v2,_⟩ :=numS_lt w3
   obtain ⟨x1,w1,v1,_⟩ :=numS_lt w2
   obtain ⟨x0,w0,v0,_⟩ :=numS_lt w1
   simp at w0
   omega
theorem spec_28_bad (p0:Ze) (f:Nat) (hf:p0.at_=f) (x0 x14:Int×Ze) (at_ e du byr:Int) (T:List Zb) (P:List Zc) (ix:List Za) (he:e≠0) :
  ∃ v L at' e',m_So_28 p0 x0 x14 d at_ e du byr T P ix=some (v,L,Ze.mk d at' e' (Zd.mk T P) du byr ix)∧e'≠0:=by
 dsimp only [m_So_28]
 rw [loop_end (e:=(byr,d,at_,e,du,byr,[],[],T,P,ix)) (by
  dsimp only [lp_So_39,m_So_39]
  rw [if_neg (show ¬ ((e == 0)=true) by simpa using he),ite_self])]
 simp only [Option.bind_some]
 obtain ⟨a1,e1,L1,y1,h1,g1⟩ :=spec_79 hd hb p0 f hf x0 byr [] [] rfl ⟨by simp,by simp⟩ (by simp) du byr T P ix none at_ e he (by simp [datS_none])
 rw [datS_none,sumS_none] at g1
 rw [h1,g1.2]
 exact ⟨_,_,_,_,rfl,g1.1⟩
theorem spec_rest (p0:Ze) (f:Nat) (hpf:p0.at_=f) (x0:Int×Ze) (q:Int×Option Nat) (hq1:0≤q.1∧q.1≤4611686018427387904) (hqf:∀ b,q.2=some b→f≤b) (a2 e2 du byr:Int) (g2:RdS d q.2 a2 e2) (T:List Zb) (P:List Zc) (ix:List Za) (hy:0≤byr∧byr≤60000) (hP:P.length≤1000) :
  ∃ v L at' e' y',(if (e2 == 0)=true then if decide (q.1 < 1)=true then m_So_19 p0 x0 (q.1,Ze.mk d a2 e2 (Zd.mk T P) du byr ix) true else m_So_19 p0 x0 (q.1,Ze.mk d a2 e2 (Zd.mk T P) du byr ix) (decide (q.1 > 100)) else m_So_19 p0 x0 (q.1,Ze.mk d a2 e2 (Zd.mk T P) du byr ix) false)=some (v,L,Ze.mk d at' e' (Zd.mk T P) du y' ix)∧
   (match restS d f T.length P.length byr x0.1 q with | some (v2,L2,y2,b)=>v=v2∧L=L2∧y' = y2∧RdS d (some b) at' e' | none=>e'≠0∧y' = byr):=by
 obtain ⟨c,st⟩ :=q
 dsimp only at hq1 hqf g2 ⊢
 have bad:∀ at_ e,e≠0→∃ v L at' e' y',m_So_28 p0 x0 (c,Ze.mk d a2 e2 (Zd.mk T P) du byr ix) d at_ e du byr T P ix=some (v,L,Ze.mk d at' e' (Zd.mk T P) du y' ix)∧e'≠0∧y' = byr:=fun at_ e he=>by
  obtain ⟨v,L,at',e',h3,h4⟩ :=spec_28_bad hd hb p0 f hpf x0 (c,Ze.mk d a2 e2 (Zd.mk T P) du byr ix) at_ e du byr T P ix he
  exact ⟨v,L,at',e',byr,h3,h4,rfl⟩
 have bad22:∀ at_ e,e≠0→∃ v L at' e' y',m_So_22 p0 x0 (c,Ze.mk d a2 e2 (Zd.mk T P) du byr ix) d at_ e du byr T P ix=some (v,L,Ze.mk d at' e' (Zd.mk T P) du y' ix)∧e'≠0∧y' = byr:=fun at_ e he=>by
  dsimp only [m_So_22]
  rw [if_neg (by simpa using he)]
  dsimp only [m_So_25]
  rw [if_neg (by simp)]
  exact bad _ _ he
 rw [RdS_e g2]
 unfold restS
 cases st with
 | none=>
  simp only [Option.isSome_none,Bool.false_eq_true,if_false]
  dsimp only [m_So_19]
  rw [if_neg (by simp)]
  exact bad22 _ _ g2
 | some b=>
  simp only [Option.isSome_some,if_true]
  have e19:(if decide (c < 1)=true then m_So_19 p0 x0 (c,Ze.mk d a2 e2 (Zd.mk T P) du byr ix) true else m_So_19 p0 x0 (c,Ze.mk d a2 e2 (Zd.mk T P) du byr ix) (decide (c > 100)))=m_So_19 p0 x0 (c,Ze.mk d a2 e2 (Zd.mk T P) du byr ix) (!decide (1≤c∧c≤100)):=by
   by_cases k1:c < 1
   ·rw [if_pos (by simpa using k1),show decide (1≤c∧c≤100)=false by simp;omega];rfl
   ·rw [if_neg (by simpa using k1)]
    congr 1
    by_cases k2:c≤100
    ·rw [show decide (1≤c∧c≤100)=true by simp;omega,show decide (c > 100)=false by simp;omega];rfl
    ·rw [show decide (1≤c∧c≤100)=false by simp;omega,show decide (c > 100)=true by simp;omega];rfl
  rw [e19]
  dsimp only [m_So_19]
  by_cases k:1≤c∧c≤100
  ·rw [if_neg (by rw [decide_eq_true k];simp)]
   dsimp only [m_So_22]
   rw [RdS_e g2]
   simp only [Option.isSome_some,if_true]
   rw [w64_id (by omega) (by omega)]
   dsimp only [m_So_25]
   by_cases k2:(P.length:Int)+c≤400
   ·rw [if_neg (by simpa using k2),if_pos ⟨k.1,k.2,k2⟩]
    dsimp only [m_So_28]
    obtain ⟨m,rfl⟩:∃ m:Nat,c=m:=⟨c.toNat,by omega⟩
    obtain ⟨rfl,rfl,hb2⟩ :=g2
    obtain ⟨y3,a3,e3,L3,S3,h3,n1,n2,n3,g3⟩ :=spec_pks hd hb p0 x0 ((m:Int),Ze.mk d b 0 (Zd.mk T P) du byr ix) m rfl (by omega) du byr T P ix m 0 byr b [] [] (by omega) hy hb2 rfl rfl ⟨by simp,by simp⟩
    rw [show (((0:Nat):Int))=0 from rfl] at h3
    rw [h3]
    simp only [Option.bind_some]
    rw [Int.toNat_natCast]
    cases hqq:pksS d T.length m byr b [] [] with
    | none=>
     rw [hqq] at g3
     obtain ⟨a4,e4,L4,y4,h4,g4⟩ :=spec_79 hd hb p0 f hpf x0 y3 L3 S3 n1 n3 (by omega) du byr T P ix none a3 e3 g3 (by simp [datS_none])
     rw [datS_none,sumS_none] at g4
     exact ⟨_,_,_,_,_,h4,g4⟩
    | some r=>
     obtain ⟨L5,S5,y5,c5⟩ :=r
     rw [hqq] at g3
     obtain ⟨rfl,rfl,rfl,g3⟩ :=g3
     obtain ⟨j1,j2,j3,j4,j5⟩ :=pksS_le hd hb _ _ _ _ _ _ _ _ _ _ hy ⟨by simp,by simp⟩ rfl hqq
     have hfb:=hqf b rfl
     obtain ⟨a4,e4,L4,y4,h4,g4⟩ :=spec_79 hd hb p0 f hpf x0 y3 L3 S3 n1 n3 (by omega) du byr T P ix (some c5) a3 e3 g3 (fun a ha=>by
      have:=datS_le L3 S3 c5 a n3.2 ha
      omega)
     refine ⟨_,_,_,_,_,h4,?_⟩
     dsimp only
     cases hs:sumS d f (datS d L3 S3 (some c5)).2 with
     | none=>rw [hs] at g4;exact g4
     | some z=>rw [hs] at g4;exact ⟨rfl,g4.2.1,g4.2.2,g4.1⟩
   ·obtain ⟨a5,e5,h5,g5⟩ :=sp_fail g2 7 (by decide) (Zd.mk T P) du byr ix
    rw [if_pos (by simpa using k2),h5,if_neg (fun hh=>k2 hh.2.2)]
    simp only [Option.bind_some]
    exact bad _ _ g5
  ·rw [if_pos (by rw [decide_eq_false k];rfl),if_neg (fun hh=>k ⟨hh.1,hh.2.1⟩)]
   obtain ⟨a5,e5,h5,g5⟩ :=sp_fail g2 5 (by decide) (Zd.mk T P) du byr ix
   rw [h5]
   simp only [Option.bind_some]
   exact bad22 _ _ g5
theorem spec_14 (p0:Ze) (f:Nat) (hpf:p0.at_=f) (x0:Int×Ze) (st:Option Nat) (hqf:∀ b,st=some b→f≤b) (at_ e du byr:Int) (h:RdS d st at_ e) (T:List Zb) (P:List Zc) (ix:List Za) (hy:0≤byr∧byr≤60000) (hP:P.length≤1000) :
  ∃ v L at' e' y',m_So_14 p0 x0 d at_ e du byr T P ix=some (v,L,Ze.mk d at' e' (Zd.mk T P) du y' ix)∧
   (match restS d f T.length P.length byr x0.1 (numS d st) with | some (v2,L2,y2,b)=>v=v2∧L=L2∧y' = y2∧RdS d (some b) at' e' | none=>e'≠0∧y' = byr):=by
 dsimp only [m_So_14]
 obtain ⟨a2,e2,h2,g2⟩ :=sp_number hd hb h (Zd.mk T P) du byr ix
 rw [h2]
 simp only [Option.bind_some]
 exact spec_rest hd hb p0 f hpf x0 (numS d st) (numS_rng d st) (fun b hb'=>by
  obtain ⟨a,h3,h4,_⟩ :=numS_lt hb'
  have:=hqf a h3
  omega) a2 e2 du byr g2 T P ix hy hP
theorem spec_piece (f:Nat) (hfl:f+8≤d.length) (due du byr:Int) (T:List Zb) (P:List Zc) (ix:List Za) (hy:0≤byr∧byr≤60000) (hP:P.length≤1000) :
  ∃ v L at' e' y',m_So (Ze.mk d f 0 (Zd.mk T P) du byr ix) due=some (v,L,Ze.mk d at' e' (Zd.mk T P) du y' ix)∧
   (match pieceS d f T.length P.length byr due (some (f+8)) with | some (v2,L2,y2,b)=>v=v2∧L=L2∧y' = y2∧RdS d (some b) at' e' | none=>e'≠0∧y' = byr):=by
 dsimp only [m_So,m_So_0]
 rw [w64_id (x:=(f:Int)+8) (by omega) (by omega)]
 obtain ⟨a1,e1,h1,g1⟩ :=sp_number hd hb (st:=some (f+8)) (at_:=(f:Int)+8) (e:=0) ⟨rfl,by simp,hfl⟩ (Zd.mk T P) du byr ix
 rw [h1]
 simp only [Option.bind_some]
 rw [RdS_e g1]
 have hqf:∀ b,(numS d (some (f+8))).2=some b→f≤b:=fun b hb'=>by
  obtain ⟨a,h3,h4,_⟩ :=numS_lt hb'
  simp at h3
  omega
 have good:=spec_14 hd hb (Ze.mk d (f:Int) 0 (Zd.mk T P) du byr ix) f rfl ((numS d (some (f+8))).1,Ze.mk d a1 e1 (Zd.mk T P) du byr ix) _ hqf a1 e1 du byr g1 T P ix hy hP
 unfold pieceS
 cases hq:(numS d (some (f+8))).2 with
 | none=>
  simp only [Option.isSome_none,Bool.false_eq_true,if_false]
  dsimp only [m_So_11]
  rw [if_neg (by simp)]
  rw [hq] at good
  rw [show (if due < 0∨(numS d (some (f+8))).1=due then restS d f T.length P.length byr (numS d (some (f+8))).1 (numS d none) else none)=none by rw [numS_none];unfold restS;dsimp only;rw [ite_self]]
  have:restS d f T.length P.length byr (numS d (some (f+8))).1 (numS d none)=none:=by rw [numS_none];rfl
  dsimp only at good
  rw [this] at good
  exact good
 | some b=>
  simp only [Option.isSome_some,if_true]
  have e11:(if decide (due≥0)=true then m_So_11 (Ze.mk d (f:Int) 0 (Zd.mk T P) du byr ix) ((numS d (some (f+8))).1,Ze.mk d a1 e1 (Zd.mk T P) du byr ix) ((numS d (some (f+8))).1 != due) else m_So_11 (Ze.mk d (f:Int) 0 (Zd.mk T P) du byr ix) ((numS d (some (f+8))).1,Ze.mk d a1 e1 (Zd.mk T P) du byr ix) false)
    = m_So_11 (Ze.mk d (f:Int) 0 (Zd.mk T P) du byr ix) ((numS d (some (f+8))).1,Ze.mk d a1 e1 (Zd.mk T P) du byr ix) (!decide (due < 0∨(numS d (some (f+8))).1=due)):=by
   by_cases k1:due≥0
   ·rw [if_pos (by simpa using k1)]
    congr 1
    by_cases k2:(numS d (some (f+8))).1=due
    ·simp [k2]
    ·rw [decide_eq_false (by omega : ¬ (due < 0∨(numS d (some (f+8))).1=due))];simp [k2]
   ·rw [if_neg (by simpa using k1),show decide (due < 0∨(numS d (some (f+8))).1=due)=true by simp;omega];rfl
  rw [e11]
  dsimp only [m_So_11]
  by_cases k:due < 0∨(numS d (some (f+8))).1=due
  ·rw [if_neg (by rw [decide_eq_true k];simp),if_pos k]
   rw [hq] at good
   exact good
  ·rw [if_pos (by rw [decide_eq_false k];rfl),if_neg k]
   obtain ⟨a5,e5,h5,g5⟩ :=sp_fail g1 6 (by decide) (Zd.mk T P) du byr ix
   rw [h5]
   simp only [Option.bind_some]
   have:=spec_14 hd hb (Ze.mk d (f:Int) 0 (Zd.mk T P) du byr ix) f rfl ((numS d (some (f+8))).1,Ze.mk d a1 e1 (Zd.mk T P) du byr ix) none (by simp) a5 e5 du byr g5 T P ix hy hP
   rw [show restS d f T.length P.length byr (numS d (some (f+8))).1 (numS d none)=none by rw [numS_none];rfl] at this
   exact this
end
end Go.Proofs.V

namespace Go.Proofs.V
open Go
section
variable {d:List Int} (hd:d.length≤1048576) (hb:∀ x ∈ d,0≤x∧x≤255)
theorem mnI_le {x y:Int} (h:x≤y):mnI x y=x:=by unfold mnI;rw [if_neg (by omega)]
theorem im65 (p1 p2 np room:Int) (x0 x6 x10:Int×Zg) (i:Int) (x2 x3 x4:Int×Zg) (b:Bool) (L:List Zc) (S:List Int) (at_ e:Int) (hL:L.length≤1000) (hS:S.length≤1000) :
  m_Ip_65 p1 p2 np room x0 x6 x10 i x2 x3 x4 b L S d at_ e=some (.inl (np,room,w64 (i+1),d,at_,e,L++[Zc.mk x2.1 x3.1 x4.1 b []],S++[x6.1])):=by
 dsimp only [m_Ip_65]
 rw [ck_eq (by simp;omega)]
 simp only [Option.bind_some]
 rw [ck_eq (by simp;omega)]
 rfl
theorem im53 (p1 p2 np room:Int) (x0 x5 x6 x10:Int×Zg) (i:Int) (x2 x3 x4:Int×Zg) (L:List Zc) (S:List Int) (at_ e:Int) (hL:L.length≤1000) (hS:S.length≤1000) (hn:0≤np∧np≤1000) (hr:0≤room∧room≤60000) (hx:0≤x6.1)
  {st:Option Nat} (h:RdS d st at_ e) :
  ∃ at' e' room',m_Ip_53 p1 p2 np room x0 x5 x6 x10 i x2 x3 x4 L S d at_ e=some (.inl (np+1,room',w64 (i+1),d,at',e',L++[Zc.mk x2.1 x3.1 x4.1 (x5.1 == 1) []],S++[x6.1]))∧RdS d (if np+1≤400∧x6.1≤room then st else none) at' e'∧(x6.1≤room→room' = room - x6.1):=by
 have hm:0≤mnI x6.1 1099511627776∧mnI x6.1 1099511627776≤1099511627776∧(x6.1≤room→mnI x6.1 1099511627776=x6.1)∧(room < x6.1→room < mnI x6.1 1099511627776):=by
  unfold mnI
  by_cases h1:(1099511627776:Int) < x6.1
  ·rw [if_pos h1];omega
  ·rw [if_neg h1];omega
 have e62:∀ b2 b3,∃ at' e',m_Ip_62 p1 p2 x0 x6 x10 i d at_ e x2 x3 x4 L S (np+1) (room - mnI x6.1 1099511627776) b2 b3=some (.inl (np+1,room - mnI x6.1 1099511627776,w64 (i+1),d,at',e',L++[Zc.mk x2.1 x3.1 x4.1 b3 []],S++[x6.1]))∧RdS d (if b2=false then st else none) at' e':=by
  intro b2 b3
  dsimp only [m_Ip_62]
  cases b2 with
  | true=>
   obtain ⟨a5,e5,h5,g5⟩ :=im_fail h 7 (by decide)
   rw [if_pos rfl,h5]
   simp only [Option.bind_some]
   rw [im65 _ _ _ _ _ _ _ _ _ _ _ _ _ _ _ _ hL hS]
   exact ⟨_,_,rfl,g5⟩
  | false=>
   rw [if_neg (by simp),im65 _ _ _ _ _ _ _ _ _ _ _ _ _ _ _ _ hL hS]
   exact ⟨_,_,rfl,h⟩
 dsimp only [m_Ip_53]
 rw [w64_id (x:=np+1) (by omega) (by omega),w64_id (x:=room - mnI x6.1 1099511627776) (by omega) (by omega)]
 by_cases k1:np+1≤400
 ·rw [if_neg (by simpa using k1)]
  obtain ⟨a6,e6,h6,g6⟩ :=e62 (decide (room - mnI x6.1 1099511627776 < 0)) (x5.1 == 1)
  rw [h6]
  refine ⟨_,_,_,rfl,?_,fun hh=>by rw [hm.2.2.1 hh]⟩
  by_cases k2:x6.1≤room
  ·rw [if_pos ⟨k1,k2⟩]
   rw [if_pos (by have:=hm.2.2.1 k2;simp;omega)] at g6
   exact g6
  ·rw [if_neg (fun hh=>k2 hh.2)]
   rw [if_neg (by have:=hm.2.2.2 (by omega);simp;omega)] at g6
   exact g6
 ·rw [if_pos (by simpa using k1)]
  obtain ⟨a6,e6,h6,g6⟩ :=e62 true (x5.1 == 1)
  rw [h6]
  refine ⟨_,_,_,rfl,?_,fun hh=>by rw [hm.2.2.1 hh]⟩
  rw [if_neg (fun hh=>k1 hh.1)]
  exact g6
theorem im50 (p1 p2 np room:Int) (x0 x5 x6 x10:Int×Zg) (i:Int) (x2 x3 x4:Int×Zg) (L:List Zc) (S:List Int) (b0:Bool) (at_ e:Int) (hL:L.length≤1000) (hS:S.length≤1000) (hn:0≤np∧np≤1000) (hr:0≤room∧room≤60000) (hx:0≤x6.1)
  {st:Option Nat} (h:RdS d st at_ e) (h6:x6.2=Zg.mk d at_ e) :
  ∃ at' e' room',m_Ip_50 p1 p2 np room x0 x5 x6 x10 i x2 x3 x4 L S b0=some (.inl (np+1,room',w64 (i+1),d,at',e',L++[Zc.mk x2.1 x3.1 x4.1 (x5.1 == 1) []],S++[x6.1]))∧RdS d (if b0=false∧np+1≤400∧x6.1≤room then st else none) at' e'∧(x6.1≤room→room' = room - x6.1):=by
 dsimp only [m_Ip_50]
 rw [h6]
 cases b0 with
 | true=>
  obtain ⟨a5,e5,h5,g5⟩ :=im_fail h 5 (by decide)
  rw [if_pos rfl,h5]
  simp only [Option.bind_some]
  obtain ⟨a7,e7,r7,h7,g7,k7⟩ :=im53 p1 p2 np room x0 x5 x6 x10 i x2 x3 x4 L S a5 e5 hL hS hn hr hx g5
  rw [h7]
  refine ⟨_,_,_,rfl,?_,k7⟩
  rw [if_neg (by simp)]
  rw [ite_self] at g7
  exact g7
 | false=>
  rw [if_neg (by simp)]
  obtain ⟨a7,e7,r7,h7,g7,k7⟩ :=im53 p1 p2 np room x0 x5 x6 x10 i x2 x3 x4 L S at_ e hL hS hn hr hx h
  dsimp only
  rw [h7]
  refine ⟨_,_,_,rfl,?_,k7⟩
  simpa using g7
include hd hb
theorem impl_pk_step (p1:Int) (nt:Nat) (np:Int) (hnp:0≤np∧np≤500) (room:Int) (hr:0≤room∧room≤60000) (x0 x10:Int×Zg) (m:Nat) (hx:x10.1=m) (hm:m≤100) (i:Nat) (hi:i < m) (a:Nat) (ha:a≤d.length) (L:List Zc) (S:List Int) (hL:L.length=i) (hS:S.length=i) :
  ∃ at' e' room',lp_Ip_27 p1 (nt:Int) x0 x10 (np,room,(i:Int),d,(a:Int),0,L,S)=some (.inl (np+1,room',((i+1:Nat):Int),d,at',e',L++[pkv d a],S++[(pq5 d a).1]))∧RdS d (if np+1≤400 then pkS d nt (60000 - room) a else none) at' e'∧((pq5 d a).1≤room→room' = room - (pq5 d a).1):=by
 dsimp only [lp_Ip_27,m_Ip_27]
 have h0:RdS d (some a) a 0:=⟨rfl,rfl,ha⟩
 rw [if_pos (by rw [hx];simp;omega),if_neg (by simp)]
 obtain ⟨a1,e1,h1,g1⟩ :=im_number hd hb h0
 rw [h1]
 simp only [Option.bind_some]
 obtain ⟨a2,e2,h2,g2⟩ :=im_number hd hb g1
 rw [h2]
 simp only [Option.bind_some]
 obtain ⟨a3,e3,h3,g3⟩ :=im_number hd hb g2
 rw [h3]
 simp only [Option.bind_some]
 obtain ⟨a4,e4,h4,g4⟩ :=im_number hd hb g3
 rw [h4]
 simp only [Option.bind_some]
 obtain ⟨a5,e5,h5,g5⟩ :=im_number hd hb g4
 rw [h5]
 simp only [Option.bind_some]
 have gq:RdS d (pq5 d a).2 a5 e5:=g5
 rw [show numS d (numS d (numS d (numS d (numS d (some a)).2).2).2).2=pq5 d a from rfl,show numS d (numS d (numS d (numS d (some a)).2).2).2=pq4 d a from rfl,show numS d (numS d (numS d (some a)).2).2=pq3 d a from rfl,show numS d (numS d (some a)).2=pq2 d a from rfl,show numS d (some a)=pq1 d a from rfl]
 have k50:∀ b0,(b0 = !pkc d nt a)→∃ at' e' room',m_Ip_50 p1 (nt:Int) np room x0 ((pq4 d a).1,Zg.mk d a4 e4) ((pq5 d a).1,Zg.mk d a5 e5) x10 (i:Int) ((pq1 d a).1,Zg.mk d a1 e1) ((pq2 d a).1,Zg.mk d a2 e2) ((pq3 d a).1,Zg.mk d a3 e3) L S b0=some (.inl (np+1,room',((i+1:Nat):Int),d,at',e',L++[pkv d a],S++[(pq5 d a).1]))∧RdS d (if np+1≤400 then pkS d nt (60000 - room) a else none) at' e'∧((pq5 d a).1≤room→room' = room - (pq5 d a).1):=by
  intro b0 hb0
  obtain ⟨a6,e6,r6,h6,g6,k6⟩ :=im50 p1 (nt:Int) np room x0 ((pq4 d a).1,Zg.mk d a4 e4) ((pq5 d a).1,Zg.mk d a5 e5) x10 (i:Int) ((pq1 d a).1,Zg.mk d a1 e1) ((pq2 d a).1,Zg.mk d a2 e2) ((pq3 d a).1,Zg.mk d a3 e3) L S b0 a5 e5 (by omega) (by omega) (by omega) hr (numS_rng d (pq4 d a).2).1 gq rfl
  rw [h6,w64_succ (by omega)]
  refine ⟨_,_,_,rfl,?_,k6⟩
  unfold pkS
  subst hb0
  dsimp only at g6
  rw [show (60000:Int) - (60000 - room)=room by omega]
  by_cases k1:np+1≤400
  ·rw [if_pos k1]
   by_cases k2:pkc d nt a=true∧(pq5 d a).1≤room
   ·rw [if_pos ⟨by rw [k2.1];rfl,k1,k2.2⟩] at g6
    rw [if_pos k2];exact g6
   ·rw [if_neg (fun hh=>k2 ⟨by simpa using hh.1,hh.2.2⟩)] at g6
    rw [if_neg k2];exact g6
  ·rw [if_neg (fun hh=>k1 hh.2.1)] at g6
   rw [if_neg k1];exact g6
 rw [impl_ticks,impl_ticks]
 simp only [Option.bind_some]
 have hp:pkc d nt a=(decide ((pq1 d a).1 < nt)&&ticksOk (pq2 d a).1&&ticksOk (pq3 d a).1&&decide ((pq4 d a).1≤1)):=rfl
 by_cases c1:(pq1 d a).1 < nt
 ·rw [if_neg (by simpa using c1)]
  cases c2:ticksOk (pq2 d a).1 with
  | false=>
   simp only [Bool.false_eq_true,if_false]
   exact k50 true (by rw [hp,c2];simp)
  | true=>
   simp only [if_true]
   cases c3:ticksOk (pq3 d a).1 with
   | false=>
    simp only [Bool.false_eq_true,if_false]
    exact k50 true (by rw [hp,c3];simp)
   | true=>
    simp only [if_true]
    refine k50 _ ?_
    rw [hp,c2,c3]
    by_cases c4:(pq4 d a).1≤1
    ·simp [c1,c4]
    ·simp [c1,c4];omega
 ·rw [if_pos (by simpa using c1)]
  exact k50 true (by rw [hp,decide_eq_false c1];simp)
theorem impl_pks (p1:Int) (nt np:Nat) (hnp:np≤400) (x0 x10:Int×Zg) (m:Nat) (hx:x10.1=m) (hm:m≤100):∀ (k i:Nat) (room:Int) (a:Nat) (L:List Zc) (S:List Int),i+k=m→np+i≤400→0≤room∧room≤60000→a≤d.length→L.length=i→S.length=i→PkI L S→
  ∃ r,loopM (lp_Ip_27 p1 (nt:Int) x0 x10) (((np+i:Nat):Int),room,(i:Int),d,(a:Int),0,L,S)=some r∧
   (match (if (np:Int)+m≤400 then pksS d nt k (60000 - room) a L S else none) with | some (L2,S2,by2,b)=>r = .inr (d,(b:Int),0,L2,S2)∧b≤d.length | none=>∃ at' e' L' S',e'≠0∧(r = .inl (0,[],Zg.mk d at' e')∨r = .inr (d,at',e',L',S'))∧L'.length=S'.length∧L'.length≤100∧PkI L' S'):=by
 intro k
 induction k with
 | zero=>
  intro i room a L S hi hni hr ha hL hS hI
  refine ⟨.inr (d,(a:Int),0,L,S),loop_end ?_,?_⟩
  ·dsimp only [lp_Ip_27,m_Ip_27]
   rw [if_neg (by rw [hx];simp;omega)]
  ·rw [if_pos (by omega)]
   exact ⟨rfl,ha⟩
 | succ k ih=>
  intro i room a L S hi hni hr ha hL hS hI
  have hI':=PkI_step (d:=d) hI a
  obtain ⟨a1,e1,r1,h1,g1,k1⟩ :=impl_pk_step hd hb p1 nt ((np+i:Nat):Int) (by omega) room hr x0 x10 m hx hm i (by omega) a ha L S hL hS
  rw [loop_step h1]
  have bad:e1≠0→∃ r,loopM (lp_Ip_27 p1 (nt:Int) x0 x10) (((np+i:Nat):Int)+1,r1,((i+1:Nat):Int),d,a1,e1,L++[pkv d a],S++[(pq5 d a).1])=some r∧∃ at' e' L' S',e'≠0∧(r = .inl (0,[],Zg.mk d at' e')∨r = .inr (d,at',e',L',S'))∧L'.length=S'.length∧L'.length≤100∧PkI L' S':=by
   intro he
   by_cases h2:(((i+1:Nat):Int)) < x10.1
   ·refine ⟨.inl (0,[],Zg.mk d a1 e1),loop_end ?_,a1,e1,L++[pkv d a],S++[(pq5 d a).1],he,.inl rfl,by simp;omega,by simp;omega,hI'⟩
    dsimp only [lp_Ip_27,m_Ip_27]
    rw [if_pos (by simpa using h2),if_pos (by simpa using he)]
   ·refine ⟨.inr (d,a1,e1,L++[pkv d a],S++[(pq5 d a).1]),loop_end ?_,a1,e1,L++[pkv d a],S++[(pq5 d a).1],he,.inr rfl,by simp;omega,by simp;omega,hI'⟩
    dsimp only [lp_Ip_27,m_Ip_27]
    rw [if_neg (by simpa using h2)]
  by_cases hc:((np+i:Nat):Int)+1≤400
  ·rw [if_pos hc] at g1
   unfold pksS
   cases hq:pkS d nt (60000 - room) a with
   | none=>
    rw [hq] at g1
    rw [ite_self]
    exact bad g1
   | some b=>
    rw [hq] at g1
    obtain ⟨rfl,rfl,hb'⟩ :=g1
    obtain ⟨_,_,y1,y2⟩ :=pkS_some hd hb hq
    rw [k1 (by omega)]
    obtain ⟨r,h5,g5⟩ :=ih (i+1) (room - (pq5 d a).1) b (L++[pkv d a]) (S++[(pq5 d a).1]) (by omega) (by omega) (by omega) hb' (by simp;omega) (by simp;omega) hI'
    refine ⟨r,?_,?_⟩
    ·rw [←h5];congr 2
    ·rw [show (60000:Int) - room+(pq5 d a).1=60000 - (room - (pq5 d a).1) by omega];exact g5
  ·rw [if_neg hc] at g1
   rw [if_neg (by omega)]
   exact bad g1
theorem impl_dat (p1:Int) (x0:Int×Zg) (L0:List Zc) (S0:List Int) (hLS:L0.length=S0.length) (hS0:∀ s ∈ S0,0≤s∧s≤4611686018427387904):∀ (R:List Zc) (i:Nat) (Q:List Zc) (st:Option Nat) (at_ e:Int),RdS d st at_ e→Q.length=i→L0.length=i+R.length→L0.length≤1000→
  ∃ at' e',loopM (lp_Ip_74 p1 x0 L0 S0) ((i:Int),d,at_,e,Q++R)=some (d,at',e',Q++(datS d R (S0.drop i) st).1)∧RdS d (datS d R (S0.drop i) st).2 at' e':=by
 intro R
 induction R with
 | nil=>
  intro i Q st at_ e h hQ hl hlen
  have e0:datS d [] (S0.drop i) st=([],st):=by unfold datS;rfl
  rw [e0]
  refine ⟨at_,e,loop_end ?_,h⟩
  dsimp only [lp_Ip_74,m_Ip_74]
  simp at hl
  rw [if_neg (by simp;omega)]
 | cons p R ih=>
  intro i Q st at_ e h hQ hl hlen
  have hi:i < S0.length:=by simp at hl;omega
  have hdr:S0.drop i=S0.getD i 0::S0.drop (i+1):=by
   rw [List.drop_eq_getElem_cons hi,List.getD_eq_getElem?_getD,List.getElem?_eq_getElem hi];rfl
  have hs:S0.getD i 0 ∈ S0:=mem_gd hi
  rw [hdr]
  unfold datS
  obtain ⟨a1,e1,h1,g1⟩ :=im_take hd h (S0.getD i 0) (hS0 _ hs)
  have htl:=takeS_len (d:=d) (S0.getD i 0) st
  have hrd:rd (Q++p::R) (i:Int)=some p:=by
   rw [rd_d default (by simp;omega),List.getD_eq_getElem?_getD,List.getElem?_append_right (by omega)]
   simp [hQ]
  have hset:(Q++p::R).set (0+Int.toNat (i:Int)) (Zc.mk p.track p.time p.span p.key ([]++(takeS d (S0.getD i 0) st).1))=(Q++[Zc.mk p.track p.time p.span p.key (takeS d (S0.getD i 0) st).1])++R:=by
   rw [List.nil_append,Int.toNat_natCast,Nat.zero_add,List.set_append_right _ _ (by omega)]
   simp [hQ]
  have hstep:m_Ip_74 p1 x0 L0 S0 (i:Int) d at_ e (Q++p::R)=some (.inl (((i+1:Nat):Int),d,a1,e1,(Q++[Zc.mk p.track p.time p.span p.key (takeS d (S0.getD i 0) st).1])++R)):=by
   dsimp only [m_Ip_74]
   rw [if_pos (by simp at hl ⊢;omega),rd_d 0 hi]
   simp only [Option.bind_some]
   rw [h1]
   simp only [Option.bind_some]
   rw [ck_eq (by rw [List.length_nil];omega)]
   simp only [Option.bind_some]
   rw [hrd]
   simp only [Option.bind_some]
   rw [hset,w64_succ (by omega)]
  obtain ⟨a2,e2,h2,g2⟩ :=ih (i+1) (Q++[Zc.mk p.track p.time p.span p.key (takeS d (S0.getD i 0) st).1]) _ a1 e1 g1 (by simp;omega) (by simp at hl ⊢;omega) hlen
  refine ⟨a2,e2,(loop_step hstep).trans ?_,g2⟩
  rw [h2]
  simp
theorem impl_69 (f:Nat) (x0:Int×Zg) (L:List Zc) (S:List Int) (hLS:L.length=S.length) (hI:PkI L S) (hlen:L.length≤1000) (st:Option Nat) (at_ e:Int) (h:RdS d st at_ e) (hfs:∀ a,(datS d L S st).2=some a→f≤a) :
  ∃ at' e',m_Ip_69 (f:Int) x0 d at_ e L S=some (x0.1,(datS d L S st).1,Zg.mk d at' e')∧RdS d (sumS d f (datS d L S st).2) at' e':=by
 dsimp only [m_Ip_69]
 obtain ⟨a1,e1,h1,g1⟩ :=impl_dat hd hb (f:Int) x0 L S hLS hI.2 L 0 [] st at_ e h rfl (by simp) hlen
 rw [List.nil_append,show (((0:Nat):Int))=0 from rfl] at h1
 rw [h1]
 rw [List.drop_zero] at g1
 simp only [Option.bind_some]
 dsimp only [m_Ip_86]
 obtain ⟨a2,e2,h2,g2⟩ :=im_sum hd hb g1 f hfs
 rw [h2]
 exact ⟨_,_,rfl,g2⟩
theorem impl_18_bad (f:Nat) (p2 p4 p5:Int) (x0 x10:Int×Zg) (at_ e:Int) (he:e≠0) :
  ∃ v L at' e',m_Ip_18 (f:Int) p2 p4 p5 x0 x10 d at_ e=some (v,L,Zg.mk d at' e')∧e'≠0:=by
 dsimp only [m_Ip_18]
 by_cases h2:(0:Int) < x10.1
 ·rw [loop_end (e:=.inl (0,[],Zg.mk d at_ e)) (by
   dsimp only [lp_Ip_27,m_Ip_27]
   rw [if_pos (by simpa using h2),if_pos (by simpa using he)])]
  exact ⟨_,_,_,_,rfl,he⟩
 ·rw [loop_end (e:=.inr (d,at_,e,[],[])) (by
   dsimp only [lp_Ip_27,m_Ip_27]
   rw [if_neg (by simpa using h2)])]
  simp only [Option.bind_some]
  obtain ⟨a4,e4,h4,g4⟩ :=impl_69 hd hb f x0 [] [] rfl ⟨by simp,by simp⟩ (by simp) none at_ e he (by simp [datS_none])
  rw [h4]
  exact ⟨_,_,_,_,rfl,g4⟩
theorem impl_10 (f nt np:Nat) (hnp:np≤400) (room:Int) (hr:0≤room∧room≤60000) (x0:Int×Zg) (st:Option Nat) (hqf:∀ b,st=some b→f≤b) (at_ e:Int) (h:RdS d st at_ e) :
  ∃ v L at' e',m_Ip_10 (f:Int) (nt:Int) (np:Int) room x0 d at_ e=some (v,L,Zg.mk d at' e')∧
   (match restS d f nt np (60000 - room) x0.1 (numS d st) with | some (v2,L2,y2,b)=>v=v2∧L=L2∧RdS d (some b) at' e' | none=>e'≠0):=by
 dsimp only [m_Ip_10]
 obtain ⟨a2,e2,h2,g2⟩ :=im_number hd hb h
 rw [h2]
 simp only [Option.bind_some]
 have hr1:=numS_rng d st
 have hqf' : ∀ b,(numS d st).2=some b→f≤b:=fun b hb'=>by
  obtain ⟨a,h3,h4,_⟩ :=numS_lt hb'
  have:=hqf a h3
  omega
 revert g2 hr1 hqf'
 generalize numS d st=q
 obtain ⟨c,s⟩ :=q
 intro g2 hr1 hqf'
 dsimp only at g2 hr1 hqf' ⊢
 have e15:(if decide (c < 1)=true then m_Ip_15 (f:Int) (nt:Int) (np:Int) room x0 (c,Zg.mk d a2 e2) true else m_Ip_15 (f:Int) (nt:Int) (np:Int) room x0 (c,Zg.mk d a2 e2) (decide (c > 100)))=m_Ip_15 (f:Int) (nt:Int) (np:Int) room x0 (c,Zg.mk d a2 e2) (!decide (1≤c∧c≤100)):=by
  by_cases k1:c < 1
  ·rw [if_pos (by simpa using k1),show decide (1≤c∧c≤100)=false by simp;omega];rfl
  ·rw [if_neg (by simpa using k1)]
   congr 1
   by_cases k2:c≤100
   ·rw [show decide (1≤c∧c≤100)=true by simp;omega,show decide (c > 100)=false by simp;omega];rfl
   ·rw [show decide (1≤c∧c≤100)=false by simp;omega,show decide (c > 100)=true by simp;omega];rfl
 rw [e15]
 dsimp only [m_Ip_15]
 have none_of:∀ (X:Option (Int×List Zc×Zg)),(∃ v L at' e',X=some (v,L,Zg.mk d at' e')∧e'≠0)→restS d f nt np (60000 - room) x0.1 (c,s)=none→∃ v L at' e',X=some (v,L,Zg.mk d at' e')∧(match restS d f nt np (60000 - room) x0.1 (c,s) with | some (v2,L2,y2,b)=>v=v2∧L=L2∧RdS d (some b) at' e' | none=>e'≠0):=by
  rintro X ⟨v,L,at',e',h3,h4⟩ h5
  rw [h5]
  exact ⟨v,L,at',e',h3,h4⟩
 by_cases k:1≤c∧c≤100
 ·rw [if_neg (by rw [decide_eq_true k];simp)]
  cases s with
  | none=>exact none_of _ (impl_18_bad hd hb f _ _ _ x0 _ a2 e2 g2) rfl
  | some b=>
   obtain ⟨m,rfl⟩:∃ m:Nat,c=m:=⟨c.toNat,by omega⟩
   obtain ⟨rfl,rfl,hb2⟩ :=g2
   dsimp only [m_Ip_18]
   obtain ⟨r,h3,g3⟩ :=impl_pks hd hb (f:Int) nt np hnp x0 ((m:Int),Zg.mk d b 0) m rfl (by omega) m 0 room b [] [] (by omega) (by omega) hr hb2 rfl rfl ⟨by simp,by simp⟩
   rw [show ((np+0:Nat):Int)=np by omega,show (((0:Nat):Int))=0 from rfl] at h3
   rw [h3]
   simp only [Option.bind_some]
   unfold restS
   dsimp only
   rw [Int.toNat_natCast]
   by_cases k2:(np:Int)+m≤400
   ·rw [if_pos k2] at g3
    rw [if_pos ⟨k.1,k.2,k2⟩]
    cases hqq:pksS d nt m (60000 - room) b [] [] with
    | none=>
     rw [hqq] at g3
     obtain ⟨a5,e5,L5,S5,h5,rfl | rfl,n1,n2,n3⟩ :=g3
     ·exact ⟨_,_,_,_,rfl,h5⟩
     ·obtain ⟨a6,e6,h6,g6⟩ :=impl_69 hd hb f x0 L5 S5 n1 n3 (by omega) none a5 e5 h5 (by simp [datS_none])
      rw [datS_none,sumS_none] at g6
      exact ⟨_,_,_,_,h6,g6⟩
    | some r5=>
     obtain ⟨L5,S5,y5,c5⟩ :=r5
     rw [hqq] at g3
     obtain ⟨rfl,g3⟩ :=g3
     obtain ⟨j1,j2,j3,j4,j5⟩ :=pksS_le hd hb _ _ _ _ _ _ _ _ _ _ (by omega) ⟨by simp,by simp⟩ rfl hqq
     have hfb:=hqf' b rfl
     obtain ⟨a6,e6,h6,g6⟩ :=impl_69 hd hb f x0 L5 S5 j4 j2 (by simp at j5;omega) (some c5) c5 0 ⟨rfl,rfl,g3⟩ (fun a ha=>by
      have:=datS_le L5 S5 c5 a j2.2 ha
      omega)
     refine ⟨_,_,_,_,h6,?_⟩
     dsimp only
     cases hs:sumS d f (datS d L5 S5 (some c5)).2 with
     | none=>rw [hs] at g6;exact g6
     | some z=>rw [hs] at g6;exact ⟨rfl,rfl,g6⟩
   ·rw [if_neg k2] at g3
    rw [if_neg (fun hh=>k2 hh.2.2)]
    obtain ⟨a5,e5,L5,S5,h5,rfl | rfl,n1,n2,n3⟩ :=g3
    ·exact ⟨_,_,_,_,rfl,h5⟩
    ·obtain ⟨a6,e6,h6,g6⟩ :=impl_69 hd hb f x0 L5 S5 n1 n3 (by omega) none a5 e5 h5 (by simp [datS_none])
     rw [datS_none,sumS_none] at g6
     exact ⟨_,_,_,_,h6,g6⟩
 ·obtain ⟨a5,e5,h5,g5⟩ :=im_fail g2 5 (by decide)
  rw [if_pos (by rw [decide_eq_false k];rfl),h5]
  simp only [Option.bind_some]
  refine none_of _ (impl_18_bad hd hb f _ _ _ x0 _ a5 e5 g5) ?_
  unfold restS
  cases s with
  | none=>rfl
  | some b=>dsimp only;rw [if_neg (fun hh=>k ⟨hh.1,hh.2.1⟩)]
theorem impl_piece (f nt np:Nat) (hnp:np≤400) (due room:Int) (hr:0≤room∧room≤60000) (st:Option Nat) (hqf:∀ b,st=some b→f≤b) (at_ e:Int) (h:RdS d st at_ e) :
  ∃ v L at' e',m_Ip (Zg.mk d at_ e) (f:Int) (nt:Int) due (np:Int) room=some (v,L,Zg.mk d at' e')∧
   (match pieceS d f nt np (60000 - room) due st with | some (v2,L2,y2,b)=>v=v2∧L=L2∧RdS d (some b) at' e' | none=>e'≠0):=by
 dsimp only [m_Ip,m_Ip_0]
 obtain ⟨a1,e1,h1,g1⟩ :=im_number hd hb h
 rw [h1]
 simp only [Option.bind_some]
 have hqf' : ∀ b,(numS d st).2=some b→f≤b:=fun b hb'=>by
  obtain ⟨a,h3,h4,_⟩ :=numS_lt hb'
  have:=hqf a h3
  omega
 unfold pieceS
 have e7:(if decide (due≥0)=true then m_Ip_7 (f:Int) (nt:Int) (np:Int) room ((numS d st).1,Zg.mk d a1 e1) ((numS d st).1 != due) else m_Ip_7 (f:Int) (nt:Int) (np:Int) room ((numS d st).1,Zg.mk d a1 e1) false)
   = m_Ip_7 (f:Int) (nt:Int) (np:Int) room ((numS d st).1,Zg.mk d a1 e1) (!decide (due < 0∨(numS d st).1=due)):=by
  by_cases k1:due≥0
  ·rw [if_pos (by simpa using k1)]
   congr 1
   by_cases k2:(numS d st).1=due
   ·simp [k2]
   ·rw [decide_eq_false (by omega : ¬ (due < 0∨(numS d st).1=due))];simp [k2]
  ·rw [if_neg (by simpa using k1),show decide (due < 0∨(numS d st).1=due)=true by simp;omega];rfl
 rw [e7]
 dsimp only [m_Ip_7]
 by_cases k:due < 0∨(numS d st).1=due
 ·rw [if_neg (by rw [decide_eq_true k];simp),if_pos k]
  exact impl_10 hd hb f nt np hnp room hr ((numS d st).1,Zg.mk d a1 e1) _ hqf' a1 e1 g1
 ·rw [if_pos (by rw [decide_eq_false k];rfl),if_neg k]
  obtain ⟨a5,e5,h5,g5⟩ :=im_fail g1 6 (by decide)
  rw [h5]
  simp only [Option.bind_some]
  have:=impl_10 hd hb f nt np hnp room hr ((numS d st).1,Zg.mk d a1 e1) none (by simp) a5 e5 g5
  rw [numS_none,show restS d f nt np (60000 - room) (numS d st).1 (0,none)=none from rfl] at this
  exact this
end
end Go.Proofs.V

namespace Go.Proofs.V
open Go
theorem bytesOf_eq:∀ (l:List Int),(∀ x ∈ l,0≤x∧x≤255)→bytesOf (l.map (rI .u8))=some (l.map fun x=>UInt8.ofNat x.toNat)
 | [],_=>rfl
 | x::l,h=>by
  have h1:=bytesOf_eq l (fun y hy=>h y (List.mem_cons_of_mem _ hy))
  have hx:=h x List.mem_cons_self
  show (if 0≤x∧x≤255 then (bytesOf (l.map (rI .u8))).map (UInt8.ofNat x.toNat :: ·) else none)=_
  rw [if_pos hx,h1];rfl
theorem name_list {l:List Int} (h:∀ x ∈ l,0≤x∧x≤255):(nameOf l).toList=l.map fun x=>UInt8.ofNat x.toNat:=by
 unfold nameOf bstr
 rw [bytesOf_eq l h]
 show (ByteArray.mk (l.map fun x=>UInt8.ofNat x.toNat).toArray).toList=_
 exact ByteArray.toList_mk _
theorem u8_inj:∀ (l m:List Int),(∀ x ∈ l,0≤x∧x≤255)→(∀ x ∈ m,0≤x∧x≤255)→l.map (fun x=>UInt8.ofNat x.toNat)=m.map (fun x=>UInt8.ofNat x.toNat)→l=m
 | [],[],_,_,_=>rfl
 | [],_::_,_,_,h=>by simp at h
 | _::_,[],_,_,h=>by simp at h
 | x::l,y::m,h1,h2,h=>by
  simp only [List.map_cons,List.cons.injEq] at h
  have hx:=h1 x List.mem_cons_self
  have hy:=h2 y List.mem_cons_self
  have h3:(UInt8.ofNat x.toNat).toNat=(UInt8.ofNat y.toNat).toNat:=by rw [h.1]
  have h4:∀ z:Int,0≤z∧z≤255→(UInt8.ofNat z.toNat).toNat=z.toNat:=fun z hz=>by
   simp [UInt8.toNat_ofNat];omega
  rw [h4 x hx,h4 y hy] at h3
  have h5:x=y:=by omega
  rw [h5,u8_inj l m (fun z hz=>h1 z (List.mem_cons_of_mem _ hz)) (fun z hz=>h2 z (List.mem_cons_of_mem _ hz)) h.2]
theorem name_eq {l m:List Int} {s:ByteArray} (hl:∀ x ∈ l,0≤x∧x≤255) (hm:∀ x ∈ m,0≤x∧x≤255) (hs:s.toList=m.map fun x=>UInt8.ofNat x.toNat):((nameOf l).toList == s.toList)=decide (l=m):=by
 rw [name_list hl,hs]
 by_cases h:l=m
 ·subst h;simp
 ·rw [decide_eq_false h]
  simp only [beq_eq_false_iff_ne]
  exact fun hh=>h (u8_inj l m hl hm hh)
def pMark:List Int:=[27,80,73,69,67,69,10,0]
def iMark:List Int:=[27,73,78,68,69,88,10,0]
def isM (d:List Int) (a:Nat) (m:List Int):Bool:=decide (a+8≤d.length∧slc d a 8=m)
def ixF (f:Nat) (ix:List Za) (L:List Zc):List Za:=L.foldl (fun s p=>if p.key then s++[Za.mk p.track p.time f] else s) ix
def runS (d:List Int) (nt:Nat):Nat→Nat→Nat→Int→List Zc→List Za→Bool×Nat×List Zc×List Za
 | 0,a,_,_,P,ix=>(true,a,P,ix)
 | k+1,a,due,by_,P,ix=>if isM d a pMark then (match pieceS d a nt P.length by_ due (some (a+8)) with
  | some (_,L,y,b)=>runS d nt k b (due+1) y (P++L) (ixF a ix L)
  | none=>(false,a,P,ix)) else (true,a,P,ix)
def dsum:List Zc→Int
 | []=>0
 | p::L=>p.data.length+dsum L
def isum:List Int→Int
 | []=>0
 | x::l=>x+isum l
theorem isum_app:∀ (l m:List Int),isum (l++m)=isum l+isum m
 | [],m=>by simp [isum]
 | x::l,m=>by simp [isum,isum_app l m];omega
section
variable {d:List Int} (hd:d.length≤1048576) (hb:∀ x ∈ d,0≤x∧x≤255)
theorem ixF_len (f:Nat):∀ (L:List Zc) (ix:List Za),(ixF f ix L).length≤ix.length+L.length
 | [],ix=>by unfold ixF;simp
 | p::L,ix=>by
  have:=ixF_len f L (if p.key then ix++[Za.mk p.track p.time f] else ix)
  unfold ixF at this ⊢
  rw [List.foldl_cons]
  refine Nat.le_trans this ?_
  split <;> simp <;> omega
theorem datS_sum:∀ (L:List Zc) (S:List Int) (a b:Nat),L.length=S.length→(∀ s ∈ S,0≤s∧s≤4611686018427387904)→(datS d L S (some a)).2=some b→a≤d.length→dsum (datS d L S (some a)).1=isum S∧b≤d.length∧(datS d L S (some a)).1.length=L.length
 | [],S,a,b,hl,_,h,ha=>by
  have:S=[]:=List.length_eq_zero_iff.1 (by simpa using hl.symm)
  subst this
  unfold datS at h ⊢;simp at h;simp [dsum,isum];omega
 | _::_,[],a,b,hl,_,h,_=>by simp at hl
 | p::L,s::S,a,b,hl,hs,h,ha=>by
  unfold datS at h ⊢
  cases hq:(takeS d s (some a)).2 with
  | none=>rw [hq] at h;rw [datS_none] at h;simp at h
  | some c=>
   rw [hq] at h
   have h1:=hs s (by simp)
   have hc:c≤d.length∧((takeS d s (some a)).1.length:Int)=s:=by
    unfold takeS at hq ⊢
    dsimp only at hq ⊢
    by_cases k:(a:Int)+s≤d.length
    ·rw [if_pos k] at hq ⊢
     simp at hq
     refine ⟨by omega,?_⟩
     rw [slc_ln (by omega)];omega
    ·rw [if_neg k] at hq;simp at hq
   obtain ⟨j1,j2,j3⟩ :=datS_sum L S c b (by simpa using hl) (fun x hx=>hs x (by simp [hx])) h hc.1
   refine ⟨?_,j2,by simp [j3]⟩
   show ((takeS d s (some a)).1.length:Int)+dsum (datS d L S (some c)).1=s+isum S
   rw [j1,hc.2]
include hd hb
theorem pksS_sum (nt:Nat):∀ (k:Nat) (by_:Int) (a:Nat) (L:List Zc) (S:List Int) (L2:List Zc) (S2:List Int) (y:Int) (b:Nat),pksS d nt k by_ a L S=some (L2,S2,y,b)→a≤d.length→y=by_+isum S2 - isum S∧b≤d.length
 | 0,by_,a,L,S,L2,S2,y,b,h,ha=>by
  unfold pksS at h
  simp at h
  obtain ⟨rfl,rfl,rfl,rfl⟩ :=h
  exact ⟨by omega,ha⟩
 | k+1,by_,a,L,S,L2,S2,y,b,h,ha=>by
  unfold pksS at h
  cases hq:pkS d nt by_ a with
  | none=>rw [hq] at h;simp at h
  | some c=>
   rw [hq] at h
   obtain ⟨z1,z2,z3,z4⟩ :=pkS_some hd hb hq
   obtain ⟨x4,w4,v4,v5⟩ :=numS_lt z1
   obtain ⟨j1,j2⟩ :=pksS_sum nt k _ c _ _ L2 S2 y b h v5
   rw [isum_app] at j1
   simp [isum] at j1
   exact ⟨by omega,j2⟩
theorem pieceS_facts {f nt np:Nat} {by_ due:Int} {a:Nat} {v:Int} {L:List Zc} {y:Int} {b:Nat} (hy:0≤by_∧by_≤60000) (h:pieceS d f nt np by_ due (some a)=some (v,L,y,b)) :
  a < b∧b≤d.length∧np+L.length≤400∧(0≤y∧y≤60000)∧y=by_+dsum L:=by
 unfold pieceS at h
 by_cases k:due < 0∨(numS d (some a)).1=due
 ·rw [if_pos k] at h
  unfold restS at h
  cases hq:(numS d (numS d (some a)).2).2 with
  | none=>rw [hq] at h;simp at h
  | some c=>
   rw [hq] at h
   dsimp only at h
   by_cases k2:1≤(numS d (numS d (some a)).2).1∧(numS d (numS d (some a)).2).1≤100∧(np:Int)+(numS d (numS d (some a)).2).1≤400
   ·rw [if_pos k2] at h
    cases hqq:pksS d nt (numS d (numS d (some a)).2).1.toNat by_ c [] [] with
    | none=>rw [hqq] at h;simp at h
    | some r=>
     obtain ⟨L2,S2,y2,c2⟩ :=r
     rw [hqq] at h
     dsimp only at h
     cases hs:sumS d f (datS d L2 S2 (some c2)).2 with
     | none=>rw [hs] at h;simp at h
     | some e=>
      rw [hs] at h
      simp at h
      obtain ⟨rfl,rfl,rfl,rfl⟩ :=h
      obtain ⟨x1,w1,v1,_⟩ :=numS_lt hq
      obtain ⟨x0,w0,v0,_⟩ :=numS_lt w1
      simp at w0
      subst w0
      obtain ⟨j1,j2,j3,j4,j5⟩ :=pksS_le hd hb _ _ _ _ _ _ _ _ _ _ hy ⟨by simp,by simp⟩ rfl hqq
      have hc:c≤d.length:=(numS_lt hq).choose_spec.2.2
      obtain ⟨s1,s2⟩ :=pksS_sum hd hb _ _ _ _ _ _ _ _ _ _ hqq hc
      cases hz:(datS d L2 S2 (some c2)).2 with
      | none=>rw [hz] at hs;simp [sumS] at hs
      | some z=>
       obtain ⟨t1,t2,t3⟩ :=datS_sum L2 S2 c2 z j4 j2.2 hz s2
       have t4:=datS_le L2 S2 c2 z j2.2 hz
       rw [hz] at hs
       unfold sumS at hs
       dsimp only at hs
       by_cases k3:z+4≤d.length∧be4 (slc d z 4)=crcF (slc d f (z - f))
       ·rw [if_pos k3] at hs
        simp at hs
        refine ⟨by omega,by omega,?_,j3,?_⟩
        ·rw [t3,j5];simp;omega
        ·rw [t1,s1];simp [isum]
       ·rw [if_neg k3] at hs;simp at hs
   ·rw [if_neg k2] at h;simp at h
 ·rw [if_neg k] at h;simp at h
omit hb in
theorem spec_mark (a:Nat) (m:List Int) (hm:m.length=8) (ha:a≤d.length) (e du byr:Int) (B:Zd) (ix:List Za):m_Sm (Ze.mk d a e B du byr ix) m=some (isM d a m,Ze.mk d a e B du byr ix):=by
 dsimp only [m_Sm,m_Sm_0]
 rw [w64_id (x:=(d.length:Int) - a) (by omega) (by omega)]
 unfold isM
 by_cases h:a+8≤d.length
 ·rw [if_neg (by simp;omega)]
  have key:=all_fold (l:=List.range 8) (σ:=Unit) (fun _ i=>((i:Nat):Int)) (q:=fun i=>decide (d.getD (a+i) 0=m.getD i 0)) (g:=fun _ _=>()) (I:=fun _ _=>True) (b:=lp_Sm_15 m (Ze.mk d a e B du byr ix)) (e0:=.inl (false,Ze.mk d a e B du byr ix)) (e1:=fun _=>.inr ())
   (fun i s hi _=>by
    simp at hi
    simp only [List.getElem_range]
    have hs:lp_Sm_15 m (Ze.mk d a e B du byr ix) (i:Int)=if d.getD (a+i) 0=m.getD i 0 then some (.inl (((i+1:Nat)):Int)) else some (.inr (.inl (false,Ze.mk d a e B du byr ix))):=by
     dsimp only [lp_Sm_15,m_Sm_15]
     rw [if_pos (by rw [hm];simp;omega),rd_d 0 (by omega)]
     simp only [Option.bind_some]
     rw [w64_id (x:=(a:Int)+i) (by omega) (by omega),show (a:Int)+i=((a+i:Nat):Int) by omega,rd_d 0 (by omega)]
     simp only [Option.bind_some]
     rw [w64_succ (by omega)]
     by_cases k:d.getD (a+i) 0=m.getD i 0
     ·rw [if_neg (by simpa using k),if_pos k]
     ·rw [if_pos (by simpa using k),if_neg k]
    refine ⟨fun hq=>⟨?_,trivial⟩,fun hq=>?_⟩
    ·rw [hs,if_pos (of_decide_eq_true hq)]
    ·rw [hs,if_neg (of_decide_eq_false hq)])
   (fun s _=>by
    dsimp only [lp_Sm_15,m_Sm_15]
    rw [if_neg (by rw [hm];simp)]) () trivial
  have e1:(((0:Nat):Int))=0:=rfl
  rw [e1] at key
  rw [key]
  have e2:(List.range 8).all (fun i=>decide (d.getD (a+i) 0=m.getD i 0))=decide (a+8≤d.length∧slc d a 8=m):=by
   rw [Bool.eq_iff_iff]
   simp only [List.all_eq_true,List.mem_range,decide_eq_true_eq]
   constructor
   ·intro hh
    refine ⟨h,?_⟩
    apply List.ext_getElem?
    intro i
    by_cases hi:i < 8
    ·have:=hh i hi
     rw [List.getD_eq_getElem?_getD,List.getD_eq_getElem?_getD,List.getElem?_eq_getElem (show a+i < d.length by omega),List.getElem?_eq_getElem (show i < m.length by omega)] at this
     simp only [Option.getD_some] at this
     unfold slc
     rw [List.getElem?_drop,List.getElem?_take,if_pos (by omega),List.getElem?_eq_getElem (show a+i < d.length by omega),List.getElem?_eq_getElem (show i < m.length by omega),this]
    ·rw [List.getElem?_eq_none (by rw [slc_ln h];omega),List.getElem?_eq_none (by omega)]
   ·rintro ⟨_,hh⟩ i hi
    rw [←hh]
    unfold slc
    rw [List.getD_eq_getElem?_getD,List.getD_eq_getElem?_getD,List.getElem?_drop,List.getElem?_take,if_pos (by omega)]
  rw [e2]
  cases decide (a+8≤d.length∧slc d a 8=m) <;> rfl
 ·rw [if_pos (by simp;omega),decide_eq_false (fun hh=>h hh.1)]
theorem spec_pieces (nt:Nat) (T:List Zb) (hT:T.length=nt):∀ (k a due:Nat) (byr:Int) (P:List Zc) (ix:List Za),d.length < a+k→a≤d.length→due≤a→0≤byr∧byr≤60000→P.length≤400→ix.length≤P.length→
  ∃ r,loopM lp_Sp_2 (d,(a:Int),0,(due:Int),byr,T,P,ix)=some r∧(match runS d nt k a due byr P ix with | (ok,b,P',ix')=>r.data=d∧r.index=ix'∧r.box=Zd.mk T P'∧ix'.length≤400∧P'.length≤400∧(if ok=true then r.err=0∧r.at_=b∧b≤d.length∧isM d b pMark=false else r.err≠0)):=by
 intro k
 induction k with
 | zero=>intro a due byr P ix h1 h2;omega
 | succ k ih=>
  intro a due byr P ix h1 ha hdue hy hP hix
  have hm:=spec_mark hd a pMark rfl ha 0 due byr (Zd.mk T P) ix
  unfold runS
  by_cases hmk:isM d a pMark=true
  ·rw [if_pos hmk]
   have ha8:a+8≤d.length:=(of_decide_eq_true hmk).1
   obtain ⟨v,L,a1,e1,y1,h3,g3⟩ :=spec_piece hd hb a ha8 (due:Int) (due:Int) byr T P ix hy (by omega)
   rw [hT] at g3
   have hstep:m_Sp_2 d (a:Int) 0 (due:Int) byr T P ix=if (e1 != 0)=true then some (.inr (Ze.mk d a1 e1 (Zd.mk T P) due y1 ix)) else (loopM (lp_Sp_26 (isM d a pMark,Ze.mk d a 0 (Zd.mk T P) due byr ix) (v,L,Ze.mk d a1 e1 (Zd.mk T P) due y1 ix)) (0,(w64 ((due:Int)+1)),ix)).bind fun e=>m_Sp_42 (v,L,Ze.mk d a1 e1 (Zd.mk T P) due y1 ix) e.1 e.2:=by
    dsimp only [m_Sp_2]
    rw [if_pos (by simp)]
    show (some pMark).bind _=_
    simp only [Option.bind_some]
    rw [hm]
    simp only [Option.bind_some]
    rw [if_pos hmk,h3]
    rfl
   cases hq:pieceS d a nt P.length byr due (some (a+8)) with
   | none=>
    rw [hq] at g3
    obtain ⟨g3,rfl⟩ :=g3
    refine ⟨Ze.mk d a1 e1 (Zd.mk T P) due y1 ix,loop_end ?_,rfl,rfl,rfl,by omega,hP,?_⟩
    ·show m_Sp_2 d (a:Int) 0 (due:Int) y1 T P ix=_
     rw [hstep,if_pos (by simpa using g3)]
    ·rw [if_neg (by simp)];exact g3
   | some r=>
    obtain ⟨v2,L2,y2,b⟩ :=r
    rw [hq] at g3
    obtain ⟨rfl,rfl,rfl,rfl,rfl,hb2⟩ :=g3
    obtain ⟨f1,f2,f3,f4,f5⟩ :=pieceS_facts hd hb hy hq
    have hL:L.length≤400:=by omega
    have fold:=fold_list (l:=L) (σ:=List Za) (fun s i=>(((i:Nat):Int),(((due+1:Nat)):Int),s)) (g:=fun s p=>if p.key then s++[Za.mk p.track p.time a] else s) (I:=fun i s=>s.length≤ix.length+i) (b:=lp_Sp_26 (isM d a pMark,Ze.mk d a 0 (Zd.mk T P) due byr ix) (v,L,Ze.mk d b 0 (Zd.mk T P) due y1 ix)) (e1:=fun s=>(((due+1:Nat):Int),s))
     (fun i s hi hI=>by
      dsimp only [lp_Sp_26,m_Sp_26]
      rw [if_pos (by simp;omega),rd_eq hi]
      simp only [Option.bind_some]
      rw [w64_succ (by omega)]
      cases hk:L[i].key with
      | true=>
       simp only [if_true]
       rw [ck_eq (by simp;omega)]
       simp only [Option.bind_some]
       exact ⟨by trivial,by simp;omega⟩
      | false=>
       simp only [Bool.false_eq_true,if_false]
       exact ⟨by trivial,by omega⟩)
     (fun s _=>by
      dsimp only [lp_Sp_26,m_Sp_26]
      rw [if_neg (by simp)]) ix (by simp)
    obtain ⟨r,h5,g5⟩ :=ih b (due+1) y1 (P++L) (ixF a ix L) (by omega) f2 (by omega) f4 (by simp;omega) (by have:=ixF_len a L ix;simp;omega)
    refine ⟨r,(loop_step ?_).trans h5,g5⟩
    show m_Sp_2 d (a:Int) 0 (due:Int) byr T P ix=_
    rw [hstep,if_neg (by simp),w64_succ (by omega)]
    have h6:=fold.1
    rw [show (((0:Nat):Int))=0 from rfl] at h6
    rw [h6]
    simp only [Option.bind_some]
    dsimp only [m_Sp_42]
    rw [ck_eq (by omega)]
    rfl
  ·have hmk' : isM d a pMark=false:=by simpa using hmk
   rw [if_neg hmk]
   refine ⟨Ze.mk d a 0 (Zd.mk T P) due byr ix,loop_end ?_,rfl,rfl,rfl,by omega,hP,?_⟩
   ·show m_Sp_2 d (a:Int) 0 (due:Int) byr T P ix=_
    dsimp only [m_Sp_2]
    rw [if_pos (by simp)]
    show (some pMark).bind _=_
    simp only [Option.bind_some]
    rw [hm]
    simp only [Option.bind_some]
    rw [if_neg hmk]
   ·rw [if_pos rfl];exact ⟨rfl,rfl,ha,hmk'⟩
omit hd hb in
theorem room_fold (f:Nat):∀ (L:List Zc) (room:Int) (ix:List Za),L.foldl (fun (s:Int×List Za) p=>(s.1 - p.data.length,if p.key then s.2++[Za.mk p.track p.time f] else s.2)) (room,ix)=(room - dsum L,ixF f ix L)
 | [],room,ix=>by simp [dsum,ixF]
 | p::L,room,ix=>by
  rw [List.foldl_cons,room_fold f L]
  rw [show dsum (p::L)=p.data.length+dsum L from rfl,show ixF f ix (p::L)=ixF f (if p.key then ix++[Za.mk p.track p.time f] else ix) L from rfl]
  congr 1
  omega
omit hd hb in
theorem dsum_nn:∀ L:List Zc,0≤dsum L
 | []=>by simp [dsum]
 | p::L=>by have:=dsum_nn L;simp [dsum];omega
omit hd hb in
theorem dsum_take (L:List Zc):∀ i,dsum (L.take i)≤dsum L:=by
 induction L with
 | nil=>intro i;simp [dsum]
 | cons p L ih=>
  intro i
  cases i with
  | zero=>simp [dsum];have:=dsum_nn L;omega
  | succ i=>simp [dsum];have:=ih i;omega
omit hd hb in
theorem dsum_take_succ (L:List Zc):∀ i (h:i < L.length),dsum (L.take (i+1))=dsum (L.take i)+L[i].data.length:=by
 induction L with
 | nil=>intro i h;simp at h
 | cons p L ih=>
  intro i h
  cases i with
  | zero=>simp [dsum]
  | succ i=>simp [dsum];have:=ih i (by simpa using h);omega
theorem impl_pieces (nt:Nat) (x0:List Zb×Zg) (hT:x0.1.length=nt):∀ (k a due:Nat) (byr:Int) (P:List Zc) (ix:List Za),d.length < a+k→a≤d.length→due≤a→0≤byr∧byr≤60000→P.length≤400→ix.length≤P.length→
  ∃ r,loopM (lp_Ij_13 x0) (60000 - byr,(due:Int),d,(a:Int),0,ix,P)=some r∧(match runS d nt k a due byr P ix with | (ok,b,P',ix')=>if ok=true∧isM d b iMark=true then r = .inr (Zd.mk x0.1 P',ix',Zg.mk d ((b+8:Nat):Int) 0) else ∃ at' e',e'≠0∧r = .inl (d,at',e',ix',P')):=by
 intro k
 induction k with
 | zero=>intro a due byr P ix h1 h2;omega
 | succ k ih=>
  intro a due byr P ix h1 ha hdue hy hP hix
  obtain ⟨a1,e1,h3,g3⟩ :=im_take hd (st:=some a) (at_:=(a:Int)) (e:=0) ⟨rfl,rfl,ha⟩ 8 (by omega)
  have hnm:=bstr_name (takeS_b hb 8 (some a))
  have hpm:∀ x ∈ pMark,0≤x∧x≤255:=by decide
  have him:∀ x ∈ iMark,0≤x∧x≤255:=by decide
  have eqp:=name_eq (l:=(takeS d 8 (some a)).1) (m:=pMark) (s:=ByteArray.mk #[27,80,73,69,67,69,10,0]) (takeS_b hb 8 (some a)) hpm (by rw [ByteArray.toList_eq];rfl)
  have eqi:=name_eq (l:=(takeS d 8 (some a)).1) (m:=iMark) (s:=ByteArray.mk #[27,73,78,68,69,88,10,0]) (takeS_b hb 8 (some a)) him (by rw [ByteArray.toList_eq];rfl)
  have badx:∀ (at_ e:Int),e≠0→∃ y at' e',m_Ij_39 (60000 - byr) (due:Int) (a:Int) ix x0 P d at_ e=some (.inr (.inl (d,at',e',ix,P)))∧e'≠0∧y=(0:Int):=by
   intro at_ e he
   dsimp only [m_Ij_39]
   obtain ⟨v,L,a2,e2,h4,g4⟩ :=impl_piece hd hb a nt P.length hP (due:Int) (60000 - byr) (by omega) none (by simp) at_ e he
   rw [hT,h4]
   simp only [Option.bind_some]
   have:pieceS d a nt P.length (60000 - (60000 - byr)) due none=none:=by
    unfold pieceS;rw [numS_none,numS_none];split <;> rfl
   rw [this] at g4
   rw [if_pos (by simpa using g4)]
   exact ⟨0,_,_,rfl,g4,rfl⟩
  have hstep:lp_Ij_13 x0 (60000 - byr,(due:Int),d,(a:Int),0,ix,P)=if (takeS d 8 (some a)).2.isSome=true then m_Ij_28 (60000 - byr) (due:Int) (a:Int) (nameOf (takeS d 8 (some a)).1) ((takeS d 8 (some a)).1,Zg.mk d a1 e1) ix x0 P (decide ((takeS d 8 (some a)).1=iMark)) else m_Ij_28 (60000 - byr) (due:Int) (a:Int) (nameOf (takeS d 8 (some a)).1) ((takeS d 8 (some a)).1,Zg.mk d a1 e1) ix x0 P false:=by
   dsimp only [lp_Ij_13,m_Ij_13]
   rw [if_pos (by simp),h3]
   simp only [Option.bind_some]
   rw [hnm.1]
   simp only [Option.bind_some]
   rw [RdS_e g3,eqi]
  unfold runS
  have hpi:pMark≠iMark:=by decide
  by_cases h8:a+8≤d.length
  ·have htk:takeS d 8 (some a)=(slc d a 8,some (a+8)):=by unfold takeS;dsimp only;rw [if_pos (by omega)];rfl
   rw [htk] at hstep g3 eqp hnm
   simp only [Option.isSome_some,if_true] at hstep
   obtain ⟨rfl,rfl,_⟩ :=g3
   have ip:isM d a pMark=decide (slc d a 8=pMark):=by unfold isM;simp [h8]
   have ii:isM d a iMark=decide (slc d a 8=iMark):=by unfold isM;simp [h8]
   by_cases hmk:slc d a 8=pMark
   ·rw [ip,decide_eq_true hmk,if_pos rfl]
    have h28:lp_Ij_13 x0 (60000 - byr,(due:Int),d,(a:Int),0,ix,P)=m_Ij_39 (60000 - byr) (due:Int) (a:Int) ix x0 P d ((a+8:Nat):Int) 0:=by
     rw [hstep,decide_eq_false (by rw [hmk];exact hpi)]
     dsimp only [m_Ij_28]
     rw [if_neg (by simp),eqp,decide_eq_true hmk,if_pos rfl]
    obtain ⟨v,L,a2,e2,h4,g4⟩ :=impl_piece hd hb a nt P.length hP (due:Int) (60000 - byr) (by omega) (some (a+8)) (fun b hb'=>by simp at hb';omega) ((a+8:Nat):Int) 0 ⟨rfl,rfl,h8⟩
    rw [show (60000:Int) - (60000 - byr)=byr by omega] at g4
    have h39:m_Ij_39 (60000 - byr) (due:Int) (a:Int) ix x0 P d ((a+8:Nat):Int) 0=if (e2 != 0)=true then some (.inr (.inl (d,a2,e2,ix,P))) else (loopM (lp_Ij_52 (due:Int) (a:Int) (v,L,Zg.mk d a2 e2) x0 P) (60000 - byr,0,ix)).bind fun e=>m_Ij_70 (due:Int) (v,L,Zg.mk d a2 e2) x0 P e.1 e.2:=by
     dsimp only [m_Ij_39]
     rw [hT,h4]
     rfl
    cases hq:pieceS d a nt P.length byr due (some (a+8)) with
    | none=>
     rw [hq] at g4
     refine ⟨.inl (d,a2,e2,ix,P),loop_end ?_,?_⟩
     ·rw [h28,h39,if_pos (by simpa using g4)]
     ·dsimp only
      rw [if_neg (by simp)]
      exact ⟨_,_,g4,rfl⟩
    | some r=>
     obtain ⟨v2,L2,y2,b⟩ :=r
     rw [hq] at g4
     obtain ⟨rfl,rfl,rfl,rfl,hb2⟩ :=g4
     obtain ⟨f1,f2,f3,f4,f5⟩ :=pieceS_facts hd hb hy hq
     have fold:=fold_list (l:=L) (σ:=Int×List Za) (fun s i=>(s.1,((i:Nat):Int),s.2)) (g:=fun s p=>(s.1 - p.data.length,if p.key then s.2++[Za.mk p.track p.time a] else s.2)) (I:=fun i s=>s.1=60000 - byr - dsum (L.take i)∧s.2.length≤ix.length+i) (b:=lp_Ij_52 (due:Int) (a:Int) (v,L,Zg.mk d b 0) x0 P) (e1:=fun s=>(s.1,s.2))
      (fun i s hi hI=>by
       have hL:L.length≤400:=by omega
       have d1:=dsum_take_succ L i hi
       have d2:=dsum_take L (i+1)
       have d3:=dsum_nn (L.take (i+1))
       have d4:=dsum_nn (L.take i)
       have hr:w64 (s.1 - (L[i].data.length:Int))=s.1 - (L[i].data.length:Int):=by rw [hI.1];exact w64_id (by omega) (by omega)
       dsimp only [lp_Ij_52,m_Ij_52]
       rw [if_pos (by simp;omega),rd_eq hi]
       simp only [Option.bind_some]
       rw [w64_succ (by omega),hr]
       cases hk:L[i].key with
       | true=>
        simp only [if_true]
        rw [ck_eq (by simp;omega)]
        simp only [Option.bind_some]
        exact ⟨by trivial,by omega,by simp;omega⟩
       | false=>
        simp only [Bool.false_eq_true,if_false]
        exact ⟨by trivial,by omega,by omega⟩)
      (fun s _=>by
       dsimp only [lp_Ij_52,m_Ij_52]
       rw [if_neg (by simp)]) (60000 - byr,ix) ⟨by simp [dsum],by simp⟩
     obtain ⟨r,h5,g5⟩ :=ih b (due+1) y2 (P++L) (ixF a ix L) (by omega) f2 (by omega) f4 (by simp;omega) (by have:=ixF_len a L ix;simp;omega)
     refine ⟨r,(loop_step ?_).trans h5,g5⟩
     rw [h28,h39,if_neg (by simp)]
     have h6:=fold.1
     dsimp only at h6
     rw [show (((0:Nat):Int))=0 from rfl,room_fold] at h6
     rw [h6]
     simp only [Option.bind_some]
     dsimp only [m_Ij_70]
     rw [ck_eq (by omega)]
     simp only [Option.bind_some]
     rw [w64_succ (by omega),show (60000:Int) - byr - dsum L=60000 - y2 by omega]
   ·rw [ip,decide_eq_false hmk,if_neg (by simp)]
    dsimp only
    rw [ii]
    by_cases hmi:slc d a 8=iMark
    ·refine ⟨.inr (Zd.mk x0.1 P,ix,Zg.mk d ((a+8:Nat):Int) 0),loop_end ?_,?_⟩
     ·rw [hstep,decide_eq_true hmi]
      rfl
     ·rw [if_pos ⟨rfl,decide_eq_true hmi⟩]
    ·obtain ⟨a5,e5,h5,g5⟩ :=im_fail (d:=d) (st:=some (a+8)) (at_:=((a+8:Nat):Int)) (e:=0) ⟨rfl,rfl,h8⟩ 4 (by decide)
     obtain ⟨_,a6,e6,h6,g6,_⟩ :=badx a5 e5 g5
     refine ⟨.inl (d,a6,e6,ix,P),loop_end ?_,?_⟩
     ·rw [hstep,decide_eq_false hmi]
      dsimp only [m_Ij_28]
      rw [if_neg (by simp),eqp,decide_eq_false hmk,if_neg (by simp),h5]
      exact h6
     ·rw [if_neg (fun hh=>hmi (of_decide_eq_true hh.2))]
      exact ⟨_,_,g6,rfl⟩
  ·have htk:takeS d 8 (some a)=([],none):=by unfold takeS;dsimp only;rw [if_neg (by omega)]
   rw [htk] at hstep g3 eqp
   simp only [Option.isSome_none,Bool.false_eq_true,if_false] at hstep
   have ip:isM d a pMark=false:=by unfold isM;simp [h8]
   have ii:isM d a iMark=false:=by unfold isM;simp [h8]
   rw [ip,if_neg (by simp)]
   dsimp only
   obtain ⟨a5,e5,h5,g5⟩ :=im_fail g3 4 (by decide)
   obtain ⟨_,a6,e6,h6,g6,_⟩ :=badx a5 e5 g5
   refine ⟨.inl (d,a6,e6,ix,P),loop_end ?_,?_⟩
   ·rw [hstep]
    dsimp only [m_Ij_28]
    rw [if_neg (by simp),eqp,decide_eq_false (by decide),if_neg (by simp),h5]
    exact h6
   ·rw [ii,if_neg (by simp)]
    exact ⟨_,_,g6,rfl⟩
end
end Go.Proofs.V

namespace Go.Proofs.V
open Go
def SmB (b:Zd):Prop:=SmT b.tracks∧b.packets.length≤1048576∧∀ p ∈ b.packets,p.data.length≤1048576
def tracksOk (l:List Zb):Bool:=l.all trackOk&&decide (1≤l.length∧l.length≤8)
theorem spec_tracks (l:List Zb) (h:SmT l):m_Sw l=some (tracksOk l):=by
 simp only [m_Sw,m_Sw_0]
 have:=all_list (l:=l) (q:=trackOk) (b:=lp_Sw_7 l) (by have:=h.1;omega) (fun i hi=>by
  have hx:=h.2 l[i] (by simp)
  have h1:=h.1
  simp only [lp_Sw_7,m_Sw_7]
  rw [if_pos (by simp;omega),rd_eq hi]
  simp only [Option.bind_some]
  rw [spec_track _ (by omega)]
  simp only [Option.bind_some]
  rw [w64_succ (by omega)]) (by simp [lp_Sw_7,m_Sw_7])
 rw [this]
 unfold tracksOk
 cases l.all trackOk with
 | false=>rfl
 | true=>
  simp only [cond_true,Option.bind_some,m_Sw_25,Bool.true_and]
  by_cases h1:1≤l.length
  ·rw [if_pos (by simp;omega)]
   by_cases h2:l.length≤8
   ·simp [h1,h2];omega
   ·simp [h1,h2];omega
  ·rw [if_neg (by simp;omega)];simp [h1]
def pkOk (nt:Nat) (last:List Int) (p:Zc):Bool:=
 decide (0≤p.track∧p.track < nt)&&ticksOk p.time&&ticksOk p.span&&decide (last.getD p.track.toNat 0≤p.time)&&(decide (0≤last.getD p.track.toNat 0)||p.key)
def pkAll (nt:Nat):List Zc→List Int→Nat→Option Nat
 | [],_,sum=>some sum
 | p::ps,last,sum=>if pkOk nt last p then pkAll nt ps (last.set p.track.toNat p.time) (sum+p.data.length) else none
def rightOk (b:Zd):Bool:=
 tracksOk b.tracks&&decide (b.packets.length≤400)&&(match pkAll b.tracks.length b.packets (List.replicate b.tracks.length (-1)) 0 with | some n=>decide (n≤60000) | none=>false)
theorem pkAll_mono (nt:Nat):∀ (l:List Zc) (last:List Int) (s n:Nat),pkAll nt l last s=some n→s≤n
 | [],last,s,n,h=>by simp [pkAll] at h;omega
 | p::ps,last,s,n,h=>by
  simp only [pkAll] at h
  split at h
  ·have:=pkAll_mono nt ps _ _ _ h;omega
  ·simp at h
section
variable {b:Zd} (hb:SmB b) (hn:b.packets.length≤400)
include hb hn
theorem pk_step {X:Type} (i:Nat) (hi:i < b.packets.length) (last:List Int) (hl:last.length=b.tracks.length) (tk:Int→Option Bool) (htk:∀ n,tk n=some (ticksOk n)) (no:Option X) (go:Option X) :
  (if (decide (b.packets[i].track < 0)) then no else if (decide (b.packets[i].track≥(b.tracks.length:Int))) then no else
   (tk b.packets[i].time).bind fun x4=>if x4 then (tk b.packets[i].span).bind fun x6=>if x6 then (rd last b.packets[i].track).bind fun x8=>
    if (decide (b.packets[i].time < x8)) then no else if (decide (x8 < 0)) then (if b.packets[i].key then go else no) else go else no else no)=if pkOk b.tracks.length last b.packets[i] then go else no:=by
 unfold pkOk
 by_cases h1:b.packets[i].track < 0
 ·rw [if_pos (by simpa using h1),if_neg (by simp;omega)]
 ·rw [if_neg (by simpa using h1)]
  by_cases h2:b.packets[i].track≥(b.tracks.length:Int)
  ·rw [if_pos (by simpa using h2),if_neg (by simp;omega)]
  ·rw [if_neg (by simpa using h2),htk]
   simp only [Option.bind_some]
   obtain ⟨k,hk⟩:∃ k:Nat,b.packets[i].track=k:=⟨b.packets[i].track.toNat,by omega⟩
   cases h3:ticksOk b.packets[i].time with
   | false=>simp
   | true=>
    simp only [if_true]
    rw [htk]
    simp only [Option.bind_some]
    cases h4:ticksOk b.packets[i].span with
    | false=>simp
    | true=>
     simp only [if_true]
     rw [hk,rd_d 0 (by omega)]
     simp only [Option.bind_some,Int.toNat_natCast]
     by_cases h5:b.packets[i].time < last.getD k 0
     ·rw [if_pos (by simpa only [decide_eq_true_eq] using h5),if_neg (fun hh=>by simp only [Bool.and_eq_true,decide_eq_true_eq] at hh;omega)]
     ·rw [if_neg (by simpa only [decide_eq_true_eq] using h5)]
      by_cases h6:last.getD k 0 < 0
      ·rw [if_pos (by simpa only [decide_eq_true_eq] using h6)]
       cases b.packets[i].key with
       | true=>simp only [if_true];rw [if_pos (by simp only [Bool.and_eq_true,decide_eq_true_eq,Bool.or_true,and_true];omega)]
       | false=>simp only [Bool.false_eq_true,if_false];rw [if_neg (fun hh=>by simp only [Bool.and_eq_true,decide_eq_true_eq,Bool.or_false] at hh;omega)]
      ·rw [if_neg (by simpa only [decide_eq_true_eq] using h6),if_pos (by simp only [Bool.and_eq_true,decide_eq_true_eq,Bool.or_eq_true,and_true];refine ⟨⟨by omega,by omega⟩,.inl (by omega)⟩)]
theorem spec_walk:∀ (d i:Nat) (last:List Int) (sum:Nat),i+d=b.packets.length→last.length=b.tracks.length→sum≤i*1048576→sum≤60000→
  loopM (lp_St_36 b) ((sum:Int),(i:Int),last)=some (match pkAll b.tracks.length (b.packets.drop i) last sum with | some n=>if n≤60000 then .inr () else .inl false | none=>.inl false):=by
 intro d
 induction d with
 | zero=>
  intro i last sum hi hl hs hs2
  have:i=b.packets.length:=by omega
  subst this
  rw [loopM_eq]
  simp only [lp_St_36,m_St_36]
  rw [if_neg (by simp),List.drop_length]
  simp [pkAll,hs2]
 | succ d ih=>
  intro i last sum hi hl hs hs2
  have hlt:i < b.packets.length:=by omega
  have hdl:=hb.2.2 b.packets[i] (by simp)
  rw [loopM_eq]
  simp only [lp_St_36,m_St_36]
  rw [if_pos (by simp;omega),rd_eq hlt]
  simp only [Option.bind_some]
  have hstep:=pk_step hb hn i hlt last hl m_Su spec_ticks (some (.inr (.inl false))) (m_St_62 (sum:Int) b (i:Int) b.packets[i] last)
  rw [hstep,List.drop_eq_getElem_cons hlt]
  simp only [pkAll]
  cases hok:pkOk b.tracks.length last b.packets[i] with
  | false=>simp
  | true=>
   simp only [if_true]
   have htr:0≤b.packets[i].track∧b.packets[i].track < b.tracks.length:=by
    simp only [pkOk,Bool.and_eq_true,decide_eq_true_eq] at hok
    exact hok.1.1.1.1
   obtain ⟨k,hk⟩:∃ k:Nat,b.packets[i].track=k:=⟨b.packets[i].track.toNat,by omega⟩
   simp only [m_St_62]
   rw [hk,rd_d 0 (by omega)]
   simp only [Option.bind_some,Int.toNat_natCast,Nat.zero_add]
   have e1:w64 ((sum:Int)+(b.packets[i].data.length:Int))=((sum+b.packets[i].data.length:Nat):Int):=by rw [w64_id (by omega) (by omega)];omega
   rw [e1,w64_succ (by omega)]
   by_cases hbig:sum+b.packets[i].data.length > 60000
   ·rw [if_pos (by simp;omega)]
    simp only
    cases hp:pkAll b.tracks.length (b.packets.drop (i+1)) (last.set k b.packets[i].time) (sum+b.packets[i].data.length) with
    | none=>rfl
    | some n=>
     have:=pkAll_mono _ _ _ _ _ hp
     simp only
     rw [if_neg (by omega)]
   ·rw [if_neg (by simp;omega)]
    simp only
    exact ih (i+1) _ _ (by omega) (by simpa using hl) (by rw [Nat.succ_mul];omega) (by omega)
theorem impl_walk:∀ (d i:Nat) (last:List Int) (sum:Nat),i+d=b.packets.length→last.length=b.tracks.length→sum≤i*1048576→
  loopM (lp_Ir_59 b) ((sum:Int),(i:Int),last)=some (match pkAll b.tracks.length (b.packets.drop i) last sum with | some n=>.inr (n:Int) | none=>.inl false):=by
 intro d
 induction d with
 | zero=>
  intro i last sum hi hl hs
  have:i=b.packets.length:=by omega
  subst this
  rw [loopM_eq]
  simp only [lp_Ir_59,m_Ir_59]
  rw [if_neg (by simp),List.drop_length]
  simp [pkAll]
 | succ d ih=>
  intro i last sum hi hl hs
  have hlt:i < b.packets.length:=by omega
  have hdl:=hb.2.2 b.packets[i] (by simp)
  rw [loopM_eq]
  simp only [lp_Ir_59,m_Ir_59]
  rw [if_pos (by simp;omega),rd_eq hlt]
  simp only [Option.bind_some]
  have hstep:=pk_step hb hn i hlt last hl m_Is impl_ticks (some (.inr (.inl false))) (m_Ir_77 (sum:Int) b (i:Int) b.packets[i] last)
  rw [hstep,List.drop_eq_getElem_cons hlt]
  simp only [pkAll]
  cases hok:pkOk b.tracks.length last b.packets[i] with
  | false=>simp
  | true=>
   simp only [if_true]
   have htr:0≤b.packets[i].track∧b.packets[i].track < b.tracks.length:=by
    simp only [pkOk,Bool.and_eq_true,decide_eq_true_eq] at hok
    exact hok.1.1.1.1
   obtain ⟨k,hk⟩:∃ k:Nat,b.packets[i].track=k:=⟨b.packets[i].track.toNat,by omega⟩
   simp only [m_Ir_77]
   rw [hk,rd_d 0 (by omega)]
   simp only [Option.bind_some,Int.toNat_natCast,Nat.zero_add]
   have e1:w64 ((sum:Int)+(b.packets[i].data.length:Int))=((sum+b.packets[i].data.length:Nat):Int):=by rw [w64_id (by omega) (by omega)];omega
   rw [e1,w64_succ (by omega)]
   exact ih (i+1) _ _ (by omega) (by simpa using hl) (by rw [Nat.succ_mul];omega)
end
theorem spec_right (b:Zd) (hb:SmB b):m_St b=some (rightOk b):=by
 simp only [m_St,m_St_0]
 rw [spec_tracks _ hb.1]
 simp only [Option.bind_some]
 unfold rightOk
 have ht:=hb.1.1
 cases tracksOk b.tracks with
 | false=>rfl
 | true=>
  simp only [if_true,Bool.true_and]
  by_cases hn:b.packets.length≤400
  ·rw [if_neg (by simp;omega),ck_eq (by omega)]
   simp only [Option.bind_some,Int.toNat_natCast]
   rw [replicate_filled (v:=-1) b.tracks.length (by omega) (fun i l hi hl=>by
    simp only [lp_St_17,m_St_17]
    rw [if_pos (by simp;omega),rd_d 0 (by omega)]
    simp only [Option.bind_some]
    rw [w64_succ (by omega)]) (fun l=>by simp [lp_St_17,m_St_17])]
   simp only [Option.bind_some,m_St_29]
   have:=spec_walk hb hn b.packets.length 0 (List.replicate b.tracks.length (-1)) 0 (by omega) (by simp) (by omega) (by omega)
   rw [show ((0:Nat):Int)=0 from rfl,List.drop_zero] at this
   rw [this]
   simp only [Option.bind_some]
   cases pkAll b.tracks.length b.packets (List.replicate b.tracks.length (-1)) 0 with
   | none=>simp [hn]
   | some n=>
    simp only [hn,decide_true,Bool.true_and]
    by_cases h2:n≤60000
    ·rw [if_pos h2];simp [h2,m_St_74]
    ·rw [if_neg h2];simp [h2]
  ·rw [if_pos (by simp;omega)];simp [hn]
theorem impl_right (b:Zd) (hb:SmB b):m_Ir b=some (rightOk b):=by
 simp only [m_Ir,m_Ir_0]
 have ht:=hb.1.1
 unfold rightOk tracksOk
 by_cases h1:1≤b.tracks.length
 ·rw [if_neg (by simp;omega)]
  by_cases h8:b.tracks.length≤8
  ·rw [if_neg (by simp;omega)]
   by_cases hn:b.packets.length≤400
   ·rw [if_neg (by simp;omega)]
    have:=all_list (l:=b.tracks) (q:=trackOk) (b:=lp_Ir_15 b) (by omega) (fun i hi=>by
     have hx:=hb.1.2 b.tracks[i] (by simp)
     simp only [lp_Ir_15,m_Ir_15]
     rw [if_pos (by simp;omega),rd_eq hi]
     simp only [Option.bind_some]
     rw [impl_track _ (by omega)]
     simp only [Option.bind_some]
     rw [w64_succ (by omega)]) (by simp [lp_Ir_15,m_Ir_15])
    rw [this]
    cases b.tracks.all trackOk with
    | false=>simp
    | true=>
     simp only [cond_true,Option.bind_some,m_Ir_33,Bool.true_and]
     rw [ck_eq (by omega)]
     simp only [Option.bind_some,Int.toNat_natCast]
     rw [replicate_filled (v:=-1) b.tracks.length (by omega) (fun i l hi hl=>by
      simp only [lp_Ir_42,m_Ir_42]
      rw [if_pos (by simp;omega),rd_d 0 (by omega)]
      simp only [Option.bind_some]
      rw [w64_succ (by omega)]) (fun l=>by simp [lp_Ir_42,m_Ir_42])]
     simp only [Option.bind_some,m_Ir_54]
     have:=impl_walk hb hn b.packets.length 0 (List.replicate b.tracks.length (-1)) 0 (by omega) (by simp) (by omega)
     rw [show ((0:Nat):Int)=0 from rfl,List.drop_zero] at this
     rw [this]
     simp only [Option.bind_some]
     cases pkAll b.tracks.length b.packets (List.replicate b.tracks.length (-1)) 0 with
     | none=>simp
     | some n=>simp [hn,h1,h8,m_Ir_81];omega
   ·rw [if_pos (by simp;omega)];simp [hn]
  ·rw [if_pos (by simp;omega)];simp [h8]
 ·rw [if_pos (by simp;omega)];simp [h1]
def pkAt (b:Zd) (i:Nat):Zc:=b.packets.getD i default
def scAt (b:Zd) (t:Int):Int:=(b.tracks.getD t.toNat default).scale
def earl (b:Zd) (i j:Nat):Bool:=
 if (pkAt b i).time*scAt b (pkAt b j).track≠(pkAt b j).time*scAt b (pkAt b i).track then decide ((pkAt b i).time*scAt b (pkAt b j).track < (pkAt b j).time*scAt b (pkAt b i).track)
 else if (pkAt b i).track≠(pkAt b j).track then decide ((pkAt b i).track < (pkAt b j).track) else decide (i < j)
def goodOk (b:Zd):Bool:=rightOk b&&(List.range' 1 (b.packets.length - 1)).all fun i=>earl b (i - 1) i
theorem ord_anti (A B t u:Int) (i j:Nat) (h:i≠j):(if B≠A then decide (B < A) else if u≠t then decide (u < t) else decide (j < i)) = !(if A≠B then decide (A < B) else if t≠u then decide (t < u) else decide (i < j)):=by
 by_cases h1:A=B
 ·subst h1
  simp only [ne_eq,not_true_eq_false,if_false]
  by_cases h2:t=u
  ·subst h2
   simp only [not_true_eq_false,if_false]
   by_cases h3:i < j
   ·simp only [h3,decide_true,Bool.not_true,decide_eq_false_iff_not];omega
   ·simp only [h3,decide_false,Bool.not_false,decide_eq_true_eq];omega
  ·simp only [h2,Ne.symm h2,not_false_eq_true,if_true,eq_comm (a:=u)]
   by_cases h3:t < u
   ·simp only [h3,decide_true,Bool.not_true,decide_eq_false_iff_not];omega
   ·simp only [h3,decide_false,Bool.not_false,decide_eq_true_eq];omega
 ·have h1' : ¬ B=A:=fun e=>h1 e.symm
  simp only [ne_eq,h1,h1',not_false_eq_true,if_true]
  by_cases h3:A < B
  ·simp only [h3,decide_true,Bool.not_true,decide_eq_false_iff_not];omega
  ·simp only [h3,decide_false,Bool.not_false,decide_eq_true_eq];omega
theorem ord_bne (A B t u:Int) (i j:Nat):(if (A != B) then some (decide (A < B)) else if (t != u) then some (decide (t < u)) else some (decide ((i:Int) < (j:Int))))=some (if A≠B then decide (A < B) else if t≠u then decide (t < u) else decide (i < j)):=by
 by_cases h1:A=B
 ·subst h1
  simp only [bne_self_eq_false,Bool.false_eq_true,if_false,ne_eq,not_true_eq_false]
  by_cases h2:t=u
  ·subst h2
   simp only [bne_self_eq_false,Bool.false_eq_true,if_false,ne_eq,not_true_eq_false,Int.ofNat_lt]
  ·simp only [bne_iff_ne,ne_eq,h2,not_false_eq_true,if_true]
 ·simp only [bne_iff_ne,ne_eq,h1,not_false_eq_true,if_true]
theorem earl_anti (b:Zd) {i j:Nat} (h:i≠j):earl b j i = !(earl b i j):=ord_anti _ _ _ _ i j h
structure RightF (b:Zd):Prop where
 nt:1≤b.tracks.length∧b.tracks.length≤8
 np:b.packets.length≤400
 tr:∀ t ∈ b.tracks,trackOk t=true
 sum:∃ n,pkAll b.tracks.length b.packets (List.replicate b.tracks.length (-1)) 0=some n∧n≤60000
theorem right_facts {b:Zd} (h:rightOk b=true):RightF b:=by
 unfold rightOk tracksOk at h
 simp only [Bool.and_eq_true,decide_eq_true_eq,List.all_eq_true] at h
 obtain ⟨⟨⟨h1,h2⟩,h3⟩,h4⟩ :=h
 refine ⟨h2,h3,h1,?_⟩
 cases hp:pkAll b.tracks.length b.packets (List.replicate b.tracks.length (-1)) 0 with
 | none=>rw [hp] at h4;simp at h4
 | some n=>rw [hp] at h4;exact ⟨n,rfl,by simpa using h4⟩
theorem facts_right {b:Zd} (h:RightF b):rightOk b=true:=by
 unfold rightOk tracksOk
 obtain ⟨n,h1,h2⟩ :=h.sum
 simp only [Bool.and_eq_true,decide_eq_true_eq,List.all_eq_true]
 exact ⟨⟨⟨h.tr,h.nt⟩,h.np⟩,by rw [h1];simpa using h2⟩
theorem pkAll_range (nt:Nat):∀ (l:List Zc) (last:List Int) (s n:Nat),pkAll nt l last s=some n→∀ p ∈ l,(0≤p.track∧p.track < nt)∧(0≤p.time∧p.time≤1000000000)∧(0≤p.span∧p.span≤1000000000)
 | [],last,s,n,h,p,hp=>by simp at hp
 | q::ps,last,s,n,h,p,hp=>by
  simp only [pkAll] at h
  split at h
  ·rename_i hok
   simp only [pkOk,ticksOk,Bool.and_eq_true,decide_eq_true_eq] at hok
   rcases List.mem_cons.1 hp with rfl | hp
   ·exact ⟨hok.1.1.1.1,hok.1.1.1.2,hok.1.1.2⟩
   ·exact pkAll_range nt ps _ _ _ h p hp
  ·simp at h
theorem RightF.pk {b:Zd} (h:RightF b) {i:Nat} (hi:i < b.packets.length):(0≤(pkAt b i).track∧(pkAt b i).track < b.tracks.length)∧(0≤(pkAt b i).time∧(pkAt b i).time≤1000000000)∧(0≤(pkAt b i).span∧(pkAt b i).span≤1000000000):=by
 obtain ⟨n,h1,_⟩ :=h.sum
 refine pkAll_range _ _ _ _ _ h1 _ ?_
 unfold pkAt
 rw [List.getD_eq_getElem?_getD,List.getElem?_eq_getElem hi]
 simp
theorem RightF.sc {b:Zd} (h:RightF b) {t:Int} (h0:0≤t) (h1:t < b.tracks.length):1≤scAt b t∧scAt b t≤1000000:=by
 unfold scAt
 have hl:t.toNat < b.tracks.length:=by omega
 have:=h.tr b.tracks[t.toNat] (by simp)
 rw [List.getD_eq_getElem?_getD,List.getElem?_eq_getElem hl]
 simp only [trackOk,Bool.and_eq_true,decide_eq_true_eq] at this
 exact ⟨this.1.2.2.1,this.1.2.2.2.1⟩
theorem rd_pk {b:Zd} {i:Nat} (hi:i < b.packets.length):rd b.packets (i:Int)=some (pkAt b i):=rd_d default hi
theorem rd_tr {b:Zd} {t:Int} (h0:0≤t) (h1:t < b.tracks.length):∃ x,rd b.tracks t=some x∧x.scale=scAt b t∧x=b.tracks.getD t.toNat default:=by
 obtain ⟨k,rfl⟩:∃ k:Nat,t=k:=⟨t.toNat,by omega⟩
 refine ⟨b.tracks.getD k default,rd_d default (by omega),?_,?_⟩
 ·simp [scAt]
 ·simp
theorem mul_bound {x y:Int} (h1:0≤x) (h2:x≤1000000000) (h3:0≤y) (h4:y≤1000000):0≤x*y∧x*y≤1000000000000000:=by
 refine ⟨Int.mul_nonneg h1 h3,?_⟩
 have:x*y≤1000000000*1000000:=Int.mul_le_mul h2 h4 h3 (by omega)
 omega
theorem earl_eq {b:Zd} (h:RightF b) {i j:Nat} (hi:i < b.packets.length) (hj:j < b.packets.length) {f:Zd→Int→Int→Option Bool}
  (hf:∀ p0 p1 p2,f p0 p1 p2=(rd p0.packets p1).bind fun x0_0=>(rd p0.packets p2).bind fun x0_1=>(rd p0.tracks x0_1.track).bind fun x0_2=>(rd p0.tracks x0_0.track).bind fun x0_3=>
   if ((w64 (x0_0.time*x0_2.scale)) != (w64 (x0_1.time*x0_3.scale))) then some (decide ((w64 (x0_0.time*x0_2.scale)) < (w64 (x0_1.time*x0_3.scale))))
   else if (x0_0.track != x0_1.track) then some (decide (x0_0.track < x0_1.track)) else some (decide (p1 < p2))):f b i j=some (earl b i j):=by
 obtain ⟨a1,a2,_⟩ :=h.pk hi
 obtain ⟨b1,b2,_⟩ :=h.pk hj
 obtain ⟨x2,r2,e2,_⟩ :=rd_tr b1.1 b1.2
 obtain ⟨x3,r3,e3,_⟩ :=rd_tr a1.1 a1.2
 have s2:=h.sc b1.1 b1.2
 have s3:=h.sc a1.1 a1.2
 rw [hf,rd_pk hi]
 simp only [Option.bind_some]
 rw [rd_pk hj]
 simp only [Option.bind_some]
 rw [r2]
 simp only [Option.bind_some]
 rw [r3]
 simp only [Option.bind_some]
 rw [e2,e3]
 have m1:=mul_bound a2.1 a2.2 (y:=scAt b (pkAt b j).track) (by omega) s2.2
 have m2:=mul_bound b2.1 b2.2 (y:=scAt b (pkAt b i).track) (by omega) s3.2
 rw [w64_id (by omega) (by omega),w64_id (by omega) (by omega)]
 exact ord_bne _ _ _ _ i j
theorem spec_good (b:Zd) (hb:SmB b):m_Sc b=some (goodOk b):=by
 simp only [m_Sc,m_Sc_0]
 rw [spec_right b hb]
 simp only [Option.bind_some]
 unfold goodOk
 cases hr:rightOk b with
 | false=>rfl
 | true=>
  have h:=right_facts hr
  have hnp:=h.np
  simp only [if_true,Bool.true_and]
  have:=loop_all (b:=lp_Sc_15 b) b.packets.length (fun i=>earl b (i - 1) i) 1 (fun i h1 h2=>by
   simp only [lp_Sc_15,m_Sc_15]
   rw [if_pos (by simp;omega),show w64 ((i:Int) - 1)=((i - 1:Nat):Int) by rw [w64_id (by omega) (by omega)];omega,
    earl_eq h (f:=m_Sf) (i:=i - 1) (j:=i) (by omega) h2 (fun _ _ _=>rfl)]
   simp only [Option.bind_some]
   rw [w64_succ (by omega)]
   cases earl b (i - 1) i <;> rfl) (fun i h1 h2=>by
   simp only [lp_Sc_15,m_Sc_15]
   rw [if_neg (by simp;omega)])
  rw [show ((1:Nat):Int)=1 from rfl] at this
  rw [this]
  cases (List.range' 1 (b.packets.length - 1)).all fun i=>earl b (i - 1) i <;> rfl
theorem impl_good (b:Zd) (hb:SmB b):m_Ic b=some (goodOk b):=by
 simp only [m_Ic,m_Ic_0]
 rw [impl_right b hb]
 simp only [Option.bind_some]
 unfold goodOk
 cases hr:rightOk b with
 | false=>rfl
 | true=>
  have h:=right_facts hr
  have hnp:=h.np
  simp only [if_true,Bool.true_and]
  have:=loop_all (b:=lp_Ic_15 b) b.packets.length (fun i=>earl b (i - 1) i) 1 (fun i h1 h2=>by
   simp only [lp_Ic_15,m_Ic_15]
   rw [if_pos (by simp;omega),show w64 ((i:Int) - 1)=((i - 1:Nat):Int) by rw [w64_id (by omega) (by omega)];omega,
    earl_eq h (f:=m_Ig) (i:=i) (j:=i - 1) h2 (by omega) (fun _ _ _=>rfl)]
   simp only [Option.bind_some]
   rw [w64_succ (by omega),earl_anti b (i:=i - 1) (j:=i) (by omega)]
   cases earl b (i - 1) i <;> rfl) (fun i h1 h2=>by
   simp only [lp_Ic_15,m_Ic_15]
   rw [if_neg (by simp;omega)])
  rw [show ((1:Nat):Int)=1 from rfl] at this
  rw [this]
  cases (List.range' 1 (b.packets.length - 1)).all fun i=>earl b (i - 1) i <;> rfl
end Go.Proofs.V

namespace Go.Proofs.V
open Go
section
variable {d:List Int} (hd:d.length≤1048576) (hb:∀ x ∈ d,0≤x∧x≤255)
theorem datS_small:∀ (L:List Zc) (S:List Int) (st:Option Nat),∀ p ∈ (datS d L S st).1,p.data.length≤d.length
 | [],S,st,p,h=>by unfold datS at h;simp at h
 | _::_,[],st,p,h=>by unfold datS at h;simp at h
 | q::L,s::S,st,p,h=>by
  unfold datS at h
  rcases List.mem_cons.1 h with rfl | h
  ·exact takeS_len (d:=d) s st
  ·exact datS_small L S _ p h
theorem pieceS_small {f nt np:Nat} {by_ due:Int} {st:Option Nat} {v:Int} {L:List Zc} {y:Int} {b:Nat} (h:pieceS d f nt np by_ due st=some (v,L,y,b)):∀ p ∈ L,p.data.length≤d.length:=by
 unfold pieceS at h
 split at h
 ·unfold restS at h
  split at h
  ·simp at h
  ·split at h
   ·split at h
    ·simp at h
    ·split at h
     ·simp at h
     ·simp at h
      obtain ⟨_,rfl,_⟩ :=h
      exact datS_small _ _ _
   ·simp at h
 ·simp at h
theorem runS_small (nt:Nat):∀ (k a due:Nat) (y:Int) (P:List Zc) (ix:List Za),(∀ p ∈ P,p.data.length≤d.length)→∀ p ∈ (runS d nt k a due y P ix).2.2.1,p.data.length≤d.length
 | 0,a,due,y,P,ix,h=>h
 | k+1,a,due,y,P,ix,h=>by
  unfold runS
  split
  ·cases hq:pieceS d a nt P.length y due (some (a+8)) with
   | none=>exact h
   | some r=>
    obtain ⟨v,L,y2,b⟩ :=r
    dsimp only
    refine runS_small nt k b (due+1) y2 (P++L) _ fun p hp=>?_
    rcases List.mem_append.1 hp with hp | hp
    ·exact h p hp
    ·exact pieceS_small hq p hp
  ·exact h
def e1S (d:List Int) (a:Nat):=numS d (some a)
def e2S (d:List Int) (a:Nat):=numS d (e1S d a).2
def e3S (d:List Int) (a:Nat):=numS d (e2S d a).2
def entV (d:List Int) (a:Nat):Za:=⟨(e1S d a).1,(e2S d a).1,(e3S d a).1⟩
def entS (d:List Int):Nat→Nat→List Za→Option (List Za×Nat)
 | 0,a,l=>some (l,a)
 | k+1,a,l=>match (e3S d a).2 with | some b=>entS d k b (l++[entV d a]) | none=>none
def lastOk (d:List Int) (b:Nat) (ix:List Za) (good:Bool):Bool:=match (numS d (some (b+8))).2 with
 | none=>false
 | some c=>if (numS d (some (b+8))).1≤400 then (match entS d (numS d (some (b+8))).1.toNat c [] with
  | none=>false
  | some (l,c2)=>match sumS d b (numS d (some c2)).2 with
   | none=>false
   | some c3=>decide (l=ix∧(numS d (some c2)).1=b∧c3=d.length)&&good) else false
theorem entS_len:∀ (k a:Nat) (l l2:List Za) (b:Nat),entS d k a l=some (l2,b)→l2.length=l.length+k∧a≤b
 | 0,a,l,l2,b,h=>by unfold entS at h;simp at h;obtain ⟨rfl,rfl⟩ :=h;simp
 | k+1,a,l,l2,b,h=>by
  unfold entS at h
  cases hq:(e3S d a).2 with
  | none=>rw [hq] at h;simp at h
  | some c=>
   rw [hq] at h
   obtain ⟨h1,h2⟩ :=entS_len k c _ l2 b h
   obtain ⟨x2,w2,v2,_⟩ :=numS_lt hq
   obtain ⟨x1,w1,v1,_⟩ :=numS_lt w2
   obtain ⟨x0,w0,v0,_⟩ :=numS_lt w1
   simp at w0
   simp at h1
   omega
theorem entry_eq (x y:Za):((x.track == y.track)&&((x.time == y.time)&&((x.at_ == y.at_)&&true)))=decide (x=y):=by
 obtain ⟨a,b,c⟩ :=x
 obtain ⟨a',b',c'⟩ :=y
 rw [Bool.eq_iff_iff]
 simp
include hd hb
theorem spec_ent_step (f:Int) (x:Int×Ze) (m:Nat) (hx:x.1=m) (hm:m≤400) (i:Nat) (hi:i < m) (a:Nat) (ha:a≤d.length) (l:List Za) (hl:l.length=i) (du byr:Int) (T:List Zb) (P:List Zc) (ix:List Za) (hix:ix.length≤400) :
  ∃ at' e',lp_Sl_37 f x (decide (m=ix.length∧l=ix.take i),(i:Int),d,(a:Int),0,du,byr,T,P,ix)=some (.inl (decide (m=ix.length∧l++[entV d a]=ix.take (i+1)),((i+1:Nat):Int),d,at',e',du,byr,T,P,ix))∧RdS d (e3S d a).2 at' e':=by
 dsimp only [lp_Sl_37,m_Sl_37]
 have h0:RdS d (some a) a 0:=⟨rfl,rfl,ha⟩
 rw [if_pos (by rw [hx];simp;omega),if_pos (by simp)]
 obtain ⟨a1,e1,h1,g1⟩ :=sp_number hd hb h0 (Zd.mk T P) du byr ix
 rw [h1]
 simp only [Option.bind_some]
 obtain ⟨a2,e2,h2,g2⟩ :=sp_number hd hb g1 (Zd.mk T P) du byr ix
 rw [h2]
 simp only [Option.bind_some]
 obtain ⟨a3,e3,h3,g3⟩ :=sp_number hd hb g2 (Zd.mk T P) du byr ix
 rw [h3]
 simp only [Option.bind_some]
 refine ⟨a3,e3,?_,g3⟩
 rw [w64_succ (by omega)]
 by_cases k:m=ix.length∧l=ix.take i
 ·rw [decide_eq_true k]
  have hii:i < ix.length:=by omega
  rw [if_pos rfl,if_pos (by simp;omega),rd_eq hii]
  simp only [Option.bind_some]
  have h4:=entry_eq ix[i] (entV d a)
  have h5:decide (m=ix.length∧l++[entV d a]=ix.take (i+1))=decide (ix[i]=entV d a):=by
   rw [Bool.eq_iff_iff]
   simp only [decide_eq_true_eq]
   rw [List.take_succ_eq_append_getElem hii,k.2]
   constructor
   ·rintro ⟨_,hh⟩
    have:=List.append_cancel_left hh
    simpa using this.symm
   ·intro hh
    exact ⟨k.1,by rw [hh]⟩
  rw [h5,←h4]
  rfl
 ·rw [decide_eq_false k,if_neg (by simp)]
  have h5:decide (m=ix.length∧l++[entV d a]=ix.take (i+1))=false:=by
   refine decide_eq_false fun hh=>k ⟨hh.1,?_⟩
   have h6:i < ix.length:=by omega
   rw [List.take_succ_eq_append_getElem h6] at hh
   exact (List.append_inj hh.2 (by simp;omega)).1
  rw [h5]
theorem spec_ents (f:Int) (x:Int×Ze) (m:Nat) (hx:x.1=m) (hm:m≤400) (du byr:Int) (T:List Zb) (P:List Zc) (ix:List Za) (hix:ix.length≤400):∀ (k i a:Nat) (l:List Za),i+k=m→a≤d.length→l.length=i→
  ∃ sm at' e',loopM (lp_Sl_37 f x) (decide (m=ix.length∧l=ix.take i),(i:Int),d,(a:Int),0,du,byr,T,P,ix)=some (sm,d,at',e',du,byr,T,P,ix)∧(match entS d k a l with | some (l2,b)=>sm=decide (l2=ix)∧RdS d (some b) at' e' | none=>e'≠0):=by
 intro k
 induction k with
 | zero=>
  intro i a l hi ha hl
  refine ⟨decide (m=ix.length∧l=ix.take i),a,0,loop_end ?_,?_,rfl,rfl,ha⟩
  ·dsimp only [lp_Sl_37,m_Sl_37]
   rw [if_neg (by rw [hx];simp;omega)]
  ·rw [Bool.eq_iff_iff]
   simp only [decide_eq_true_eq]
   constructor
   ·rintro ⟨h1,h2⟩
    rw [h2,List.take_of_length_le (by omega)]
   ·rintro rfl
    exact ⟨by omega,by rw [List.take_of_length_le (by omega)]⟩
 | succ k ih=>
  intro i a l hi ha hl
  obtain ⟨a1,e1,h1,g1⟩ :=spec_ent_step hd hb f x m hx hm i (by omega) a ha l hl du byr T P ix hix
  rw [loop_step h1]
  unfold entS
  cases hq:(e3S d a).2 with
  | none=>
   rw [hq] at g1
   have g1' : e1≠0:=g1
   refine ⟨decide (m=ix.length∧l++[entV d a]=ix.take (i+1)),a1,e1,loop_end ?_,g1'⟩
   dsimp only [lp_Sl_37,m_Sl_37]
   rw [if_neg (show ¬ ((e1 == 0)=true) by simpa using g1'),ite_self]
  | some b=>
   rw [hq] at g1
   obtain ⟨rfl,rfl,hb'⟩ :=g1
   exact ih (i+1) b _ (by omega) hb' (by simp;omega)
omit hd hb in
theorem last73_bad (at_ e du byr:Int) (T:List Zb) (P:List Zc) (ix:List Za) (he:e≠0):m_Sl_65 d at_ e du byr T P ix=some (Ze.mk d at_ e (Zd.mk T P) du byr ix):=by
 dsimp only [m_Sl_65]
 rw [if_neg (by simpa using he)]
 dsimp only [m_Sl_68]
 rw [if_neg (by simp)]
 dsimp only [m_Sl_71]
 rw [if_neg (by simpa using he)]
 dsimp only [m_Sl_73]
 rw [if_neg (by simp)]
theorem last55 (b:Nat) (sm:Bool) (st:Option Nat) (hst:∀ a,st=some a→b≤a) (at_ e du byr:Int) (h:RdS d st at_ e) (T:List Zb) (P:List Zc) (hB:SmB (Zd.mk T P)) (ix:List Za) :
  ∃ at' e',m_Sl_55 (b:Int) sm d at_ e du byr T P ix=some (Ze.mk d at' e' (Zd.mk T P) du byr ix)∧((e' = 0)↔(match sumS d b (numS d st).2 with | none=>False | some c3=>sm=true∧(numS d st).1=b∧c3=d.length∧goodOk (Zd.mk T P)=true)):=by
 dsimp only [m_Sl_55]
 obtain ⟨a1,e1,h1,g1⟩ :=sp_number hd hb h (Zd.mk T P) du byr ix
 rw [h1]
 simp only [Option.bind_some]
 obtain ⟨a2,e2,h2,g2⟩ :=sp_sum hd hb g1 b (fun c hc=>by
  obtain ⟨x,w,v,_⟩ :=numS_lt hc
  have:=hst x w
  omega) (Zd.mk T P) du byr ix
 rw [h2]
 simp only [Option.bind_some]
 rw [RdS_e g2]
 cases hq:sumS d b (numS d st).2 with
 | none=>
  rw [hq] at g2
  simp only [Option.isSome_none,Bool.false_eq_true,if_false]
  dsimp only [m_Sl_62]
  rw [if_neg (by simp),last73_bad _ _ _ _ _ _ _ g2]
  exact ⟨_,_,rfl,by simpa using (show e2≠0 from g2)⟩
 | some c3=>
  rw [hq] at g2
  simp only [Option.isSome_some,if_true]
  have e62:(if sm=true then m_Sl_62 (Ze.mk d a2 e2 (Zd.mk T P) du byr ix) ((numS d st).1 != (b:Int)) else m_Sl_62 (Ze.mk d a2 e2 (Zd.mk T P) du byr ix) true)=m_Sl_62 (Ze.mk d a2 e2 (Zd.mk T P) du byr ix) (!decide (sm=true∧(numS d st).1=b)):=by
   cases sm with
   | true=>
    rw [if_pos rfl]
    congr 1
    by_cases k:(numS d st).1=b
    ·simp [k]
    ·simp [k]
   | false=>simp
  rw [e62]
  dsimp only [m_Sl_62]
  by_cases k:sm=true∧(numS d st).1=b
  ·rw [if_neg (by rw [decide_eq_true k];simp)]
   obtain ⟨rfl,rfl,hc3⟩ :=g2
   dsimp only [m_Sl_65]
   rw [if_pos (by simp)]
   dsimp only [m_Sl_68]
   by_cases k2:c3=d.length
   ·rw [if_neg (by simp;omega)]
    dsimp only [m_Sl_71]
    rw [if_pos (by simp),spec_good _ hB]
    simp only [Option.bind_some]
    dsimp only [m_Sl_73]
    cases hg:goodOk (Zd.mk T P) with
    | true=>
     rw [if_neg (by simp)]
     exact ⟨_,_,rfl,by simp [k,k2]⟩
    | false=>
     rw [if_pos (show (!false)=true from rfl)]
     refine ⟨(c3:Int),6,rfl,by simp⟩
   ·rw [if_pos (by simp;omega)]
    obtain ⟨a5,e5,h5,g5⟩ :=sp_fail (d:=d) (st:=some c3) (at_:=(c3:Int)) (e:=0) ⟨rfl,rfl,hc3⟩ 8 (by decide) (Zd.mk T P) du byr ix
    have g5' : e5≠0:=g5
    rw [h5]
    simp only [Option.bind_some]
    dsimp only [m_Sl_71]
    rw [if_neg (by simpa using g5')]
    dsimp only [m_Sl_73]
    rw [if_neg (by simp)]
    exact ⟨_,_,rfl,⟨fun h=>absurd h g5',fun h=>absurd h.2.2.1 k2⟩⟩
  ·obtain ⟨a5,e5,h5,g5⟩ :=sp_fail g2 5 (by decide) (Zd.mk T P) du byr ix
   have g5' : e5≠0:=g5
   rw [if_pos (by rw [decide_eq_false k];rfl),h5]
   simp only [Option.bind_some]
   rw [last73_bad _ _ _ _ _ _ _ g5]
   exact ⟨_,_,rfl,⟨fun h=>absurd h g5',fun h=>absurd ⟨h.1,h.2.1⟩ k⟩⟩
theorem spec_last_bad (at_ e du byr:Int) (B:Zd) (ix:List Za) (he:e≠0):m_Sl (Ze.mk d at_ e B du byr ix)=some (Ze.mk d at_ e B du byr ix):=by
 dsimp only [m_Sl,m_Sl_0]
 rw [if_neg (by simpa using he)]
 dsimp only [m_Sl_3]
 rw [if_neg (by simp)]
 dsimp only [m_Sl_6]
 rw [if_neg (by simpa using he)]
 dsimp only [m_Sl_9]
 rw [if_neg (by simp)]
 dsimp only [m_Sl_12]
 rw [if_pos (by simpa using he)]
theorem spec_last12_bad (at_ e du byr:Int) (T:List Zb) (P:List Zc) (ix:List Za) (he:e≠0):m_Sl_12 d at_ e du byr T P ix=some (Ze.mk d at_ e (Zd.mk T P) du byr ix):=by
 dsimp only [m_Sl_12]
 rw [if_pos (by simpa using he)]
theorem spec_last (b:Nat) (hb8:b≤d.length) (du byr:Int) (T:List Zb) (P:List Zc) (hB:SmB (Zd.mk T P)) (ix:List Za) (hix:ix.length≤400) :
  ∃ at' e',m_Sl (Ze.mk d b 0 (Zd.mk T P) du byr ix)=some (Ze.mk d at' e' (Zd.mk T P) du byr ix)∧((e' = 0)↔(isM d b iMark=true∧lastOk d b ix (goodOk (Zd.mk T P))=true)):=by
 dsimp only [m_Sl,m_Sl_0]
 rw [if_pos (by simp),w64_id (x:=(d.length:Int) - b) (by omega) (by omega)]
 dsimp only [m_Sl_3]
 have badx:∀ (at_ e:Int),e≠0→m_Sl_6 d at_ e du byr T P ix=some (Ze.mk d at_ e (Zd.mk T P) du byr ix):=by
  intro at_ e he
  dsimp only [m_Sl_6]
  rw [if_neg (by simpa using he)]
  dsimp only [m_Sl_9]
  rw [if_neg (by simp),spec_last12_bad hd hb _ _ _ _ _ _ _ he]
 by_cases h8:b+8≤d.length
 ·rw [if_neg (by simp;omega)]
  dsimp only [m_Sl_6]
  rw [if_pos (by simp)]
  show ∃ at' e',(some iMark).bind _=_∧_
  simp only [Option.bind_some]
  rw [spec_mark hd b iMark rfl hb8]
  simp only [Option.bind_some]
  dsimp only [m_Sl_9]
  cases hm:isM d b iMark with
  | false=>
   obtain ⟨a5,e5,h5,g5⟩ :=sp_fail (d:=d) (st:=some b) (at_:=(b:Int)) (e:=0) ⟨rfl,rfl,hb8⟩ 4 (by decide) (Zd.mk T P) du byr ix
   have g5' : e5≠0:=g5
   rw [if_pos (show (!false)=true from rfl),h5]
   simp only [Option.bind_some]
   rw [spec_last12_bad hd hb _ _ _ _ _ _ _ g5]
   exact ⟨_,_,rfl,by simpa using g5'⟩
  | true=>
   rw [if_neg (by simp)]
   dsimp only [m_Sl_12]
   rw [if_neg (by simp),w64_id (x:=(b:Int)+8) (by omega) (by omega)]
   obtain ⟨a1,e1,h1,g1⟩ :=sp_number hd hb (st:=some (b+8)) (at_:=(b:Int)+8) (e:=0) ⟨rfl,by simp,h8⟩ (Zd.mk T P) du byr ix
   rw [h1]
   simp only [Option.bind_some]
   rw [RdS_e g1]
   have hr:=numS_rng d (some (b+8))
   have hlt:∀ c,(numS d (some (b+8))).2=some c→b+8 < c:=fun c hc=>by
    obtain ⟨x,w,v,_⟩ :=numS_lt hc
    simp at w
    omega
   have bad30:∀ (x:Int×Ze) (at_ e:Int),e≠0→∃ at' e',m_Sl_30 (b:Int) x d at_ e du byr T P ix=some (Ze.mk d at' e' (Zd.mk T P) du byr ix)∧e'≠0:=by
    intro x at_ e he
    dsimp only [m_Sl_30]
    rw [loop_end (e:=(x.1 == (ix.length:Int),d,at_,e,du,byr,T,P,ix)) (by
     dsimp only [lp_Sl_37,m_Sl_37]
     rw [if_neg (show ¬ ((e == 0)=true) by simpa using he),ite_self])]
    simp only [Option.bind_some]
    obtain ⟨a7,e7,h7,g7⟩ :=last55 hd hb b (x.1 == (ix.length:Int)) none (by simp) at_ e du byr he T P hB ix
    rw [numS_none,sumS_none] at g7
    exact ⟨_,_,h7,fun hh=>g7.1 hh⟩
   unfold lastOk
   revert g1 hr hlt
   generalize hqq:numS d (some (b+8))=q
   obtain ⟨m,st⟩ :=q
   intro g1 hr hlt
   dsimp only at g1 hr hlt ⊢
   cases st with
   | none=>
    simp only [Option.isSome_none,Bool.false_eq_true,if_false]
    dsimp only [m_Sl_27]
    rw [if_neg (by simp)]
    obtain ⟨a7,e7,h7,g7⟩ :=bad30 (m,Ze.mk d a1 e1 (Zd.mk T P) du byr ix) a1 e1 g1
    exact ⟨_,_,h7,by simpa using g7⟩
   | some c=>
    simp only [Option.isSome_some,if_true]
    dsimp only [m_Sl_27]
    by_cases k:m≤400
    ·rw [if_neg (by simpa using k),if_pos k]
     obtain ⟨n,rfl⟩:∃ n:Nat,m=n:=⟨m.toNat,by omega⟩
     obtain ⟨rfl,rfl,hc⟩ :=g1
     dsimp only [m_Sl_30]
     have hsm:(((n:Int)) == (ix.length:Int))=decide (n=ix.length∧([]:List Za)=ix.take 0):=by
      rw [Bool.eq_iff_iff];simp;omega
     rw [hsm]
     obtain ⟨sm,a2,e2,h2,g2⟩ :=spec_ents hd hb (b:Int) ((n:Int),Ze.mk d c 0 (Zd.mk T P) du byr ix) n rfl (by omega) du byr T P ix hix n 0 c [] (by omega) hc rfl
     rw [show (((0:Nat):Int))=0 from rfl] at h2
     rw [h2]
     simp only [Option.bind_some]
     rw [Int.toNat_natCast]
     cases hz:entS d n c [] with
     | none=>
      rw [hz] at g2
      obtain ⟨a7,e7,h7,g7⟩ :=last55 hd hb b sm none (by simp) a2 e2 du byr g2 T P hB ix
      rw [numS_none,sumS_none] at g7
      exact ⟨_,_,h7,by simpa using g7⟩
     | some r=>
      obtain ⟨l2,c2⟩ :=r
      rw [hz] at g2
      obtain ⟨rfl,g2⟩ :=g2
      have hle:=entS_len _ _ _ _ _ hz
      have hbc:=hlt c rfl
      obtain ⟨a7,e7,h7,g7⟩ :=last55 hd hb b (decide (l2=ix)) (some c2) (fun a ha=>by simp at ha;omega) a2 e2 du byr g2 T P hB ix
      refine ⟨_,_,h7,?_⟩
      rw [g7]
      dsimp only
      cases sumS d b (numS d (some c2)).2 with
      | none=>simp
      | some c3=>
       simp only [decide_eq_true_eq,Bool.and_eq_true,true_and]
       constructor
       ·rintro ⟨x1,x2,x3,x4⟩;exact ⟨⟨x1,x2,x3⟩,x4⟩
       ·rintro ⟨⟨x1,x2,x3⟩,x4⟩;exact ⟨x1,x2,x3,x4⟩
    ·rw [if_pos (by simpa using k)]
     obtain ⟨a5,e5,h5,g5⟩ :=sp_fail g1 5 (by decide) (Zd.mk T P) du byr ix
     rw [h5,if_neg k]
     simp only [Option.bind_some]
     obtain ⟨a7,e7,h7,g7⟩ :=bad30 (m,Ze.mk d a1 e1 (Zd.mk T P) du byr ix) a5 e5 g5
     exact ⟨_,_,h7,by simpa using g7⟩
 ·rw [if_pos (by simp;omega)]
  obtain ⟨a5,e5,h5,g5⟩ :=sp_fail (d:=d) (st:=some b) (at_:=(b:Int)) (e:=0) ⟨rfl,rfl,hb8⟩ 2 (by decide) (Zd.mk T P) du byr ix
  have g5' : e5≠0:=g5
  rw [h5]
  simp only [Option.bind_some]
  rw [badx _ _ g5]
  refine ⟨_,_,rfl,?_⟩
  have:isM d b iMark=false:=by unfold isM;simp [h8]
  rw [this]
  simpa using g5'
end
end Go.Proofs.V

namespace Go.Proofs.V
open Go
theorem RdS_iff {d:List Int} {st:Option Nat} {at_ e:Int} (h:RdS d st at_ e):e=0↔st.isSome=true:=by
 rw [←RdS_e h];simp
section
variable {d:List Int} (hd:d.length≤1048576) (hb:∀ x ∈ d,0≤x∧x≤255)
include hd hb
theorem impl_ent_step (f:Int) (x:Int×Zg) (x0:Zd×List Za×Zg) (m:Nat) (hx:x.1=m) (hm:m≤400) (i:Nat) (hi:i < m) (a:Nat) (ha:a≤d.length) (l:List Za) (hl:l.length=i) :
  ∃ at' e',lp_Ie_23 d f x x0 ((i:Int),d,(a:Int),0,l)=some (.inl (((i+1:Nat):Int),d,at',e',l++[entV d a]))∧RdS d (e3S d a).2 at' e':=by
 dsimp only [lp_Ie_23,m_Ie_23]
 have h0:RdS d (some a) a 0:=⟨rfl,rfl,ha⟩
 rw [if_pos (by rw [hx];simp;omega),if_pos (by simp)]
 obtain ⟨a1,e1,h1,g1⟩ :=im_number hd hb h0
 rw [h1]
 simp only [Option.bind_some]
 obtain ⟨a2,e2,h2,g2⟩ :=im_number hd hb g1
 rw [h2]
 simp only [Option.bind_some]
 obtain ⟨a3,e3,h3,g3⟩ :=im_number hd hb g2
 rw [h3]
 simp only [Option.bind_some]
 rw [ck_eq (by simp;omega)]
 simp only [Option.bind_some]
 refine ⟨a3,e3,?_,g3⟩
 rw [w64_succ (by omega)]
 rfl
theorem impl_ents (f:Int) (x:Int×Zg) (x0:Zd×List Za×Zg) (m:Nat) (hx:x.1=m) (hm:m≤400):∀ (k i a:Nat) (l:List Za),i+k=m→a≤d.length→l.length=i→
  ∃ at' e' l',loopM (lp_Ie_23 d f x x0) ((i:Int),d,(a:Int),0,l)=some (d,at',e',l')∧l'.length≤400∧(match entS d k a l with | some (l2,b)=>l' = l2∧RdS d (some b) at' e' | none=>e'≠0):=by
 intro k
 induction k with
 | zero=>
  intro i a l hi ha hl
  refine ⟨a,0,l,loop_end ?_,by omega,rfl,rfl,rfl,ha⟩
  dsimp only [lp_Ie_23,m_Ie_23]
  rw [if_neg (by rw [hx];simp;omega)]
 | succ k ih=>
  intro i a l hi ha hl
  obtain ⟨a1,e1,h1,g1⟩ :=impl_ent_step hd hb f x x0 m hx hm i (by omega) a ha l hl
  rw [loop_step h1]
  unfold entS
  cases hq:(e3S d a).2 with
  | none=>
   rw [hq] at g1
   have g1' : e1≠0:=g1
   refine ⟨a1,e1,l++[entV d a],loop_end ?_,by simp;omega,g1'⟩
   dsimp only [lp_Ie_23,m_Ie_23]
   rw [if_neg (show ¬ ((e1 == 0)=true) by simpa using g1'),ite_self]
  | some b=>
   rw [hq] at g1
   obtain ⟨rfl,rfl,hb'⟩ :=g1
   exact ih (i+1) b _ (by omega) hb' (by simp;omega)
omit hd hb in
theorem cmp_loop (x1:Zg) (x0:Zd×List Za×Zg) (l:List Za) (hl:l.length≤400) (b0:Bool) (hb0:b0=true→l.length=x0.2.1.length):loopM (lp_Ie_44 d x1 x0 l) (b0,0)=some (b0&&decide (l=x0.2.1)):=by
 cases b0 with
 | false=>exact loop_end rfl
 | true=>
  have hlen:=hb0 rfl
  have key:∀ (k i:Nat),i+k=l.length→loopM (lp_Ie_44 d x1 x0 l) (decide (l.take i=x0.2.1.take i),(i:Int))=some (decide (l=x0.2.1)):=by
   intro k
   induction k with
   | zero=>
    intro i hi
    have e1:l.take i=l:=List.take_of_length_le (by omega)
    have e2:x0.2.1.take i=x0.2.1:=List.take_of_length_le (by omega)
    rw [e1,e2]
    refine loop_end ?_
    dsimp only [lp_Ie_44,m_Ie_44]
    rw [if_neg (show ¬ (decide ((i:Int) < (l.length:Int))=true) by simp;omega),ite_self]
   | succ k ih=>
    intro i hi
    have hil:i < l.length:=by omega
    have hix:i < x0.2.1.length:=by omega
    by_cases h:l.take i=x0.2.1.take i
    ·refine (loop_step (s':=(decide (l.take (i+1)=x0.2.1.take (i+1)),((i+1:Nat):Int))) ?_).trans (ih (i+1) (by omega))
     dsimp only [lp_Ie_44,m_Ie_44]
     rw [decide_eq_true h,if_pos rfl,if_pos (by simpa using hil),rd_eq hil]
     simp only [Option.bind_some]
     rw [rd_eq hix]
     simp only [Option.bind_some]
     rw [w64_succ (by omega),entry_eq]
     have:decide (l[i]=x0.2.1[i])=decide (l.take (i+1)=x0.2.1.take (i+1)):=by
      rw [Bool.eq_iff_iff]
      simp only [decide_eq_true_eq]
      rw [List.take_succ_eq_append_getElem hil,List.take_succ_eq_append_getElem hix,h]
      constructor
      ·intro hh;rw [hh]
      ·intro hh
       have:=List.append_cancel_left hh
       simpa using this
     rw [this]
    ·rw [decide_eq_false h]
     have:decide (l=x0.2.1)=false:=decide_eq_false fun hh=>h (by rw [hh])
     rw [this]
     exact loop_end rfl
  have:=key l.length 0 (by omega)
  simpa using this
theorem rb33 (i16:Int) (x0:Zd×List Za×Zg) (hB:SmB x0.1) (l:List Za) (hl:l.length≤400) (st:Option Nat) (at_ e:Int) (h:RdS d st at_ e) (hst:∀ a,st=some a→i16.toNat≤a) :
  ∃ r,m_Ie_33 d i16 x0 d at_ e l=some r∧(r.err=0↔(match sumS d i16.toNat (numS d st).2 with | none=>False | some c3=>l=x0.2.1∧(numS d st).1=i16∧c3=d.length∧goodOk x0.1=true)):=by
 dsimp only [m_Ie_33]
 obtain ⟨a1,e1,h1,g1⟩ :=im_number hd hb h
 rw [h1]
 simp only [Option.bind_some]
 obtain ⟨a2,e2,h2,g2⟩ :=im_sum hd hb g1 i16.toNat (fun c hc=>by
  obtain ⟨x,w,v,_⟩ :=numS_lt hc
  have:=hst x w
  omega)
 have hmx:mxI i16 0=(i16.toNat:Int):=by unfold mxI;split <;> omega
 rw [hmx,h2]
 simp only [Option.bind_some]
 have e39:(if ((l.length:Int) == (x0.2.1.length:Int))=true then m_Ie_39 d (Zg.mk d a2 e2) x0 l ((numS d st).1 == i16) else m_Ie_39 d (Zg.mk d a2 e2) x0 l false)=m_Ie_54 d (Zg.mk d a2 e2) x0 (decide (l=x0.2.1∧(numS d st).1=i16)):=by
  have c1:∀ b0,(b0=true→l.length=x0.2.1.length)→m_Ie_39 d (Zg.mk d a2 e2) x0 l b0=m_Ie_54 d (Zg.mk d a2 e2) x0 (b0&&decide (l=x0.2.1)):=by
   intro b0 hb0
   dsimp only [m_Ie_39]
   rw [cmp_loop (Zg.mk d a2 e2) x0 l hl b0 hb0]
   rfl
  by_cases k:l.length=x0.2.1.length
  ·rw [if_pos (by simp;omega),c1 _ (fun _=>k)]
   congr 1
   rw [Bool.eq_iff_iff]
   simp [and_comm]
  ·rw [if_neg (by simp;omega),c1 _ (by simp)]
   congr 1
   rw [Bool.false_and]
   exact (decide_eq_false fun hh=>k (by rw [hh.1])).symm
 rw [e39]
 have k60:∀ (s:Option Nat) (at_ e:Int),RdS d s at_ e→∃ r,m_Ie_60 d x0 d at_ e=some r∧(r.err=0↔(match s with | none=>False | some c3=>c3=d.length∧goodOk x0.1=true)):=by
  intro s at_ e hs
  have k66:∀ (s:Option Nat) (at_ e:Int),RdS d s at_ e→∃ r,m_Ie_66 x0 d at_ e=some r∧(r.err=0↔(s.isSome=true∧goodOk x0.1=true)):=by
   intro s at_ e hs
   have k72:∀ (at_ e:Int),∃ r,m_Ie_72 x0 d at_ e=some r∧r.err=e:=by
    intro at_ e
    dsimp only [m_Ie_72]
    by_cases he:e=0
    ·subst he
     rw [if_neg (by simp)]
     exact ⟨_,rfl,rfl⟩
    ·rw [if_pos (by simpa using he)]
     exact ⟨_,rfl,rfl⟩
   dsimp only [m_Ie_66]
   rw [impl_good _ hB]
   simp only [Option.bind_some]
   cases goodOk x0.1 with
   | true=>
    rw [if_pos rfl]
    obtain ⟨r,h5,g5⟩ :=k72 at_ e
    exact ⟨r,h5,by rw [g5,RdS_iff hs];simp⟩
   | false=>
    obtain ⟨a5,e5,h5,g5⟩ :=im_fail hs 6 (by decide)
    rw [if_neg (by simp),h5]
    simp only [Option.bind_some]
    obtain ⟨r,h6,g6⟩ :=k72 a5 e5
    exact ⟨r,h6,by rw [g6,RdS_iff g5];simp⟩
  dsimp only [m_Ie_60]
  cases s with
  | none=>
   by_cases k:at_ < (d.length:Int)
   ·obtain ⟨a5,e5,h5,g5⟩ :=im_fail hs 8 (by decide)
    rw [if_pos (by simpa using k),h5]
    simp only [Option.bind_some]
    obtain ⟨r,h6,g6⟩ :=k66 _ _ _ g5
    exact ⟨r,h6,by rw [g6];simp⟩
   ·rw [if_neg (by simpa using k)]
    obtain ⟨r,h6,g6⟩ :=k66 _ _ _ hs
    exact ⟨r,h6,by rw [g6];simp⟩
  | some c3=>
   obtain ⟨rfl,rfl,hc⟩ :=hs
   by_cases k:c3=d.length
   ·rw [if_neg (by simp;omega)]
    obtain ⟨r,h6,g6⟩ :=k66 (some c3) c3 0 ⟨rfl,rfl,hc⟩
    exact ⟨r,h6,by rw [g6];simp [k]⟩
   ·obtain ⟨a5,e5,h5,g5⟩ :=im_fail (d:=d) (st:=some c3) (at_:=(c3:Int)) (e:=0) ⟨rfl,rfl,hc⟩ 8 (by decide)
    rw [if_pos (by simp;omega),h5]
    simp only [Option.bind_some]
    obtain ⟨r,h6,g6⟩ :=k66 _ _ _ g5
    exact ⟨r,h6,by rw [g6];simp [k]⟩
 dsimp only [m_Ie_54]
 by_cases k:l=x0.2.1∧(numS d st).1=i16
 ·rw [decide_eq_true k,if_pos rfl]
  obtain ⟨r,h6,g6⟩ :=k60 _ _ _ g2
  refine ⟨r,h6,?_⟩
  rw [g6]
  cases sumS d i16.toNat (numS d st).2 with
  | none=>exact Iff.rfl
  | some c3=>exact ⟨fun hh=>⟨k.1,k.2,hh⟩,fun hh=>hh.2.2⟩
 ·obtain ⟨a5,e5,h5,g5⟩ :=im_fail g2 5 (by decide)
  rw [decide_eq_false k,if_neg (by simp),h5]
  simp only [Option.bind_some]
  obtain ⟨r,h6,g6⟩ :=k60 _ _ _ g5
  refine ⟨r,h6,?_⟩
  rw [g6]
  cases sumS d i16.toNat (numS d st).2 with
  | none=>exact Iff.rfl
  | some c3=>exact ⟨fun hh=>hh.elim,fun hh=>k ⟨hh.1,hh.2.1⟩⟩
theorem rb_bad (x0:Zd×List Za×Zg) (hB:SmB x0.1) (at_ e:Int) (he:e≠0) (hx:x0.2.2=Zg.mk d at_ e) (hbody:m_Ij (Zg.mk d 0 0)=some x0):∃ r,m_Ie d=some r∧r.err≠0:=by
 dsimp only [m_Ie,m_Ie_0]
 rw [hbody]
 simp only [Option.bind_some]
 rw [hx]
 obtain ⟨a1,e1,h1,g1⟩ :=im_number hd hb (show RdS d none at_ e from he)
 rw [h1]
 simp only [Option.bind_some,numS_none]
 rw [if_neg (by simp)]
 dsimp only [m_Ie_16]
 rw [numS_none] at g1
 rw [loop_end (e:=(d,a1,e1,[])) (by
  dsimp only [lp_Ie_23,m_Ie_23]
  rw [if_neg (by simp)])]
 simp only [Option.bind_some]
 obtain ⟨r,h5,g5⟩ :=rb33 hd hb (w64 (at_ - 8)) x0 hB [] (by simp) none a1 e1 g1 (by simp)
 rw [numS_none,sumS_none] at g5
 exact ⟨r,h5,fun hh=>g5.1 hh⟩
theorem rb_good (x0:Zd×List Za×Zg) (hB:SmB x0.1) (b:Nat) (hb8:b+8≤d.length) (hx:x0.2.2=Zg.mk d ((b+8:Nat):Int) 0) (hbody:m_Ij (Zg.mk d 0 0)=some x0):∃ r,m_Ie d=some r∧(r.err=0↔lastOk d b x0.2.1 (goodOk x0.1)=true):=by
 dsimp only [m_Ie,m_Ie_0]
 rw [hbody]
 simp only [Option.bind_some]
 rw [hx]
 have hw:w64 (((b+8:Nat):Int) - 8)=b:=by rw [w64_id (by omega) (by omega)];omega
 dsimp only
 rw [hw]
 obtain ⟨a1,e1,h1,g1⟩ :=im_number hd hb (st:=some (b+8)) (at_:=((b+8:Nat):Int)) (e:=0) ⟨rfl,rfl,hb8⟩
 rw [h1]
 simp only [Option.bind_some]
 have hr:=numS_rng d (some (b+8))
 have hlt:∀ c,(numS d (some (b+8))).2=some c→b+8 < c:=fun c hc=>by
  obtain ⟨x,w,v,_⟩ :=numS_lt hc
  simp at w
  omega
 have bad16:∀ (x:Int×Zg) (at_ e:Int),e≠0→∃ r,m_Ie_16 d x x0 (b:Int) d at_ e=some r∧r.err≠0:=by
  intro x at_ e he
  dsimp only [m_Ie_16]
  rw [loop_end (e:=(d,at_,e,[])) (by
   dsimp only [lp_Ie_23,m_Ie_23]
   rw [if_neg (show ¬ ((e == 0)=true) by simpa using he),ite_self])]
  simp only [Option.bind_some]
  obtain ⟨r,h5,g5⟩ :=rb33 hd hb (b:Int) x0 hB [] (by simp) none at_ e he (by simp)
  rw [numS_none,sumS_none] at g5
  exact ⟨r,h5,fun hh=>g5.1 hh⟩
 unfold lastOk
 revert g1 hr hlt
 generalize hqq:numS d (some (b+8))=q
 obtain ⟨m,st⟩ :=q
 intro g1 hr hlt
 dsimp only at g1 hr hlt ⊢
 by_cases k:m≤400
 ·rw [if_neg (by simpa using k)]
  cases st with
  | none=>
   obtain ⟨r,h5,g5⟩ :=bad16 (m,Zg.mk d a1 e1) a1 e1 g1
   exact ⟨r,h5,by simpa using g5⟩
  | some c=>
   obtain ⟨n,rfl⟩:∃ n:Nat,m=n:=⟨m.toNat,by omega⟩
   obtain ⟨rfl,rfl,hc⟩ :=g1
   dsimp only [m_Ie_16]
   obtain ⟨a2,e2,l',h2,hl',g2⟩ :=impl_ents hd hb (b:Int) ((n:Int),Zg.mk d c 0) x0 n rfl (by omega) n 0 c [] (by omega) hc rfl
   rw [show (((0:Nat):Int))=0 from rfl] at h2
   rw [h2]
   simp only [Option.bind_some]
   rw [if_pos k,Int.toNat_natCast]
   cases hz:entS d n c [] with
   | none=>
    rw [hz] at g2
    obtain ⟨r,h5,g5⟩ :=rb33 hd hb (b:Int) x0 hB l' hl' none a2 e2 g2 (by simp)
    rw [numS_none,sumS_none] at g5
    exact ⟨r,h5,by simpa using g5⟩
   | some rr=>
    obtain ⟨l2,c2⟩ :=rr
    rw [hz] at g2
    obtain ⟨rfl,g2⟩ :=g2
    have hle:=entS_len _ _ _ _ _ hz
    have hbc:=hlt c rfl
    obtain ⟨r,h5,g5⟩ :=rb33 hd hb (b:Int) x0 hB l' hl' (some c2) a2 e2 g2 (fun a ha=>by simp at ha;simp;omega)
    refine ⟨r,h5,?_⟩
    rw [g5,Int.toNat_natCast]
    dsimp only
    cases sumS d b (numS d (some c2)).2 with
    | none=>simp
    | some c3=>
     simp only [decide_eq_true_eq,Bool.and_eq_true]
     constructor
     ·rintro ⟨x1,x2,x3,x4⟩;exact ⟨⟨x1,x2,x3⟩,x4⟩
     ·rintro ⟨⟨x1,x2,x3⟩,x4⟩;exact ⟨x1,x2,x3,x4⟩
 ·obtain ⟨a5,e5,h5,g5⟩ :=im_fail g1 5 (by decide)
  rw [if_pos (by simpa using k),h5]
  simp only [Option.bind_some]
  obtain ⟨r,h6,g6⟩ :=bad16 (m,Zg.mk d a1 e1) a5 e5 g5
  refine ⟨r,h6,?_⟩
  cases st with
  | none=>simpa using g6
  | some c=>dsimp only;rw [if_neg k];simpa using g6
end
theorem core_ReadIndex (d:List Int) (hb:∀ x ∈ d,0≤x∧x≤255) (hd:d.length≤1048576):∃ w:List Za,m_Sd d=some w∧m_If d=some w∧w.length≤1048576:=by
 have implBad:(∃ r,m_Ie d=some r∧r.err≠0)→m_If d=some []:=by
  rintro ⟨r,h1,h2⟩
  dsimp only [m_If,m_If_0]
  rw [h1]
  simp only [Option.bind_some]
  rw [if_pos (by simpa using h2)]
 have specBad:(∃ r,m_Ss d=some r∧r.err≠0)→m_Sd d=some []:=by
  rintro ⟨r,h1,h2⟩
  dsimp only [m_Sd,m_Sd_0]
  rw [h1]
  simp only [Option.bind_some]
  rw [if_pos (by simpa using h2)]
 have bodyBad:∀ (T:List Zb) (at_ e:Int),SmT T→e≠0→m_In (Zg.mk d 0 0)=some (T,Zg.mk d at_ e)→m_If d=some []:=by
  intro T at_ e hT he h
  refine implBad (rb_bad hd hb (Zd.mk T [],[],Zg.mk d at_ e) ⟨hT,by simp,by simp⟩ at_ e he rfl ?_)
  dsimp only [m_Ij,m_Ij_0]
  rw [h]
  simp only [Option.bind_some]
  rw [loop_end (e:=.inl (d,at_,e,[],[])) (by
   dsimp only [lp_Ij_13,m_Ij_13]
   rw [if_neg (show ¬ ((e == 0)=true) by simpa using he)])]
  rfl
 by_cases hl:d.length≤120000
 ·obtain ⟨a1,e1,T1,h1,g1⟩ :=spec_head hd hb 0 0 [] []
  obtain ⟨T2,a2,e2,h2,hT2,g2⟩ :=impl_head hd hb hl
  have hread:m_Ss d=(m_Sp (Ze.mk d a1 e1 (Zd.mk T1 []) 0 0 [])).bind fun x=>(m_Sl x).bind fun y=>some y:=by
   dsimp only [m_Ss,m_Ss_0]
   rw [if_neg (by simp;omega),h1]
   rfl
  cases hq:headS d with
  | none=>
   rw [hq] at g1 g2
   refine ⟨[],specBad ?_,bodyBad T2 a2 e2 hT2 g2 h2,by simp⟩
   rw [hread]
   have:m_Sp (Ze.mk d a1 e1 (Zd.mk T1 []) 0 0 [])=some (Ze.mk d a1 e1 (Zd.mk T1 []) 0 0 []):=by
    dsimp only [m_Sp,m_Sp_0]
    have g1' : e1≠0:=g1
    rw [loop_end (e:=Ze.mk d a1 e1 (Zd.mk T1 []) 0 0 []) (by
     dsimp only [lp_Sp_2,m_Sp_2]
     rw [if_neg (show ¬ ((e1 == 0)=true) by simpa using g1')])]
    rfl
   rw [this]
   simp only [Option.bind_some]
   rw [spec_last_bad hd hb a1 e1 0 0 _ [] g1]
   exact ⟨_,rfl,g1⟩
  | some r=>
   obtain ⟨T,a⟩ :=r
   rw [hq] at g1 g2
   obtain ⟨rfl,rfl,rfl,ha⟩ :=g1
   obtain ⟨rfl,rfl,rfl,_⟩ :=g2
   obtain ⟨r3,h3,g3⟩ :=spec_pieces hd hb T2.length T2 rfl (d.length+1) a 0 0 [] [] (by omega) ha (by omega) (by omega) (by simp) (by simp)
   obtain ⟨r4,h4,g4⟩ :=impl_pieces hd hb T2.length (T2,Zg.mk d a 0) rfl (d.length+1) a 0 0 [] [] (by omega) ha (by omega) (by omega) (by simp) (by simp)
   have hsm:=runS_small (d:=d) T2.length (d.length+1) a 0 0 [] [] (by simp)
   have hpieces:m_Sp (Ze.mk d a 0 (Zd.mk T2 []) 0 0 [])=some r3:=by
    dsimp only [m_Sp,m_Sp_0]
    rw [show (((0:Nat):Int))=0 from rfl] at h3
    rw [h3];rfl
   rw [hpieces] at hread
   simp only [Option.bind_some] at hread
   revert g3 g4 hsm
   dsimp only
   generalize runS d T2.length (d.length+1) a 0 0 [] []=q
   obtain ⟨ok,b,P',ix'⟩ :=q
   dsimp only
   rintro ⟨s1,s2,s3,s4,s5,s6⟩ g4 hsm
   have hB:SmB (Zd.mk T2 P'):=⟨hT2,by show P'.length≤1048576;omega,fun p hp=>by have:=hsm p hp;omega⟩
   have hbody:∀ r,r4 = .inr r→m_Ij (Zg.mk d 0 0)=some r:=by
    intro r hr
    dsimp only [m_Ij,m_Ij_0]
    rw [h2]
    simp only [Option.bind_some]
    rw [show (60000:Int) - 0=60000 from rfl,show (((0:Nat):Int))=0 from rfl] at h4
    rw [h4,hr]
    rfl
   have hbody2:∀ at_ e,r4 = .inl (d,at_,e,ix',P')→m_Ij (Zg.mk d 0 0)=some (Zd.mk T2 P',ix',Zg.mk d at_ e):=by
    intro at_ e hr
    dsimp only [m_Ij,m_Ij_0]
    rw [h2]
    simp only [Option.bind_some]
    rw [show (60000:Int) - 0=60000 from rfl,show (((0:Nat):Int))=0 from rfl] at h4
    rw [h4,hr]
    rfl
   obtain ⟨rd,rat,rerr,rbox,rdue,rby,rix⟩ :=r3
   dsimp only at s1 s2 s3 s6
   subst s1;subst s2;subst s3
   by_cases hok:ok=true
   ·rw [if_pos hok] at s6
    obtain ⟨rfl,rfl,hbl,_⟩ :=s6
    obtain ⟨a5,e5,h5,g5⟩ :=spec_last hd hb b hbl rdue rby T2 P' hB rix s4
    rw [h5] at hread
    simp only [Option.bind_some] at hread
    by_cases hi:isM rd b iMark=true
    ·rw [if_pos ⟨hok,hi⟩] at g4
     have hb8:b+8≤rd.length:=(of_decide_eq_true hi).1
     have hbd:=hbody _ g4
     obtain ⟨r6,h6,g6⟩ :=rb_good hd hb _ hB b hb8 rfl hbd
     dsimp only at g6
     by_cases hlast:lastOk rd b rix (goodOk (Zd.mk T2 P'))=true
     ·refine ⟨rix,?_,?_,by omega⟩
      ·dsimp only [m_Sd,m_Sd_0]
       rw [hread]
       simp only [Option.bind_some]
       rw [if_neg (by simpa using g5.2 ⟨hi,hlast⟩)]
      ·dsimp only [m_If,m_If_0]
       rw [h6]
       simp only [Option.bind_some]
       rw [if_neg (by simpa using g6.2 hlast)]
       dsimp only [m_Id,m_Id_0]
       rw [hbd]
       rfl
     ·exact ⟨[],specBad ⟨_,hread,fun hh=>hlast (g5.1 hh).2⟩,implBad ⟨r6,h6,fun hh=>hlast (g6.1 hh)⟩,by simp⟩
    ·rw [if_neg (fun hh=>hi hh.2)] at g4
     obtain ⟨a7,e7,h7,h8⟩ :=g4
     exact ⟨[],specBad ⟨_,hread,fun hh=>hi (g5.1 hh).1⟩,implBad (rb_bad hd hb _ hB a7 e7 h7 rfl (hbody2 _ _ h8)),by simp⟩
   ·rw [if_neg hok] at s6
    rw [if_neg (fun hh=>hok hh.1)] at g4
    obtain ⟨a7,e7,h7,h8⟩ :=g4
    rw [spec_last_bad hd hb _ _ _ _ _ _ s6] at hread
    exact ⟨[],specBad ⟨_,hread,s6⟩,implBad (rb_bad hd hb _ hB a7 e7 h7 rfl (hbody2 _ _ h8)),by simp⟩
 ·refine ⟨[],specBad ?_,bodyBad [] 0 1 ⟨by simp,by simp⟩ (by decide) ?_,by simp⟩
  ·dsimp only [m_Ss,m_Ss_0]
   rw [if_pos (by simp;omega)]
   exact ⟨_,rfl,by show (1:Int)≠0;decide⟩
  ·dsimp only [m_In,m_In_0]
   rw [if_pos (by simp;omega)]
   rfl
end Go.Proofs.V

namespace Go.Proofs.V
open Go
theorem to_ByteS (x:(List Int)) (hx:x.length≤1048576):m_Lg x=some x:=by
 have hl:x.length≤1048576:=hx
 simp only [m_Lg,m_Lg_0,m_Lg_19]
 rw [ck_eq (by omega)]
 simp only [Option.bind_some]
 suffices key:∀ z,loopM (lp_Lg_9 x) (0,List.replicate (Int.toNat (x.length:Int)) z)=some x by
  rw [key]
  rfl
 intro z
 refine to_list (l:=x) (fun i out hi ho=>?_) (fun out=>?_) z
 ·simp only [lp_Lg_9,m_Lg_9]
  rw [if_pos (by simp <;> omega),rd_eq hi]
  simp only [Option.bind_some]
  rw [rd_eq (by omega)]
  simp only [Option.bind_some]
  rw [w64_succ (by omega)]
 ·simp only [lp_Lg_9,m_Lg_9]
  rw [if_neg (by simp)]
theorem eq_Entry (x:Za):m_Lb x x=some true:=by
 simp only [m_Lb,m_Lb_0]
 rw [if_neg (by simp)]
 rw [if_neg (by simp)]
 rw [if_neg (by simp)]
theorem eq_EntryS (x:(List Za)) (hx:x.length≤1048576):m_Lc x x=some true:=by
 have hl:x.length≤1048576:=hx
 simp only [m_Lc,m_Lc_0,m_Lc_31]
 rw [if_neg (by simp)]
 suffices key:loopM (lp_Lc_15 x x) 0=some (.inr ()) by
  rw [key]
  rfl
 refine eq_list (n:=x.length) (fun i hi=>?_) ?_
 ·simp only [lp_Lc_15,m_Lc_15]
  rw [if_pos (by simp <;> omega),rd_eq hi]
  simp only [Option.bind_some]
  rw [eq_Entry x[i]]
  simp only [Option.bind_some,if_true]
  rw [w64_succ (by omega)]
 ·simp only [lp_Lc_15,m_Lc_15]
  rw [if_neg (by simp)]
theorem eq_ByteS (x:(List Int)) (hx:x.length≤1048576):m_La x x=some true:=by
 have hl:x.length≤1048576:=hx
 simp only [m_La,m_La_0,m_La_31]
 rw [if_neg (by simp)]
 suffices key:loopM (lp_La_15 x x) 0=some (.inr ()) by
  rw [key]
  rfl
 refine eq_list (n:=x.length) (fun i hi=>?_) ?_
 ·simp only [lp_La_15,m_La_15]
  rw [if_pos (by simp <;> omega),rd_eq hi]
  simp only [Option.bind_some]
  rw [if_neg (by simp),w64_succ (by omega)]
 ·simp only [lp_La_15,m_La_15]
  rw [if_neg (by simp)]
theorem mark_ByteS (x:(List Int)) (k:Nat) (hx:x.length≤1048576) (hk:k+1048576≤4611686018427387904):∃ (x' : (List Int)) (k' : Nat),m_Le x k=some ((k' : Int),x')∧x'.length=x.length∧k≤k'∧k'≤k+1048576:=by
 have hl:x.length≤1048576:=hx
 have hlc:x.length*1≤1048576:=by omega
 have key:=mark_list0 (Sm:=fun y=>True) 1 (b:=lp_Le_7) (fun l i k hi hl hk hs=>?_) (fun l k=>?_) x k hl (by omega) (fun _ _=>trivial)
 ·obtain ⟨l1,k1,e1,e2,e3,e4⟩ :=key
  refine ⟨l1,k1,?_,e2,e3,by omega⟩
  ·simp only [m_Le,m_Le_0]
   rw [e1]
   rfl
 ·refine ⟨(wr .u8 (k:Int)),k+1,?_,by omega,by omega⟩
  ·simp only [lp_Le_7,m_Le_7]
   rw [if_pos (by simp <;> omega),rd_eq hi]
   simp only [Option.bind_some]
   rw [w64_succ (by omega),w64_succ (by omega)]
   simp
 ·simp only [lp_Le_7,m_Le_7]
  rw [if_neg (by simp)]
theorem mark_EntryS (x:(List Za)) (k:Nat) (hx:x.length≤1048576) (hk:k+3145728≤4611686018427387904):∃ (x' : (List Za)) (k' : Nat),m_Lf x k=some ((k' : Int),x')∧x'.length=x.length∧k≤k'∧k'≤k+3145728∧m_Ld x' k=some (k' : Int):=by
 have hl:x.length≤1048576:=hx
 have hlc:x.length*3≤3145728:=by omega
 have key:=mark_list (Sm:=fun y=>True) 3 (b:=lp_Lf_7) (bh:=lp_Ld_7) (fun l i k hi hl hk hs=>?_) (fun l k=>?_) (fun l k=>?_) x k hl (by omega) (fun _ _=>trivial)
 ·obtain ⟨l1,k1,e1,e2,e3,e4,e5⟩ :=key
  refine ⟨l1,k1,?_,e2,e3,by omega,?_⟩
  ·simp only [m_Lf,m_Lf_0]
   rw [e1]
   rfl
  ·simp only [m_Ld,m_Ld_0]
   rw [e5]
   rfl
 ·skip
  refine ⟨⟨(k:Int),((k+1:Nat):Int),((k+1+1:Nat):Int)⟩,k+1+1+1,?_,by omega,by omega,fun l' h' hl' hx'=>?_⟩
  ·simp only [lp_Lf_7,m_Lf_7]
   rw [if_pos (by simp <;> omega),rd_eq hi]
   simp only [Option.bind_some]
   simp (disch:=omega) only [w64_succ]
   simp
  ·simp only [lp_Ld_7,m_Ld_7]
   rw [if_pos (by simp <;> omega),rd_eq h',hx']
   simp only [Option.bind_some]
   simp (disch:=omega) only [w64_succ]
   rw [if_neg (by simp)]
   rw [if_neg (by simp)]
   rw [if_neg (by simp)]
 ·simp only [lp_Lf_7,m_Lf_7]
  rw [if_neg (by simp)]
 ·simp only [lp_Ld_7,m_Ld_7]
  rw [if_neg (by simp)]
theorem plain_FnExactReadIndex (p0:(List Int)) (hp0:(p0.length≤maxLen∧∀ y0 ∈ p0,inK .u8 y0)) (core:(p0.length≤1048576)→∃ w:(List Za),m_Sd p0=some w∧m_If p0=some w∧w.length≤1048576):m_laws_FnExactReadIndex p0=some true:=by
 simp only [m_laws_FnExactReadIndex,m_laws_FnExactReadIndex_0,decide_eq_true_eq]
 by_cases hl:(p0.length:Int) > 1048576
 ·rw [if_pos hl]
 rw [if_neg hl]
 have sm_p0:p0.length≤1048576:=by omega
 rw [to_ByteS p0 sm_p0]
 simp only [Option.bind_some]
 obtain ⟨w,hsp,him,sm0⟩ :=core sm_p0
 rw [hsp]
 simp only [Option.bind_some]
 rw [him]
 simp only [Option.bind_some]
 rw [eq_EntryS w sm0]
 simp only [Option.bind_some,if_true]
 rw [eq_ByteS p0 sm_p0]
 simp only [Option.bind_some,if_true]
 obtain ⟨y1,k1,a1,b1,c1x,d1⟩ :=mark_ByteS p0 1 sm_p0 (by omega)
 replace a1:m_Le p0 1=_:=a1
 rw [a1]
 simp only [Option.bind_some]
 rw [ck_eq (by first | assumption | rfl)]
 simp only [Option.bind_some]
 rw [if_neg (by simp <;> omega)]
 obtain ⟨y2,k2,a2,b2,c2x,d2,f2⟩ :=mark_EntryS w 1 sm0 (by omega)
 replace a2:m_Lf w 1=_:=a2
 rw [a2]
 simp only [Option.bind_some]
 replace f2:m_Ld _ 1=_:=f2
 rw [ck_eq (by first | assumption | rfl)]
 simp only [Option.bind_some]
 rw [f2]
 simp only [Option.bind_some]
 rw [if_neg (by simp <;> omega)]
 rw [if_neg (by simp)]
end Go.Proofs.V

namespace Go.Proofs.V
open Go
theorem final_FnExactReadIndex (x0:List Int) (w0:(x0.length≤maxLen∧∀ y0 ∈ x0,inK .u8 y0)):m_laws_FnExactReadIndex x0=some true:=
 plain_FnExactReadIndex x0 w0 fun h=>core_ReadIndex x0 (fun x hx=>(w0.2 x hx)) h
end Go.Proofs.V
