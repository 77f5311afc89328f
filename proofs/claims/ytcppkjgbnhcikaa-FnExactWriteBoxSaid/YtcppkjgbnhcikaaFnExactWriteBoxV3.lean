import Derived.Test.YtcppkjgbnhcikaaFnExactWriteBoxV2
import Derived.Test.YtcppkjgbnhcikaaProg
import Derived.KernelRfl
set_option linter.unusedVariables false
set_option maxRecDepth 100000
namespace Go.Proofs.V
open Go
abbrev LI:=List Int
structure Za where
 kind:Int
 scale:Int
 name:ByteArray
 deriving DecidableEq,Inhabited
abbrev LZ:=List Za
structure Zb where
 track:Int
 time:Int
 span:Int
 key:Bool
 data:LI
 deriving DecidableEq,Inhabited
abbrev LZa:=List Zb
structure Zc where
 tracks:LZ
 packets:LZa
 deriving DecidableEq,Inhabited
structure Zd where
 track:Int
 time:Int
 at_:Int
 deriving DecidableEq,Inhabited
abbrev LZb:=List Zd
def rZa (x:Za):List T:=[.lit (.int .i64 x.kind),.lit (.int .i64 x.scale),.lit (.string x.name)]
def rZb (x:Zb):List T:=[.lit (.int .i64 x.track),.lit (.int .i64 x.time),.lit (.int .i64 x.span),.lit (.bool x.key),.sl (x.data.map (rI .u8))]
def rZd (x:Zd):List T:=[.lit (.int .i64 x.track),.lit (.int .i64 x.time),.lit (.int .i64 x.at_)]
noncomputable section
def m_Lq_0 (p0:Za) (p1:Int):Option (Int):=
 if (decide ((w64 (p1 - (p0.name.size:Int))) < 0)) then
  some (-1)
 else
  some (w64 (p1 - (p0.name.size:Int)))
def m_Lq (p0:Za) (p1:Int):Option (Int):=m_Lq_0 p0 p1
def m_Lr_35 (a:Int):Option (Int):=
 some a
def m_Lr_17 (p0:LZ) (b a:Int):Option ((Int×Int)⊕((Int)⊕((Int)))):=
 if (decide (a < (p0.length:Int))) then
  (rd p0 a).bind fun d=>
  (m_Lq d b).bind fun c=>
  if (decide (c < 0)) then
   some (.inr (.inl (-1)))
  else
   some (.inl (c,(w64 (a+1))))
 else
  some (.inr (.inr b))
def lp_Lr_17 (p0:LZ) (s:Int×Int):Option ((Int×Int)⊕((Int)⊕((Int)))):=m_Lr_17 p0 s.1 s.2
def m_Lr_0 (p0:LZ) (p1:Int):Option (Int):=
 if (decide ((w64 (p1 - (p0.length:Int))) < 0)) then
  some (-1)
 else
  (loopM (lp_Lr_17 p0) ((w64 (p1 - (p0.length:Int))),0)).bind fun e=>match e with | .inl e=>some e | .inr e=>m_Lr_35 e
def m_Lr (p0:LZ) (p1:Int):Option (Int):=m_Lr_0 p0 p1
def m_Ln_0 (p0:LI) (p1:Int):Option (Int):=
 if (decide ((w64 (p1 - (p0.length:Int))) < 0)) then
  some (-1)
 else
  some (w64 (p1 - (p0.length:Int)))
def m_Ln (p0:LI) (p1:Int):Option (Int):=m_Ln_0 p0 p1
def m_Lo_0 (p0:Zb) (p1:Int):Option (Int):=
 (m_Ln p0.data p1).bind fun a=>
 if (decide (a < 0)) then
  some (-1)
 else
  some a
def m_Lo (p0:Zb) (p1:Int):Option (Int):=m_Lo_0 p0 p1
def m_Lp_35 (a:Int):Option (Int):=
 some a
def m_Lp_17 (p0:LZa) (b a:Int):Option ((Int×Int)⊕((Int)⊕((Int)))):=
 if (decide (a < (p0.length:Int))) then
  (rd p0 a).bind fun d=>
  (m_Lo d b).bind fun c=>
  if (decide (c < 0)) then
   some (.inr (.inl (-1)))
  else
   some (.inl (c,(w64 (a+1))))
 else
  some (.inr (.inr b))
def lp_Lp_17 (p0:LZa) (s:Int×Int):Option ((Int×Int)⊕((Int)⊕((Int)))):=m_Lp_17 p0 s.1 s.2
def m_Lp_0 (p0:LZa) (p1:Int):Option (Int):=
 if (decide ((w64 (p1 - (p0.length:Int))) < 0)) then
  some (-1)
 else
  (loopM (lp_Lp_17 p0) ((w64 (p1 - (p0.length:Int))),0)).bind fun e=>match e with | .inl e=>some e | .inr e=>m_Lp_35 e
def m_Lp (p0:LZa) (p1:Int):Option (Int):=m_Lp_0 p0 p1
def m_Lm_0 (p0:Zc) (p1:Int):Option (Int):=
 (m_Lr p0.tracks p1).bind fun a=>
 if (decide (a < 0)) then
  some (-1)
 else
  (m_Lp p0.packets a).bind fun b=>
  if (decide (b < 0)) then
   some (-1)
  else
   some b
def m_Lm (p0:Zc) (p1:Int):Option (Int):=m_Lm_0 p0 p1
def m_Lw_0 (p0:Za):Option (Za):=
 some p0
def m_Lw (p0:Za):Option (Za):=m_Lw_0 p0
def m_Lx_19 (a:LZ):Option (LZ):=
 some a
def m_Lx_9 (p0:LZ) (a:Int) (b:LZ):Option ((Int×LZ)⊕((LZ))):=
 if (decide (a < (p0.length:Int))) then
  (rd p0 a).bind fun c=>
  (m_Lw c).bind fun d=>
  (rd b a).bind fun _=>
  some (.inl ((w64 (a+1)),(b.set (0+Int.toNat a) d)))
 else
  some (.inr b)
def lp_Lx_9 (p0:LZ) (s:Int×LZ):Option ((Int×LZ)⊕((LZ))):=m_Lx_9 p0 s.1 s.2
def m_Lx_0 (p0:LZ):Option (LZ):=
 (ck (decide ((0:Int)≤(p0.length:Int)∧(p0.length:Int)≤(4398046511104:Int)))).bind fun _=>
 (loopM (lp_Lx_9 p0) (0,(List.replicate (Int.toNat (p0.length:Int)) ((Za.mk 0 0 (ByteArray.mk #[])):Za)))).bind fun e=>m_Lx_19 e
def m_Lx (p0:LZ):Option (LZ):=m_Lx_0 p0
def m_Lt_19 (a:LI):Option (LI):=
 some a
def m_Lt_9 (p0:LI) (a:Int) (b:LI):Option ((Int×LI)⊕((LI))):=
 if (decide (a < (p0.length:Int))) then
  (rd p0 a).bind fun c=>
  (rd b a).bind fun _=>
  some (.inl ((w64 (a+1)),(b.set (0+Int.toNat a) c)))
 else
  some (.inr b)
def lp_Lt_9 (p0:LI) (s:Int×LI):Option ((Int×LI)⊕((LI))):=m_Lt_9 p0 s.1 s.2
def m_Lt_0 (p0:LI):Option (LI):=
 (ck (decide ((0:Int)≤(p0.length:Int)∧(p0.length:Int)≤(140737488355328:Int)))).bind fun _=>
 (loopM (lp_Lt_9 p0) (0,(List.replicate (Int.toNat (p0.length:Int)) (0:Int)))).bind fun e=>m_Lt_19 e
def m_Lt (p0:LI):Option (LI):=m_Lt_0 p0
def m_Lu_0 (p0:Zb):Option (Zb):=
 (m_Lt p0.data).bind fun a=>
 some (Zb.mk p0.track p0.time p0.span p0.key a)
def m_Lu (p0:Zb):Option (Zb):=m_Lu_0 p0
def m_Lv_19 (a:LZa):Option (LZa):=
 some a
def m_Lv_9 (p0:LZa) (a:Int) (b:LZa):Option ((Int×LZa)⊕((LZa))):=
 if (decide (a < (p0.length:Int))) then
  (rd p0 a).bind fun c=>
  (m_Lu c).bind fun d=>
  (rd b a).bind fun _=>
  some (.inl ((w64 (a+1)),(b.set (0+Int.toNat a) d)))
 else
  some (.inr b)
def lp_Lv_9 (p0:LZa) (s:Int×LZa):Option ((Int×LZa)⊕((LZa))):=m_Lv_9 p0 s.1 s.2
def m_Lv_0 (p0:LZa):Option (LZa):=
 (ck (decide ((0:Int)≤(p0.length:Int)∧(p0.length:Int)≤(2513169434916:Int)))).bind fun _=>
 (loopM (lp_Lv_9 p0) (0,(List.replicate (Int.toNat (p0.length:Int)) ((Zb.mk 0 0 0 false []):Zb)))).bind fun e=>m_Lv_19 e
def m_Lv (p0:LZa):Option (LZa):=m_Lv_0 p0
def m_Ls_0 (p0:Zc):Option (Zc):=
 (m_Lx p0.tracks).bind fun a=>
 (m_Lv p0.packets).bind fun b=>
 some (Zc.mk a b)
def m_Ls (p0:Zc):Option (Zc):=m_Ls_0 p0
def m_Sf_23:Option (Bool):=
 some true
def m_Sf_7 (p0:ByteArray) (a:Int):Option ((Int)⊕((Bool)⊕((Unit)))):=
 if (decide (a < (p0.size:Int))) then
  (sat p0 a).bind fun b=>
  if (decide (b < 32)) then
   some (.inr (.inl false))
  else
   if (decide (b > 126)) then
    some (.inr (.inl false))
   else
    some (.inl (w64 (a+1)))
 else
  some (.inr (.inr ()))
def lp_Sf_7 (p0:ByteArray) (s:Int):Option ((Int)⊕((Bool)⊕((Unit)))):=m_Sf_7 p0 s
def m_Sf_0 (p0:ByteArray):Option (Bool):=
 (loopM (lp_Sf_7 p0) 0).bind fun e=>match e with | .inl e=>some e | .inr e=>m_Sf_23
def m_Sf (p0:ByteArray):Option (Bool):=m_Sf_0 p0
def m_Sp_0 (p0:Za):Option (Bool):=
 if (decide (p0.kind≥1)) then
  if (decide (p0.kind≤6)) then
   if (decide (p0.scale≥1)) then
    if (decide (p0.scale≤1000000)) then
     if (decide ((p0.name.size:Int)≤40)) then
      (m_Sf p0.name).bind fun a=>
      some a
     else
      some false
    else
     some false
   else
    some false
  else
   some false
 else
  some false
def m_Sp (p0:Za):Option (Bool):=m_Sp_0 p0
def m_Sq_25 (p0:LZ):Option (Bool):=
 if (decide ((p0.length:Int)≥1)) then
  some (decide ((p0.length:Int)≤8))
 else
  some false
def m_Sq_7 (p0:LZ) (a:Int):Option ((Int)⊕((Bool)⊕((Unit)))):=
 if (decide (a < (p0.length:Int))) then
  (rd p0 a).bind fun b=>
  (m_Sp b).bind fun c=>
  if c then
   some (.inl (w64 (a+1)))
  else
   some (.inr (.inl false))
 else
  some (.inr (.inr ()))
def lp_Sq_7 (p0:LZ) (s:Int):Option ((Int)⊕((Bool)⊕((Unit)))):=m_Sq_7 p0 s
def m_Sq_0 (p0:LZ):Option (Bool):=
 (loopM (lp_Sq_7 p0) 0).bind fun e=>match e with | .inl e=>some e | .inr e=>m_Sq_25 p0
def m_Sq (p0:LZ):Option (Bool):=m_Sq_0 p0
def m_So_0 (p0:Int):Option (Bool):=
 if (decide (p0≥0)) then
  some (decide (p0≤1000000000))
 else
  some false
def m_So (p0:Int):Option (Bool):=m_So_0 p0
def m_Sn_62 (b:Int) (p0:Zc) (d:Int) (a:Zb) (c:LI):Option ((Int×Int×LI)⊕((Bool)⊕((Unit)))):=
 (rd c a.track).bind fun _=>
 if (decide ((w64 (b+(a.data.length:Int))) > 60000)) then
  some (.inr (.inl false))
 else
  some (.inl ((w64 (b+(a.data.length:Int))),(w64 (d+1)),(c.set (0+Int.toNat a.track) a.time)))
def m_Sn_74:Option (Bool):=
 some true
def m_Sn_36 (p0:Zc) (d b:Int) (c:LI):Option ((Int×Int×LI)⊕((Bool)⊕((Unit)))):=
 if (decide (b < (p0.packets.length:Int))) then
  (rd p0.packets b).bind fun a=>
  if (decide (a.track < 0)) then
   some (.inr (.inl false))
  else
   if (decide (a.track≥(p0.tracks.length:Int))) then
    some (.inr (.inl false))
   else
    (m_So a.time).bind fun f=>
    if f then
     (m_So a.span).bind fun g=>
     if g then
      (rd c a.track).bind fun e=>
      if (decide (a.time < e)) then
       some (.inr (.inl false))
      else
       if (decide (e < 0)) then
        if a.key then
         m_Sn_62 d p0 b a c
        else
         some (.inr (.inl false))
       else
        m_Sn_62 d p0 b a c
     else
      some (.inr (.inl false))
    else
     some (.inr (.inl false))
 else
  some (.inr (.inr ()))
def lp_Sn_36 (p0:Zc) (s:Int×Int×LI):Option ((Int×Int×LI)⊕((Bool)⊕((Unit)))):=m_Sn_36 p0 s.1 s.2.1 s.2.2
def m_Sn_29 (p0:Zc) (a:LI):Option (Bool):=
 (loopM (lp_Sn_36 p0) (0,0,a)).bind fun e=>match e with | .inl e=>some e | .inr e=>m_Sn_74
def m_Sn_17 (p0:Zc) (c a:Int) (b:LI):Option ((Int×Int×LI)⊕((LI))):=
 if (decide (a < c)) then
  (rd b a).bind fun _=>
  some (.inl (c,(w64 (a+1)),(b.set (0+Int.toNat a) (-1))))
 else
  some (.inr b)
def lp_Sn_17 (p0:Zc) (s:Int×Int×LI):Option ((Int×Int×LI)⊕((LI))):=m_Sn_17 p0 s.1 s.2.1 s.2.2
def m_Sn_0 (p0:Zc):Option (Bool):=
 (m_Sq p0.tracks).bind fun a=>
 if a then
  if (decide ((p0.packets.length:Int) > 400)) then
   some false
  else
   (ck (decide ((0:Int)≤(p0.tracks.length:Int)∧(p0.tracks.length:Int)≤(17592186044416:Int)))).bind fun _=>
   (loopM (lp_Sn_17 p0) (((Int.toNat (p0.tracks.length:Int)):Int),0,(List.replicate (Int.toNat (p0.tracks.length:Int)) (0:Int)))).bind fun e=>m_Sn_29 p0 e
 else
  some false
def m_Sn (p0:Zc):Option (Bool):=m_Sn_0 p0
def m_Sg_0 (p0:Zc) (p1 p2:Int):Option (Bool):=
 (rd p0.packets p1).bind fun a=>
 (rd p0.packets p2).bind fun b=>
 (rd p0.tracks b.track).bind fun c=>
 (rd p0.tracks a.track).bind fun d=>
 if ((w64 (a.time*c.scale)) != (w64 (b.time*d.scale))) then
  some (decide ((w64 (a.time*c.scale)) < (w64 (b.time*d.scale))))
 else
  if (a.track != b.track) then
   some (decide (a.track < b.track))
  else
   some (decide (p1 < p2))
def m_Sg (p0:Zc) (p1 p2:Int):Option (Bool):=m_Sg_0 p0 p1 p2
def m_Sb_31:Option (Bool):=
 some true
def m_Sb_15 (p0:Zc) (a:Int):Option ((Int)⊕((Bool)⊕((Unit)))):=
 if (decide (a < (p0.packets.length:Int))) then
  (m_Sg p0 (w64 (a - 1)) a).bind fun b=>
  if b then
   some (.inl (w64 (a+1)))
  else
   some (.inr (.inl false))
 else
  some (.inr (.inr ()))
def lp_Sb_15 (p0:Zc) (s:Int):Option ((Int)⊕((Bool)⊕((Unit)))):=m_Sb_15 p0 s
def m_Sb_0 (p0:Zc):Option (Bool):=
 (m_Sn p0).bind fun a=>
 if a then
  (loopM (lp_Sb_15 p0) 1).bind fun e=>match e with | .inl e=>some e | .inr e=>m_Sb_31
 else
  some false
def m_Sb (p0:Zc):Option (Bool):=m_Sb_0 p0
def m_Sc_17 (a:Int) (b:LI):Option (LI):=
 (ck (decide (b.length+([(wr .u8 a)]:LI).length≤140737488355328))).bind fun _=>
 some (b++([(wr .u8 a)]:LI))
def m_Sc_7 (a:Int) (b:LI):Option ((Int×LI)⊕((Int×LI))):=
 if (decide (a≥128)) then
  (ck (decide (b.length+([(wr .u8 ((wr .u8 (Int.tmod a 128))+128))]:LI).length≤140737488355328))).bind fun _=>
  some (.inl ((wr .u64 (Int.tdiv a 128)),(b++([(wr .u8 ((wr .u8 (Int.tmod a 128))+128))]:LI))))
 else
  some (.inr (a,b))
def lp_Sc_7 (s:Int×LI):Option ((Int×LI)⊕((Int×LI))):=m_Sc_7 s.1 s.2
def m_Sc_0 (p0:Int):Option (LI):=
 (loopM (lp_Sc_7) (p0,([]:LI))).bind fun e=>m_Sc_17 e.1 e.2
def m_Sc (p0:Int):Option (LI):=m_Sc_0 p0
def m_Sm_19 (a:LI):Option (LI):=
 some a
def m_Sm_7 (p1:LI) (a:Int) (b:LI):Option ((Int×LI)⊕((LI))):=
 if (decide (a < (p1.length:Int))) then
  (rd p1 a).bind fun d=>
  (m_Sc (wr .u64 d)).bind fun c=>
  (ck (decide (b.length+c.length≤140737488355328))).bind fun _=>
  some (.inl ((w64 (a+1)),(b++c)))
 else
  some (.inr b)
def lp_Sm_7 (p1:LI) (s:Int×LI):Option ((Int×LI)⊕((LI))):=m_Sm_7 p1 s.1 s.2
def m_Sm_0 (p1 p0:LI):Option (LI):=
 (loopM (lp_Sm_7 p1) (0,p0)).bind fun e=>m_Sm_19 e
def m_Sm (p0 p1:LI):Option (LI):=m_Sm_0 p1 p0
def m_Sa_43 (p0:LI) (a b:Int):Option ((Int×Int)⊕((Int))):=
 some (.inl (b,(w64 (a+1))))
def m_Sa_25 (p0:LI) (c a b:Int):Option ((Int×Int)⊕((Int))):=
 if (decide (b < 8)) then
  if ((andI .u32 a 1) == 1) then
   some (.inl ((xorI .u32 (shrI .u32 a 1) 3988292384),(w64 (b+1))))
  else
   some (.inl ((shrI .u32 a 1),(w64 (b+1))))
 else
  some (.inr a)
def lp_Sa_25 (p0:LI) (a:Int) (s:Int×Int):Option ((Int×Int)⊕((Int))):=m_Sa_25 p0 a s.1 s.2
def m_Sa_44 (a:Int):Option (Int):=
 some (notI .u32 a)
def m_Sa_9 (p0:LI) (b a:Int):Option ((Int×Int)⊕((Int))):=
 if (decide (a < (p0.length:Int))) then
  (rd p0 a).bind fun c=>
  (loopM (lp_Sa_25 p0 a) ((xorI .u32 b (wr .u32 c)),0)).bind fun e=>m_Sa_43 p0 a e
 else
  some (.inr b)
def lp_Sa_9 (p0:LI) (s:Int×Int):Option ((Int×Int)⊕((Int))):=m_Sa_9 p0 s.1 s.2
def m_Sa_0 (p0:LI):Option (Int):=
 (loopM (lp_Sa_9 p0) (4294967295,0)).bind fun e=>m_Sa_44 e
def m_Sa (p0:LI):Option (Int):=m_Sa_0 p0
def m_Sr_0 (p0:Int):Option (LI):=
 some ([(wr .u8 (shrI .u32 p0 24)),(wr .u8 (shrI .u32 p0 16)),(wr .u8 (shrI .u32 p0 8)),(wr .u8 p0)]:LI)
def m_Sr (p0:Int):Option (LI):=m_Sr_0 p0
def m_Sh_27 (a:LI):Option (LI):=
 (m_Sa a).bind fun c=>
 (m_Sr c).bind fun b=>
 (ck (decide (a.length+b.length≤140737488355328))).bind fun _=>
 some (a++b)
def m_Sh_9 (p0:LZ) (b:Int) (c:LI):Option ((Int×LI)⊕((LI))):=
 if (decide (b < (p0.length:Int))) then
  (rd p0 b).bind fun a=>
  (ck (decide (c.length+([(wr .u8 a.kind)]:LI).length≤140737488355328))).bind fun _=>
  (m_Sm (c++([(wr .u8 a.kind)]:LI)) ([a.scale]:LI)).bind fun d=>
  (ck (decide (d.length+([(wr .u8 (a.name.size:Int))]:LI).length≤140737488355328))).bind fun _=>
  (ck (decide ((d++([(wr .u8 (a.name.size:Int))]:LI)).length+(bl a.name).length≤140737488355328))).bind fun _=>
  some (.inl ((w64 (b+1)),((d++([(wr .u8 (a.name.size:Int))]:LI))++(bl a.name))))
 else
  some (.inr c)
def lp_Sh_9 (p0:LZ) (s:Int×LI):Option ((Int×LI)⊕((LI))):=m_Sh_9 p0 s.1 s.2
def m_Sh_0 (p0:LZ):Option (LI):=
 (loopM (lp_Sh_9 p0) (0,([66,79,88,49,(wr .u8 (p0.length:Int))]:LI))).bind fun e=>m_Sh_27 e
def m_Sh (p0:LZ):Option (LI):=m_Sh_0 p0
def m_Sl_0:Option (LI):=
 some ([27,80,73,69,67,69,10,0]:LI)
def m_Sl:Option (LI):=m_Sl_0
def m_Se_0 (p0:Bool):Option (Int):=
 if p0 then
  some 1
 else
  some 0
def m_Se (p0:Bool):Option (Int):=m_Se_0 p0
def m_Sk_40 (a:LI):Option (LI):=
 (m_Sa a).bind fun c=>
 (m_Sr c).bind fun b=>
 (ck (decide (a.length+b.length≤140737488355328))).bind fun _=>
 some (a++b)
def m_Sk_28 (p1:LZa) (a:Int) (b:LI):Option ((Int×LI)⊕((LI))):=
 if (decide (a < (p1.length:Int))) then
  (rd p1 a).bind fun c=>
  (ck (decide (b.length+c.data.length≤140737488355328))).bind fun _=>
  some (.inl ((w64 (a+1)),(b++c.data)))
 else
  some (.inr b)
def lp_Sk_28 (p1:LZa) (s:Int×LI):Option ((Int×LI)⊕((LI))):=m_Sk_28 p1 s.1 s.2
def m_Sk_23 (p1:LZa) (a:LI):Option (LI):=
 (loopM (lp_Sk_28 p1) (0,a)).bind fun e=>m_Sk_40 e
def m_Sk_11 (p1:LZa) (b:Int) (c:LI):Option ((Int×LI)⊕((LI))):=
 if (decide (b < (p1.length:Int))) then
  (rd p1 b).bind fun a=>
  (m_Se a.key).bind fun d=>
  (m_Sm c ([a.track,a.time,a.span,d,(a.data.length:Int)]:LI)).bind fun e=>
  some (.inl ((w64 (b+1)),e))
 else
  some (.inr c)
def lp_Sk_11 (p1:LZa) (s:Int×LI):Option ((Int×LI)⊕((LI))):=m_Sk_11 p1 s.1 s.2
def m_Sk_0 (p0:Int) (p1:LZa):Option (LI):=
 (m_Sl).bind fun a=>
 (m_Sm a ([p0,(p1.length:Int)]:LI)).bind fun b=>
 (loopM (lp_Sk_11 p1) (0,b)).bind fun e=>m_Sk_23 p1 e
def m_Sk (p0:Int) (p1:LZa):Option (LI):=m_Sk_0 p0 p1
def m_Sj_0:Option (LI):=
 some ([27,73,78,68,69,88,10,0]:LI)
def m_Sj:Option (LI):=m_Sj_0
def m_Si_23 (p1:Int) (c:LI):Option (LI):=
 (m_Sm c ([p1]:LI)).bind fun a=>
 (m_Sa a).bind fun d=>
 (m_Sr d).bind fun b=>
 (ck (decide (a.length+b.length≤140737488355328))).bind fun _=>
 some (a++b)
def m_Si_11 (p1:Int) (p0:LZb) (a:Int) (c:LI):Option ((Int×LI)⊕((LI))):=
 if (decide (a < (p0.length:Int))) then
  (rd p0 a).bind fun b=>
  (m_Sm c ([b.track,b.time,b.at_]:LI)).bind fun d=>
  some (.inl ((w64 (a+1)),d))
 else
  some (.inr c)
def lp_Si_11 (p1:Int) (p0:LZb) (s:Int×LI):Option ((Int×LI)⊕((LI))):=m_Si_11 p1 p0 s.1 s.2
def m_Si_0 (p0:LZb) (p1:Int):Option (LI):=
 (m_Sj).bind fun a=>
 (m_Sm a ([(p0.length:Int)]:LI)).bind fun b=>
 (loopM (lp_Si_11 p1 p0) (0,b)).bind fun e=>m_Si_23 p1 e
def m_Si (p0:LZb) (p1:Int):Option (LI):=m_Si_0 p0 p1
def m_Sd_56 (p1 a b:Int) (p0:Zc) (c:LI) (e:LZb):Option ((Int×LI×LZb)⊕((LI×LZb))):=
 (ck (decide ((p1:Int)≠0))).bind fun _=>
 (ck (decide ((0:Int)≤b∧b≤(p0.packets.length:Int)))).bind fun _=>
 (ck (decide ((0:Int)≤a∧a≤((Int.toNat b):Int)))).bind fun _=>
 (m_Sk (w64 (Int.tdiv a p1)) ((p0.packets.take (Int.toNat b)).drop (Int.toNat a))).bind fun d=>
 (ck (decide (c.length+d.length≤140737488355328))).bind fun _=>
 some (.inl ((w64 (a+p1)),(c++d),e))
def m_Sd_40 (p1 g h:Int) (p0:Zc) (f:LI) (d:LZa) (e b:Int) (c:LZb):Option ((LZa×Int×Int×LZb)⊕((LZb))):=
 if (decide (b < e)) then
  (rd d b).bind fun a=>
  if a.key then
   (ck (decide (c.length+([(Zd.mk a.track a.time (f.length:Int))]:LZb).length≤5864062014805))).bind fun _=>
   some (.inl (d,e,(w64 (b+1)),(c++([(Zd.mk a.track a.time (f.length:Int))]:LZb))))
  else
   some (.inl (d,e,(w64 (b+1)),c))
 else
  some (.inr c)
def lp_Sd_40 (p1 a b:Int) (p0:Zc) (c:LI) (s:LZa×Int×Int×LZb):Option ((LZa×Int×Int×LZb)⊕((LZb))):=m_Sd_40 p1 a b p0 c s.1 s.2.1 s.2.2.1 s.2.2.2
def m_Sd_35 (p1 b:Int) (p0:Zc) (c:LI) (d:LZb) (a:Int):Option ((Int×LI×LZb)⊕((LI×LZb))):=
 (ck (decide ((0:Int)≤a∧a≤(p0.packets.length:Int)))).bind fun _=>
 (ck (decide ((0:Int)≤b∧b≤((Int.toNat a):Int)))).bind fun _=>
 (loopM (lp_Sd_40 p1 b a p0 c) (((p0.packets.take (Int.toNat a)).drop (Int.toNat b)),(((p0.packets.take (Int.toNat a)).drop (Int.toNat b)).length:Int),0,d)).bind fun e=>m_Sd_56 p1 b a p0 c e
def m_Sd_58 (a:LI) (c:LZb):Option (LI):=
 (m_Si c (a.length:Int)).bind fun b=>
 (ck (decide (a.length+b.length≤140737488355328))).bind fun _=>
 if (decide (((a++b).length:Int) > 120000)) then
  some ([]:LI)
 else
  some (a++b)
def m_Sd_19 (p1:Int) (p0:Zc) (a:Int) (b:LI) (c:LZb):Option ((Int×LI×LZb)⊕((LI×LZb))):=
 if (decide (a < (p0.packets.length:Int))) then
  if (decide ((w64 (a+p1)) > (p0.packets.length:Int))) then
   m_Sd_35 p1 a p0 b c (p0.packets.length:Int)
  else
   m_Sd_35 p1 a p0 b c (w64 (a+p1))
 else
  some (.inr (b,c))
def lp_Sd_19 (p1:Int) (p0:Zc) (s:Int×LI×LZb):Option ((Int×LI×LZb)⊕((LI×LZb))):=m_Sd_19 p1 p0 s.1 s.2.1 s.2.2
def m_Sd_0 (p0:Zc) (p1:Int):Option (LI):=
 (m_Sb p0).bind fun a=>
 if a then
  if (decide (p1 < 1)) then
   some ([]:LI)
  else
   if (decide (p1 > 100)) then
    some ([]:LI)
   else
    (m_Sh p0.tracks).bind fun b=>
    (loopM (lp_Sd_19 p1 p0) (0,b,([]:LZb))).bind fun e=>m_Sd_58 e.1 e.2
 else
  some ([]:LI)
def m_Sd (p0:Zc) (p1:Int):Option (LI):=m_Sd_0 p0 p1
def m_Ik_33:Option (Bool):=
 some true
def m_Ik_15 (p0:Za) (a:Int):Option ((Int)⊕((Bool)⊕((Unit)))):=
 if (decide (a < (p0.name.size:Int))) then
  (sat p0.name a).bind fun b=>
  if (decide (b < 32)) then
   some (.inr (.inl false))
  else
   if (decide (b > 126)) then
    some (.inr (.inl false))
   else
    some (.inl (w64 (a+1)))
 else
  some (.inr (.inr ()))
def lp_Ik_15 (p0:Za) (s:Int):Option ((Int)⊕((Bool)⊕((Unit)))):=m_Ik_15 p0 s
def m_Ik_0 (p0:Za):Option (Bool):=
 if (decide (p0.kind < 1)) then
  some false
 else
  if (decide (p0.kind > 6)) then
   some false
  else
   if (decide (p0.scale < 1)) then
    some false
   else
    if (decide (p0.scale > 1000000)) then
     some false
    else
     if (decide ((p0.name.size:Int) > 40)) then
      some false
     else
      (loopM (lp_Ik_15 p0) 0).bind fun e=>match e with | .inl e=>some e | .inr e=>m_Ik_33
def m_Ik (p0:Za):Option (Bool):=m_Ik_0 p0
def m_Ij_0 (p0:Int):Option (Bool):=
 if (decide (p0≥0)) then
  some (decide (p0≤1000000000))
 else
  some false
def m_Ij (p0:Int):Option (Bool):=m_Ij_0 p0
def m_Ii_77 (c:Int) (p0:Zc) (d:Int) (a:Zb) (b:LI):Option ((Int×Int×LI)⊕((Bool)⊕((Int)))):=
 (rd b a.track).bind fun _=>
 some (.inl ((w64 (c+(a.data.length:Int))),(w64 (d+1)),(b.set (0+Int.toNat a.track) a.time)))
def m_Ii_81 (a:Int):Option (Bool):=
 some (decide (a≤60000))
def m_Ii_59 (p0:Zc) (c b:Int) (d:LI):Option ((Int×Int×LI)⊕((Bool)⊕((Int)))):=
 if (decide (b < (p0.packets.length:Int))) then
  (rd p0.packets b).bind fun a=>
  if (decide (a.track < 0)) then
   some (.inr (.inl false))
  else
   if (decide (a.track≥(p0.tracks.length:Int))) then
    some (.inr (.inl false))
   else
    (m_Ij a.time).bind fun f=>
    if f then
     (m_Ij a.span).bind fun g=>
     if g then
      (rd d a.track).bind fun e=>
      if (decide (a.time < e)) then
       some (.inr (.inl false))
      else
       if (decide (e < 0)) then
        if a.key then
         m_Ii_77 c p0 b a d
        else
         some (.inr (.inl false))
       else
        m_Ii_77 c p0 b a d
     else
      some (.inr (.inl false))
    else
     some (.inr (.inl false))
 else
  some (.inr (.inr c))
def lp_Ii_59 (p0:Zc) (s:Int×Int×LI):Option ((Int×Int×LI)⊕((Bool)⊕((Int)))):=m_Ii_59 p0 s.1 s.2.1 s.2.2
def m_Ii_54 (p0:Zc) (a:LI):Option (Bool):=
 (loopM (lp_Ii_59 p0) (0,0,a)).bind fun e=>match e with | .inl e=>some e | .inr e=>m_Ii_81 e
def m_Ii_42 (p0:Zc) (c a:Int) (b:LI):Option ((Int×Int×LI)⊕((LI))):=
 if (decide (a < c)) then
  (rd b a).bind fun _=>
  some (.inl (c,(w64 (a+1)),(b.set (0+Int.toNat a) (-1))))
 else
  some (.inr b)
def lp_Ii_42 (p0:Zc) (s:Int×Int×LI):Option ((Int×Int×LI)⊕((LI))):=m_Ii_42 p0 s.1 s.2.1 s.2.2
def m_Ii_33 (p0:Zc):Option (Bool):=
 (ck (decide ((0:Int)≤(p0.tracks.length:Int)∧(p0.tracks.length:Int)≤(17592186044416:Int)))).bind fun _=>
 (loopM (lp_Ii_42 p0) (((Int.toNat (p0.tracks.length:Int)):Int),0,(List.replicate (Int.toNat (p0.tracks.length:Int)) (0:Int)))).bind fun e=>m_Ii_54 p0 e
def m_Ii_15 (p0:Zc) (a:Int):Option ((Int)⊕((Bool)⊕((Unit)))):=
 if (decide (a < (p0.tracks.length:Int))) then
  (rd p0.tracks a).bind fun b=>
  (m_Ik b).bind fun c=>
  if c then
   some (.inl (w64 (a+1)))
  else
   some (.inr (.inl false))
 else
  some (.inr (.inr ()))
def lp_Ii_15 (p0:Zc) (s:Int):Option ((Int)⊕((Bool)⊕((Unit)))):=m_Ii_15 p0 s
def m_Ii_0 (p0:Zc):Option (Bool):=
 if (decide ((p0.tracks.length:Int) < 1)) then
  some false
 else
  if (decide ((p0.tracks.length:Int) > 8)) then
   some false
  else
   if (decide ((p0.packets.length:Int) > 400)) then
    some false
   else
    (loopM (lp_Ii_15 p0) 0).bind fun e=>match e with | .inl e=>some e | .inr e=>m_Ii_33 p0
def m_Ii (p0:Zc):Option (Bool):=m_Ii_0 p0
def m_Ig_0 (p0:Zc) (p1 p2:Int):Option (Bool):=
 (rd p0.packets p1).bind fun a=>
 (rd p0.packets p2).bind fun b=>
 (rd p0.tracks b.track).bind fun c=>
 (rd p0.tracks a.track).bind fun d=>
 if ((w64 (a.time*c.scale)) != (w64 (b.time*d.scale))) then
  some (decide ((w64 (a.time*c.scale)) < (w64 (b.time*d.scale))))
 else
  if (a.track != b.track) then
   some (decide (a.track < b.track))
  else
   some (decide (p1 < p2))
def m_Ig (p0:Zc) (p1 p2:Int):Option (Bool):=m_Ig_0 p0 p1 p2
def m_Ib_31:Option (Bool):=
 some true
def m_Ib_15 (p0:Zc) (a:Int):Option ((Int)⊕((Bool)⊕((Unit)))):=
 if (decide (a < (p0.packets.length:Int))) then
  (m_Ig p0 a (w64 (a - 1))).bind fun b=>
  if b then
   some (.inr (.inl false))
  else
   some (.inl (w64 (a+1)))
 else
  some (.inr (.inr ()))
def lp_Ib_15 (p0:Zc) (s:Int):Option ((Int)⊕((Bool)⊕((Unit)))):=m_Ib_15 p0 s
def m_Ib_0 (p0:Zc):Option (Bool):=
 (m_Ii p0).bind fun a=>
 if a then
  (loopM (lp_Ib_15 p0) 1).bind fun e=>match e with | .inl e=>some e | .inr e=>m_Ib_31
 else
  some false
def m_Ib (p0:Zc):Option (Bool):=m_Ib_0 p0
def m_Ic_17 (a:Int) (b:LI):Option (LI):=
 (ck (decide (b.length+([(wr .u8 a)]:LI).length≤140737488355328))).bind fun _=>
 some (b++([(wr .u8 a)]:LI))
def m_Ic_7 (a:Int) (b:LI):Option ((Int×LI)⊕((Int×LI))):=
 if (decide (a > 127)) then
  (ck (decide (b.length+([(orI .u8 (wr .u8 a) 128)]:LI).length≤140737488355328))).bind fun _=>
  some (.inl ((shrI .u64 a 7),(b++([(orI .u8 (wr .u8 a) 128)]:LI))))
 else
  some (.inr (a,b))
def lp_Ic_7 (s:Int×LI):Option ((Int×LI)⊕((Int×LI))):=m_Ic_7 s.1 s.2
def m_Ic_0 (p0:Int):Option (LI):=
 (loopM (lp_Ic_7) (p0,([]:LI))).bind fun e=>m_Ic_17 e.1 e.2
def m_Ic (p0:Int):Option (LI):=m_Ic_0 p0
def m_Ie_0 (p0:Int) (p1:LI):Option (LI):=
 (m_Ic (wr .u64 p0)).bind fun a=>
 (ck (decide (p1.length+a.length≤140737488355328))).bind fun _=>
 some (p1++a)
def m_Ie (p0:Int) (p1:LI):Option (LI):=m_Ie_0 p0 p1
def m_Ia_35 (p0:LI) (a b:Int):Option ((Int×Int)⊕((Int))):=
 some (.inl (b,(w64 (a+1))))
def m_Ia_25 (p0:LI) (c a b:Int):Option ((Int×Int)⊕((Int))):=
 if (decide (b < 8)) then
  some (.inl ((xorI .u32 (shrI .u32 a 1) (wr .u32 (3988292384*(andI .u32 a 1)))),(w64 (b+1))))
 else
  some (.inr a)
def lp_Ia_25 (p0:LI) (a:Int) (s:Int×Int):Option ((Int×Int)⊕((Int))):=m_Ia_25 p0 a s.1 s.2
def m_Ia_36 (a:Int):Option (Int):=
 some (notI .u32 a)
def m_Ia_9 (p0:LI) (b a:Int):Option ((Int×Int)⊕((Int))):=
 if (decide (a < (p0.length:Int))) then
  (rd p0 a).bind fun c=>
  (loopM (lp_Ia_25 p0 a) ((xorI .u32 b (wr .u32 c)),0)).bind fun e=>m_Ia_35 p0 a e
 else
  some (.inr b)
def lp_Ia_9 (p0:LI) (s:Int×Int):Option ((Int×Int)⊕((Int))):=m_Ia_9 p0 s.1 s.2
def m_Ia_0 (p0:LI):Option (Int):=
 (loopM (lp_Ia_9 p0) (4294967295,0)).bind fun e=>m_Ia_36 e
def m_Ia (p0:LI):Option (Int):=m_Ia_0 p0
def m_Ih_0 (p0:Int):Option (LI):=
 some ([(wr .u8 (shrI .i64 p0 24)),(wr .u8 (shrI .i64 p0 16)),(wr .u8 (shrI .i64 p0 8)),(wr .u8 p0)]:LI)
def m_Ih (p0:Int):Option (LI):=m_Ih_0 p0
def m_If_0 (p0:Int) (p1:LI):Option (LI):=
 (ck (decide ((0:Int)≤p0∧p0≤(p1.length:Int)))).bind fun _=>
 (ck (decide ((0+(Int.toNat p0))+(p1.length - (Int.toNat p0))≤p1.length))).bind fun _=>
 (m_Ia ((p1.drop (0+(Int.toNat p0))).take (p1.length - (Int.toNat p0)))).bind fun b=>
 (m_Ih (w64 b)).bind fun a=>
 (ck (decide (p1.length+a.length≤140737488355328))).bind fun _=>
 some (p1++a)
def m_If (p0:Int) (p1:LI):Option (LI):=m_If_0 p0 p1
def m_Id_105 (p1 g:Int) (h:LI) (a b:LZa) (c d:Int) (p0:Zc) (e:LZb) (f:LI):Option ((LZa×LZa×Int×Int×LZb×LI)⊕((LZa×LZb×LI))):=
 some (.inl (a,b,c,(w64 (d+1)),e,f))
def m_Id_93 (p1 f:Int) (g:LI) (h i:LZa) (j k:Int) (p0:Zc) (l:LZb) (a:Int) (b c:LI):Option ((Int×LI×LI)⊕((LI))):=
 if (decide (a < 5)) then
  (rd b a).bind fun d=>
  (m_Ie d c).bind fun e=>
  some (.inl ((w64 (a+1)),b,e))
 else
  some (.inr c)
def lp_Id_93 (p1 a:Int) (b:LI) (c d:LZa) (e f:Int) (p0:Zc) (g:LZb) (s:Int×LI×LI):Option ((Int×LI×LI)⊕((LI))):=m_Id_93 p1 a b c d e f p0 g s.1 s.2.1 s.2.2
def m_Id_89 (p1 b:Int) (c:LI) (d f:LZa) (g h:Int) (p0:Zc) (a:Zb) (j:LI) (k:Int) (i:LZb):Option ((LZa×LZa×Int×Int×LZb×LI)⊕((LZa×LZb×LI))):=
 (loopM (lp_Id_93 p1 b c d f g h p0 i) (0,([a.track,a.time,a.span,k,(a.data.length:Int)]:LI),j)).bind fun e=>m_Id_105 p1 b c d f g h p0 i e
def m_Id_123 (p1 a:Int) (b:LI) (p0:Zc) (c:LZb) (d:LI):Option ((Int×LZb×LI)⊕((LZb×LI))):=
 (m_If (b.length:Int) d).bind fun e=>
 some (.inl ((w64 (a+p1)),c,e))
def m_Id_111 (p1 e:Int) (f:LI) (c:LZa) (p0:Zc) (g:LZb) (a:Int) (b:LI):Option ((Int×LI)⊕((LI))):=
 if (decide (a < (c.length:Int))) then
  (rd c a).bind fun d=>
  (ck (decide (b.length+d.data.length≤140737488355328))).bind fun _=>
  some (.inl ((w64 (a+1)),(b++d.data)))
 else
  some (.inr b)
def lp_Id_111 (p1 a:Int) (b:LI) (c:LZa) (p0:Zc) (d:LZb) (s:Int×LI):Option ((Int×LI)⊕((LI))):=m_Id_111 p1 a b c p0 d s.1 s.2
def m_Id_106 (p1 a:Int) (b:LI) (p0:Zc) (d:LZa) (c:LZb) (f:LI):Option ((Int×LZb×LI)⊕((LZb×LI))):=
 (loopM (lp_Id_111 p1 a b d p0 c) (0,f)).bind fun e=>m_Id_123 p1 a b p0 c e
def m_Id_69 (p1 i:Int) (b:LI) (p0:Zc) (e f:LZa) (g c:Int) (d:LZb) (h:LI):Option ((LZa×LZa×Int×Int×LZb×LI)⊕((LZa×LZb×LI))):=
 if (decide (c < g)) then
  (rd f c).bind fun a=>
  if a.key then
   (ck (decide (d.length+([(Zd.mk a.track a.time (b.length:Int))]:LZb).length≤5864062014805))).bind fun _=>
   m_Id_89 p1 i b e f g c p0 a h 1 (d++([(Zd.mk a.track a.time (b.length:Int))]:LZb))
  else
   m_Id_89 p1 i b e f g c p0 a h 0 d
 else
  some (.inr (e,d,h))
def lp_Id_69 (p1 a:Int) (b:LI) (p0:Zc) (s:LZa×LZa×Int×Int×LZb×LI):Option ((LZa×LZa×Int×Int×LZb×LI)⊕((LZa×LZb×LI))):=m_Id_69 p1 a b p0 s.1 s.2.1 s.2.2.1 s.2.2.2.1 s.2.2.2.2.1 s.2.2.2.2.2
def m_Id_152 (a c:LI):Option (LI):=
 (m_Ie (a.length:Int) c).bind fun d=>
 (m_If (a.length:Int) d).bind fun b=>
 if (decide ((b.length:Int) > 120000)) then
  some ([]:LI)
 else
  some b
def m_Id_136 (h:LI) (c:LZb) (a:Int) (d:LI):Option ((Int×LI)⊕((LI))):=
 if (decide (a < (c.length:Int))) then
  (rd c a).bind fun b=>
  (m_Ie b.track d).bind fun e=>
  (m_Ie b.time e).bind fun f=>
  (m_Ie b.at_ f).bind fun g=>
  some (.inl ((w64 (a+1)),g))
 else
  some (.inr d)
def lp_Id_136 (a:LI) (b:LZb) (s:Int×LI):Option ((Int×LI)⊕((LI))):=m_Id_136 a b s.1 s.2
def m_Id_125 (b:LZb) (a:LI):Option (LI):=
 (ck (decide (a.length+(bl (ByteArray.mk #[27,73,78,68,69,88,10,0])).length≤140737488355328))).bind fun _=>
 (m_Ie (b.length:Int) (a++(bl (ByteArray.mk #[27,73,78,68,69,88,10,0])))).bind fun c=>
 (loopM (lp_Id_136 a b) (0,c)).bind fun e=>m_Id_152 a e
def m_Id_46 (p1:Int) (p0:Zc) (a:Int) (c:LZb) (b:LI):Option ((Int×LZb×LI)⊕((LZb×LI))):=
 if (decide (a < (p0.packets.length:Int))) then
  (ck (decide ((0:Int)≤(mnI (w64 (a+p1)) (p0.packets.length:Int))∧(mnI (w64 (a+p1)) (p0.packets.length:Int))≤(p0.packets.length:Int)))).bind fun _=>
  (ck (decide ((0:Int)≤a∧a≤((Int.toNat (mnI (w64 (a+p1)) (p0.packets.length:Int))):Int)))).bind fun _=>
  (ck (decide (b.length+(bl (ByteArray.mk #[27,80,73,69,67,69,10,0])).length≤140737488355328))).bind fun _=>
  (ck (decide ((p1:Int)≠0))).bind fun _=>
  (m_Ie (w64 (Int.tdiv a p1)) (b++(bl (ByteArray.mk #[27,80,73,69,67,69,10,0])))).bind fun d=>
  (m_Ie (((p0.packets.take (Int.toNat (mnI (w64 (a+p1)) (p0.packets.length:Int)))).drop (Int.toNat a)).length:Int) d).bind fun f=>
  (loopM (lp_Id_69 p1 a b p0) (((p0.packets.take (Int.toNat (mnI (w64 (a+p1)) (p0.packets.length:Int)))).drop (Int.toNat a)),((p0.packets.take (Int.toNat (mnI (w64 (a+p1)) (p0.packets.length:Int)))).drop (Int.toNat a)),(((p0.packets.take (Int.toNat (mnI (w64 (a+p1)) (p0.packets.length:Int)))).drop (Int.toNat a)).length:Int),0,c,f)).bind fun e=>m_Id_106 p1 a b p0 e.1 e.2.1 e.2.2
 else
  some (.inr (c,b))
def lp_Id_46 (p1:Int) (p0:Zc) (s:Int×LZb×LI):Option ((Int×LZb×LI)⊕((LZb×LI))):=m_Id_46 p1 p0 s.1 s.2.1 s.2.2
def m_Id_37 (p1:Int) (p0:Zc) (a:LI):Option (LI):=
 (m_If 0 a).bind fun b=>
 (loopM (lp_Id_46 p1 p0) (0,([]:LZb),b)).bind fun e=>m_Id_125 e.1 e.2
def m_Id_21 (p1:Int) (p0:Zc) (b:Int) (c:LI):Option ((Int×LI)⊕((LI))):=
 if (decide (b < (p0.tracks.length:Int))) then
  (rd p0.tracks b).bind fun a=>
  (ck (decide (c.length+([(wr .u8 a.kind)]:LI).length≤140737488355328))).bind fun _=>
  (m_Ie a.scale (c++([(wr .u8 a.kind)]:LI))).bind fun d=>
  (ck (decide (d.length+([(wr .u8 (a.name.size:Int))]:LI).length≤140737488355328))).bind fun _=>
  (ck (decide ((d++([(wr .u8 (a.name.size:Int))]:LI)).length+(bl a.name).length≤140737488355328))).bind fun _=>
  some (.inl ((w64 (b+1)),((d++([(wr .u8 (a.name.size:Int))]:LI))++(bl a.name))))
 else
  some (.inr c)
def lp_Id_21 (p1:Int) (p0:Zc) (s:Int×LI):Option ((Int×LI)⊕((LI))):=m_Id_21 p1 p0 s.1 s.2
def m_Id_0 (p0:Zc) (p1:Int):Option (LI):=
 (m_Ib p0).bind fun a=>
 if a then
  if (decide (p1 < 1)) then
   some ([]:LI)
  else
   if (decide (p1 > 100)) then
    some ([]:LI)
   else
    (ck (decide (([66,79,88,49]:LI).length+([(wr .u8 (p0.tracks.length:Int))]:LI).length≤140737488355328))).bind fun _=>
    (loopM (lp_Id_21 p1 p0) (0,(([66,79,88,49]:LI)++([(wr .u8 (p0.tracks.length:Int))]:LI)))).bind fun e=>m_Id_37 p1 p0 e
 else
  some ([]:LI)
def m_Id (p0:Zc) (p1:Int):Option (LI):=m_Id_0 p0 p1
def m_Lb_31:Option (Bool):=
 some true
def m_Lb_15 (p0 p1:LI) (a:Int):Option ((Int)⊕((Bool)⊕((Unit)))):=
 if (decide (a < (p0.length:Int))) then
  (rd p0 a).bind fun b=>
  (rd p1 a).bind fun c=>
  if (b != c) then
   some (.inr (.inl false))
  else
   some (.inl (w64 (a+1)))
 else
  some (.inr (.inr ()))
def lp_Lb_15 (p0 p1:LI) (s:Int):Option ((Int)⊕((Bool)⊕((Unit)))):=m_Lb_15 p0 p1 s
def m_Lb_0 (p0 p1:LI):Option (Bool):=
 if ((p0.length:Int) != (p1.length:Int)) then
  some false
 else
  (loopM (lp_Lb_15 p0 p1) 0).bind fun e=>match e with | .inl e=>some e | .inr e=>m_Lb_31
def m_Lb (p0 p1:LI):Option (Bool):=m_Lb_0 p0 p1
def m_Le_0 (p0 p1:Za):Option (Bool):=
 if (p0.kind != p1.kind) then
  some false
 else
  if (p0.scale != p1.scale) then
   some false
  else
   if (p0.name.toList == p1.name.toList) then
    some true
   else
    some false
def m_Le (p0 p1:Za):Option (Bool):=m_Le_0 p0 p1
def m_Lf_31:Option (Bool):=
 some true
def m_Lf_15 (p0 p1:LZ) (a:Int):Option ((Int)⊕((Bool)⊕((Unit)))):=
 if (decide (a < (p0.length:Int))) then
  (rd p0 a).bind fun b=>
  (rd p1 a).bind fun c=>
  (m_Le b c).bind fun d=>
  if d then
   some (.inl (w64 (a+1)))
  else
   some (.inr (.inl false))
 else
  some (.inr (.inr ()))
def lp_Lf_15 (p0 p1:LZ) (s:Int):Option ((Int)⊕((Bool)⊕((Unit)))):=m_Lf_15 p0 p1 s
def m_Lf_0 (p0 p1:LZ):Option (Bool):=
 if ((p0.length:Int) != (p1.length:Int)) then
  some false
 else
  (loopM (lp_Lf_15 p0 p1) 0).bind fun e=>match e with | .inl e=>some e | .inr e=>m_Lf_31
def m_Lf (p0 p1:LZ):Option (Bool):=m_Lf_0 p0 p1
def m_Lc_0 (p0 p1:Zb):Option (Bool):=
 if (p0.track != p1.track) then
  some false
 else
  if (p0.time != p1.time) then
   some false
  else
   if (p0.span != p1.span) then
    some false
   else
    if (p0.key == p1.key) then
     (m_Lb p0.data p1.data).bind fun a=>
     if a then
      some true
     else
      some false
    else
     some false
def m_Lc (p0 p1:Zb):Option (Bool):=m_Lc_0 p0 p1
def m_Ld_31:Option (Bool):=
 some true
def m_Ld_15 (p0 p1:LZa) (a:Int):Option ((Int)⊕((Bool)⊕((Unit)))):=
 if (decide (a < (p0.length:Int))) then
  (rd p0 a).bind fun b=>
  (rd p1 a).bind fun c=>
  (m_Lc b c).bind fun d=>
  if d then
   some (.inl (w64 (a+1)))
  else
   some (.inr (.inl false))
 else
  some (.inr (.inr ()))
def lp_Ld_15 (p0 p1:LZa) (s:Int):Option ((Int)⊕((Bool)⊕((Unit)))):=m_Ld_15 p0 p1 s
def m_Ld_0 (p0 p1:LZa):Option (Bool):=
 if ((p0.length:Int) != (p1.length:Int)) then
  some false
 else
  (loopM (lp_Ld_15 p0 p1) 0).bind fun e=>match e with | .inl e=>some e | .inr e=>m_Ld_31
def m_Ld (p0 p1:LZa):Option (Bool):=m_Ld_0 p0 p1
def m_La_0 (p0 p1:Zc):Option (Bool):=
 (m_Lf p0.tracks p1.tracks).bind fun a=>
 if a then
  (m_Ld p0.packets p1.packets).bind fun b=>
  if b then
   some true
  else
   some false
 else
  some false
def m_La (p0 p1:Zc):Option (Bool):=m_La_0 p0 p1
def m_Lk_25 (a:ByteArray):Option (ByteArray):=
 (ck (decide ((ByteArray.mk #[109]).size+a.size≤9223372036854775807))).bind fun _=>
 some ((ByteArray.mk #[109])++a)
def m_Lk_15 (a:Int) (b:ByteArray):Option ((Int×ByteArray)⊕((ByteArray))):=
 if (decide (a > 0)) then
  (bstr ([(wr .u8 (w64 (48+(Int.tmod a 10))))]:LI)).bind fun c=>
  (ck (decide (c.size+b.size≤9223372036854775807))).bind fun _=>
  some (.inl ((w64 (Int.tdiv a 10)),(c++b)))
 else
  some (.inr b)
def lp_Lk_15 (s:Int×ByteArray):Option ((Int×ByteArray)⊕((ByteArray))):=m_Lk_15 s.1 s.2
def m_Lk_0 (p0:Int):Option (ByteArray):=
 if (decide (p0≤0)) then
  some (ByteArray.mk #[109,48])
 else
  (loopM (lp_Lk_15) (p0,(ByteArray.mk #[]))).bind fun e=>m_Lk_25 e
def m_Lk (p0:Int):Option (ByteArray):=m_Lk_0 p0
def m_Ll_27 (a:Int) (b:LZ):Option (Int×LZ):=
 some (a,b)
def m_Ll_7 (a b:Int) (c:LZ):Option ((Int×Int×LZ)⊕((Int×LZ))):=
 if (decide (b < (c.length:Int))) then
  (rd c b).bind fun _=>
  (m_Lk (w64 ((w64 (a+1))+1))).bind fun d=>
  some (.inl ((w64 ((w64 ((w64 (a+1))+1))+1)),(w64 (b+1)),(c.set (0+Int.toNat b) (Za.mk a (w64 (a+1)) d))))
 else
  some (.inr (a,c))
def lp_Ll_7 (s:Int×Int×LZ):Option ((Int×Int×LZ)⊕((Int×LZ))):=m_Ll_7 s.1 s.2.1 s.2.2
def m_Ll_0 (p1:Int) (p0:LZ):Option (Int×LZ):=
 (loopM (lp_Ll_7) (p1,0,p0)).bind fun e=>m_Ll_27 e.1 e.2
def m_Ll (p0:LZ) (p1:Int):Option (Int×LZ):=m_Ll_0 p1 p0
def m_Li_19 (a:Int) (b:LI):Option (Int×LI):=
 some (a,b)
def m_Li_7 (c a:Int) (b:LI):Option ((Int×Int×LI)⊕((Int×LI))):=
 if (decide (a < (b.length:Int))) then
  (rd b a).bind fun _=>
  some (.inl ((w64 (c+1)),(w64 (a+1)),(b.set (0+Int.toNat a) (wr .u8 c))))
 else
  some (.inr (c,b))
def lp_Li_7 (s:Int×Int×LI):Option ((Int×Int×LI)⊕((Int×LI))):=m_Li_7 s.1 s.2.1 s.2.2
def m_Li_0 (p1:Int) (p0:LI):Option (Int×LI):=
 (loopM (lp_Li_7) (p1,0,p0)).bind fun e=>m_Li_19 e.1 e.2
def m_Li (p0:LI) (p1:Int):Option (Int×LI):=m_Li_0 p1 p0
def m_Lj_33 (a:Int) (b:LZa):Option (Int×LZa):=
 some (a,b)
def m_Lj_7 (a b:Int) (c:LZa):Option ((Int×Int×LZa)⊕((Int×LZa))):=
 if (decide (b < (c.length:Int))) then
  (rd c b).bind fun e=>
  (m_Li e.data (w64 ((w64 ((w64 ((w64 (a+1))+1))+1))+1))).bind fun d=>
  (ck (decide (d.2.length=e.data.length))).bind fun _=>
  some (.inl (d.1,(w64 (b+1)),(c.set (0+Int.toNat b) (Zb.mk a (w64 (a+1)) (w64 ((w64 (a+1))+1)) ((Int.tmod (w64 ((w64 ((w64 (a+1))+1))+1)) 3) == 0) d.2))))
 else
  some (.inr (a,c))
def lp_Lj_7 (s:Int×Int×LZa):Option ((Int×Int×LZa)⊕((Int×LZa))):=m_Lj_7 s.1 s.2.1 s.2.2
def m_Lj_0 (p1:Int) (p0:LZa):Option (Int×LZa):=
 (loopM (lp_Lj_7) (p1,0,p0)).bind fun e=>m_Lj_33 e.1 e.2
def m_Lj (p0:LZa) (p1:Int):Option (Int×LZa):=m_Lj_0 p1 p0
def m_Lh_0 (p1:Int) (p0:Zc):Option (Int×Zc):=
 (m_Ll p0.tracks p1).bind fun a=>
 (ck (decide (a.2.length=p0.tracks.length))).bind fun _=>
 (m_Lj p0.packets a.1).bind fun b=>
 (ck (decide (b.2.length=p0.packets.length))).bind fun _=>
 some (b.1,(Zc.mk a.2 b.2))
def m_Lh (p0:Zc) (p1:Int):Option (Int×Zc):=m_Lh_0 p1 p0
def m_Lg_25 (a:Int):Option (Int):=
 some a
def m_Lg_7 (p0:LI) (a b:Int):Option ((Int×Int)⊕((Int)⊕((Int)))):=
 if (decide (b < (p0.length:Int))) then
  (rd p0 b).bind fun c=>
  if (c != (wr .u8 a)) then
   some (.inr (.inl (-1)))
  else
   some (.inl ((w64 (a+1)),(w64 (b+1))))
 else
  some (.inr (.inr a))
def lp_Lg_7 (p0:LI) (s:Int×Int):Option ((Int×Int)⊕((Int)⊕((Int)))):=m_Lg_7 p0 s.1 s.2
def m_Lg_0 (p0:LI) (p1:Int):Option (Int):=
 (loopM (lp_Lg_7 p0) (p1,0)).bind fun e=>match e with | .inl e=>some e | .inr e=>m_Lg_25 e
def m_Lg (p0:LI) (p1:Int):Option (Int):=m_Lg_0 p0 p1
def m_laws_FnExactWriteBox_0 (p0:Zc) (p1:Int):Option (Bool):=
 (m_Lm p0 1048576).bind fun f=>
 if (decide (f < 0)) then
  some true
 else
  (m_Ls p0).bind fun a=>
  (m_Sd a p1).bind fun g=>
  (m_Id a p1).bind fun b=>
  (m_Lb b g).bind fun h=>
  if h then
   (m_La a a).bind fun i=>
   if i then
    (m_Lh a 1).bind fun c=>
    (ck (decide (c.2.tracks.length=a.tracks.length))).bind fun _=>
    (ck (decide (c.2.packets.length=a.packets.length))).bind fun _=>
    if (decide (c.1 < 0)) then
     some false
    else
     (m_Li b 1).bind fun d=>
     (ck (decide (d.2.length=b.length))).bind fun _=>
     (m_Lg d.2 1).bind fun e=>
     if (decide (e < 0)) then
      some false
     else
      if (e != d.1) then
       some false
      else
       some true
   else
    some false
  else
   some false
def m_laws_FnExactWriteBox (p0:Zc) (p1:Int):Option (Bool):=m_laws_FnExactWriteBox_0 p0 p1
end
end Go.Proofs.V

set_option linter.unusedSimpArgs false
namespace Go.Proofs.V
open Go
def pnF:Nat→Nat→List Int
 | 0,v=>[(v:Int)]
 | k+1,v=>if 128≤v then ((v % 128+128:Nat):Int)::pnF k (v / 128) else [(v:Int)]
def pn (x:Int):List Int:=pnF 9 (wr .u64 x).toNat
theorem pnF_len:∀ (k v:Nat),(pnF k v).length≤k+1
 | 0,v=>by simp [pnF]
 | k+1,v=>by
  unfold pnF
  split
  ·have:=pnF_len k (v / 128)
   simp;omega
  ·simp
theorem pn_len (x:Int):(pn x).length≤10:=pnF_len 9 _
theorem or8_all:∀ n:Fin 256,orI .u8 (n.val:Int) 128=((n.val % 128+128:Nat):Int):=by decide +kernel
theorem or8 (v:Nat):orI .u8 (wr .u8 (v:Int)) 128=((v % 128+128:Nat):Int):=by
 rw [u8_mod]
 have:=or8_all ⟨v % 256,by omega⟩
 simp only at this
 rw [this]
 omega
theorem spec_pnGo:∀ (k v:Nat) (acc:List Int),v < 128 ^ (k+1)→v < 18446744073709551616→acc.length+k≤100→
  (loopM (lp_Sc_7) ((v:Int),acc)).bind (fun e=>m_Sc_17 e.1 e.2)=some (acc++pnF k v):=by
 intro k
 induction k with
 | zero=>
  intro v acc hv h64 ha
  rw [loopM_eq]
  dsimp only [lp_Sc_7,m_Sc_7]
  rw [if_neg (by simp;omega)]
  simp only [Option.bind_some,m_Sc_17]
  rw [ck_eq (by simp;omega),wu8_id (by omega) (by omega)]
  rfl
 | succ k ih=>
  intro v acc hv h64 ha
  rw [loopM_eq]
  dsimp only [lp_Sc_7,m_Sc_7]
  unfold pnF
  by_cases h:128≤v
  ·rw [if_pos (by simpa using (by omega:(128:Int)≤v)),if_pos h,ck_eq (by simp;omega)]
   simp only [Option.bind_some]
   have e1:wr .u8 ((wr .u8 (Int.tmod (v:Int) 128))+128)=((v % 128+128:Nat):Int):=by
    rw [Int.tmod_eq_emod_of_nonneg (by omega),wu8_id (x:=(v:Int) % 128) (by omega) (by omega),wu8_id (by omega) (by omega)]
    omega
   have e2:wr .u64 (Int.tdiv (v:Int) 128)=((v / 128:Nat):Int):=by
    rw [Int.tdiv_eq_ediv_of_nonneg (by omega),wu64_id (by omega) (by omega)]
    omega
   rw [e1,e2]
   have:=ih (v / 128) (acc++[((v % 128+128:Nat):Int)]) (by rw [Nat.pow_succ] at hv;omega) (by omega) (by simp;omega)
   simpa using this
  ·rw [if_neg (by simp;omega),if_neg h]
   simp only [Option.bind_some,m_Sc_17]
   rw [ck_eq (by simp;omega),wu8_id (by omega) (by omega)]
   rfl
theorem impl_pnGo:∀ (k v:Nat) (acc:List Int),v < 128 ^ (k+1)→v < 18446744073709551616→acc.length+k≤100→
  (loopM (lp_Ic_7) ((v:Int),acc)).bind (fun e=>m_Ic_17 e.1 e.2)=some (acc++pnF k v):=by
 intro k
 induction k with
 | zero=>
  intro v acc hv h64 ha
  rw [loopM_eq]
  dsimp only [lp_Ic_7,m_Ic_7]
  rw [if_neg (by simp;omega)]
  simp only [Option.bind_some,m_Ic_17]
  rw [ck_eq (by simp;omega),wu8_id (by omega) (by omega)]
  rfl
 | succ k ih=>
  intro v acc hv h64 ha
  rw [loopM_eq]
  dsimp only [lp_Ic_7,m_Ic_7]
  unfold pnF
  by_cases h:128≤v
  ·rw [if_pos (by simp;omega),if_pos h,ck_eq (by simp;omega)]
   simp only [Option.bind_some]
   have e2:shrI .u64 (v:Int) 7=((v / 128:Nat):Int):=shrI_nat .u64 v 7 (by decide)
   rw [or8,e2]
   have:=ih (v / 128) (acc++[((v % 128+128:Nat):Int)]) (by rw [Nat.pow_succ] at hv;omega) (by omega) (by simp;omega)
   simpa using this
  ·rw [if_neg (by simp;omega),if_neg h]
   simp only [Option.bind_some,m_Ic_17]
   rw [ck_eq (by simp;omega),wu8_id (by omega) (by omega)]
   rfl
theorem u64_nat (x:Int):wr .u64 x=(((wr .u64 x).toNat:Nat):Int)∧(wr .u64 x).toNat < 18446744073709551616:=by
 rw [wu64_eq];omega
theorem spec_pn (x:Int):m_Sc (wr .u64 x)=some (pn x):=by
 have h:=u64_nat x
 unfold pn
 unfold m_Sc m_Sc_0
 generalize (wr .u64 x).toNat=N at h ⊢
 rw [h.1]
 simpa using spec_pnGo 9 _ [] (Nat.lt_of_lt_of_le h.2 (by decide)) h.2 (by simp)
theorem impl_pn (x:Int):m_Ic (wr .u64 x)=some (pn x):=by
 have h:=u64_nat x
 unfold pn
 unfold m_Ic m_Ic_0
 generalize (wr .u64 x).toNat=N at h ⊢
 rw [h.1]
 simpa using impl_pnGo 9 _ [] (Nat.lt_of_lt_of_le h.2 (by decide)) h.2 (by simp)
theorem impl_c1 (x:Int) (acc:List Int) (h:acc.length≤70368744177664):m_Ie x acc=some (acc++pn x):=by
 have:=pn_len x
 simp only [m_Ie,m_Ie_0,impl_pn,Option.bind_some]
 rw [ck_eq (by omega)]
 rfl
theorem spec_put (acc xs:List Int) (h:acc.length≤35184372088832) (hx:xs.length≤1000):m_Sm acc xs=some (acc++xs.flatMap pn):=by
 simp only [m_Sm,m_Sm_0]
 have:=fold_list (l:=xs) (fun (s:List Int) i=>((i:Int),s)) (g:=fun s x=>s++pn x) (I:=fun i s=>s.length≤acc.length+10*i) (b:=lp_Sm_7 xs) (e1:=fun s=>s) (fun i s hi hI=>?_) (fun s hI=>?_) acc (by simp)
 ·rw [show ((0:Nat):Int)=0 from rfl] at this
  rw [this.1]
  simp only [Option.bind_some,m_Sm_19]
  congr 1
  clear this h hx
  induction xs generalizing acc with
  | nil=>simp
  | cons x xs ih=>simp [ih,List.append_assoc]
 ·have hp:=pn_len xs[i]
  refine ⟨?_,by simp;omega⟩
  dsimp only [lp_Sm_7,m_Sm_7]
  rw [if_pos (by simpa using hi),rd_eq hi]
  simp only [Option.bind_some,spec_pn]
  rw [ck_eq (by omega),w64_succ (by omega)]
  rfl
 ·dsimp only [lp_Sm_7,m_Sm_7]
  rw [if_neg (by simp)]
theorem put_len (xs:List Int):(xs.flatMap pn).length≤10*xs.length:=by
 induction xs with
 | nil=>simp
 | cons x xs ih=>have:=pn_len x;rw [List.flatMap_cons,List.length_append,List.length_cons];omega
end Go.Proofs.V

namespace Go.Proofs.V
open Go
theorem wu32_eq (x:Int):wr .u32 x=x % 4294967296:=by
 unfold wr IntKind.wrap
 simp [IntKind.bits,IntKind.signed]
theorem wu32_rng (x:Int):0≤wr .u32 x∧wr .u32 x < 4294967296:=by rw [wu32_eq];omega
def crc1 (r:Int):Int:=if andI .u32 r 1 == 1 then xorI .u32 (shrI .u32 r 1) 3988292384 else shrI .u32 r 1
def crc8 (r:Int):Int:=(List.range 8).foldl (fun r _=>crc1 r) r
def crcF (l:List Int):Int:=notI .u32 (l.foldl (fun r c=>crc8 (xorI .u32 r (wr .u32 c))) 4294967295)
theorem xor_rng (a b:Int):0≤xorI .u32 a b∧xorI .u32 a b < 4294967296:=wu32_rng _
theorem crcF_rng (l:List Int):0≤crcF l∧crcF l < 4294967296:=wu32_rng _
theorem shr1 (r:Int) (h:0≤r∧r < 4294967296):shrI .u32 r 1=r / 2:=by
 unfold shrI
 rw [show (2:Int) ^ min (Int.toNat 1) IntKind.u32.bits=2 from rfl,Int.fdiv_eq_ediv_of_nonneg _ (by omega)]
theorem crc1_rng (r:Int) (h:0≤r∧r < 4294967296):0≤crc1 r∧crc1 r < 4294967296:=by
 unfold crc1
 split
 ·exact xor_rng _ _
 ·rw [shr1 r h];omega
theorem and1_u32 (r:Int):andI .u32 r 1=0∨andI .u32 r 1=1:=by
 unfold andI
 have h1:(BitVec.ofInt IntKind.u32.bits r &&& BitVec.ofInt IntKind.u32.bits 1).toNat≤1:=by
  show (BitVec.ofInt 32 r &&& BitVec.ofNat 32 1).toNat≤1
  rw [BitVec.toNat_and,BitVec.toNat_ofNat]
  exact Nat.and_le_right
 have h2:∀ k:Nat,k≤1→IntKind.wrap .u32 (k:Int)=0∨IntKind.wrap .u32 (k:Int)=1:=by
  intro k hk
  have:k=0∨k=1:=by omega
  rcases this with rfl | rfl
  ·left;rfl
  ·right;rfl
 exact h2 _ h1
theorem xor_zero_u32 (x:Int) (h:0≤x∧x < 4294967296):xorI .u32 x 0=x:=by
 unfold xorI
 show IntKind.u32.wrap ((BitVec.ofInt 32 x ^^^ 0#32).toNat:Int)=x
 rw [BitVec.xor_zero]
 obtain ⟨n,rfl⟩:∃ n:Nat,x=n:=⟨x.toNat,by omega⟩
 rw [BitVec.ofInt_natCast,BitVec.toNat_ofNat,Nat.mod_eq_of_lt (by omega)]
 exact wu32_id (by omega) (by omega)
theorem crc1_impl (r:Int) (h:0≤r∧r < 4294967296):xorI .u32 (shrI .u32 r 1) (wr .u32 (3988292384*(andI .u32 r 1)))=crc1 r:=by
 unfold crc1
 rcases and1_u32 r with h1 | h1
 ·rw [h1,if_neg (by decide),show wr .u32 (3988292384*0)=0 from rfl]
  exact xor_zero_u32 _ (by rw [shr1 r h];omega)
 ·rw [h1,if_pos (by decide),show wr .u32 (3988292384*1)=3988292384 from rfl]
theorem crc8_rng (r:Int) (h:0≤r∧r < 4294967296):0≤crc8 r∧crc8 r < 4294967296:=by
 have:∀ (k:List Nat) (r:Int),0≤r∧r < 4294967296→0≤k.foldl (fun r _=>crc1 r) r∧k.foldl (fun r _=>crc1 r) r < 4294967296:=by
  intro k
  induction k with
  | nil=>intro r h;exact h
  | cons a k ih=>intro r h;exact ih _ (crc1_rng r h)
 exact this _ r h
theorem spec_crc8 (p0:List Int) (i:Int) (r:Int) (h:0≤r∧r < 4294967296):loopM (lp_Sa_25 p0 i) (r,0)=some (crc8 r):=by
 refine (fold_range (n:=8) (fun (s:Int) i=>(s,(i:Int))) (g:=fun r _=>crc1 r) (I:=fun _ s=>0≤s∧s < 4294967296) (e1:=fun s=>s) (fun i s hi hI=>⟨?_,crc1_rng s hI⟩) (fun s hI=>?_) r h).1
 ·simp only [lp_Sa_25,m_Sa_25,decide_eq_true_eq]
  rw [if_pos (by omega),w64_succ (by omega)]
  unfold crc1
  split <;> rfl
 ·simp only [lp_Sa_25,m_Sa_25]
  rfl
theorem impl_crc8 (p0:List Int) (i:Int) (r:Int) (h:0≤r∧r < 4294967296):loopM (lp_Ia_25 p0 i) (r,0)=some (crc8 r):=by
 refine (fold_range (n:=8) (fun (s:Int) i=>(s,(i:Int))) (g:=fun r _=>crc1 r) (I:=fun _ s=>0≤s∧s < 4294967296) (e1:=fun s=>s) (fun i s hi hI=>⟨?_,crc1_rng s hI⟩) (fun s hI=>?_) r h).1
 ·simp only [lp_Ia_25,m_Ia_25,decide_eq_true_eq]
  rw [if_pos (by omega),w64_succ (by omega),crc1_impl s hI]
 ·simp only [lp_Ia_25,m_Ia_25]
  rfl
theorem spec_crc (l:List Int) (hl:l.length≤2305843009213693952):m_Sa l=some (crcF l):=by
 unfold m_Sa m_Sa_0
 have key:=fold_list (l:=l) (fun (s:Int) i=>(s,(i:Int))) (g:=fun r c=>crc8 (xorI .u32 r (wr .u32 c))) (I:=fun _ s=>0≤s∧s < 4294967296) (b:=lp_Sa_9 l) (e1:=fun s=>s)
  (fun i s hi hI=>⟨by
   simp only [lp_Sa_9,m_Sa_9,decide_eq_true_eq]
   rw [if_pos (by omega),rd_eq hi]
   simp only [Option.bind_some]
   rw [spec_crc8 _ _ _ (xor_rng _ _)]
   simp only [Option.bind_some,m_Sa_43]
   rw [w64_succ (by omega)],crc8_rng _ (xor_rng _ _)⟩)
  (fun s hI=>by
   simp only [lp_Sa_9,m_Sa_9]
   rw [if_neg (by simp)]) 4294967295 (by omega)
 have k1:=key.1
 simp only [show ((0:Nat):Int)=0 from rfl] at k1
 rw [k1]
 rfl
theorem impl_crc (l:List Int) (hl:l.length≤2305843009213693952):m_Ia l=some (crcF l):=by
 unfold m_Ia m_Ia_0
 have key:=fold_list (l:=l) (fun (s:Int) i=>(s,(i:Int))) (g:=fun r c=>crc8 (xorI .u32 r (wr .u32 c))) (I:=fun _ s=>0≤s∧s < 4294967296) (b:=lp_Ia_9 l) (e1:=fun s=>s)
  (fun i s hi hI=>⟨by
   simp only [lp_Ia_9,m_Ia_9,decide_eq_true_eq]
   rw [if_pos (by omega),rd_eq hi]
   simp only [Option.bind_some]
   rw [impl_crc8 _ _ _ (xor_rng _ _)]
   simp only [Option.bind_some,m_Ia_35]
   rw [w64_succ (by omega)],crc8_rng _ (xor_rng _ _)⟩)
  (fun s hI=>by
   simp only [lp_Ia_9,m_Ia_9]
   rw [if_neg (by simp)]) 4294967295 (by omega)
 have k1:=key.1
 simp only [show ((0:Nat):Int)=0 from rfl] at k1
 rw [k1]
 rfl
end Go.Proofs.V

namespace Go.Proofs.V
open Go
def four (x:Int):List Int:=[x / 16777216 % 256,x / 65536 % 256,x / 256 % 256,x % 256]
theorem spec_four (x:Int) (h:0≤x∧x < 4294967296):m_Sr x=some (four x):=by
 obtain ⟨n,rfl⟩:∃ n:Nat,x=n:=⟨x.toNat,by omega⟩
 simp only [m_Sr,m_Sr_0,four]
 rw [show (24:Int)=((24:Nat):Int) from rfl,show (16:Int)=((16:Nat):Int) from rfl,show (8:Int)=((8:Nat):Int) from rfl,
  shrI_nat .u32 n 24 (by decide),shrI_nat .u32 n 16 (by decide),shrI_nat .u32 n 8 (by decide),wu8_eq,wu8_eq,wu8_eq,wu8_eq]
 congr 1
theorem impl_four (x:Int) (h:0≤x∧x < 4294967296):m_Ih (w64 x)=some (four x):=by
 rw [w64_id (by omega) (by omega)]
 obtain ⟨n,rfl⟩:∃ n:Nat,x=n:=⟨x.toNat,by omega⟩
 simp only [m_Ih,m_Ih_0,four]
 rw [show (24:Int)=((24:Nat):Int) from rfl,show (16:Int)=((16:Nat):Int) from rfl,show (8:Int)=((8:Nat):Int) from rfl,
  shrI_nat .i64 n 24 (by decide),shrI_nat .i64 n 16 (by decide),shrI_nat .i64 n 8 (by decide),wu8_eq,wu8_eq,wu8_eq,wu8_eq]
 congr 1
theorem four_len (x:Int):(four x).length=4:=rfl
def sealL (l:List Int):List Int:=l++four (crcF l)
theorem seal_len (l:List Int):(sealL l).length=l.length+4:=by simp [sealL,four_len]
theorem spec_seal (l:List Int) (h:l.length≤70368744177664):((m_Sa l).bind fun x=>(m_Sr x).bind fun y=>(ck (decide (l.length+y.length≤140737488355328))).bind fun _=>some (l++y))=some (sealL l):=by
 rw [spec_crc l (by omega)]
 simp only [Option.bind_some]
 rw [spec_four _ (crcF_rng l)]
 simp only [Option.bind_some]
 rw [ck_eq (by rw [four_len];omega)]
 rfl
theorem impl_c2 (a b:List Int) (h:a.length+b.length≤70368744177664):m_If (a.length:Int) (a++b)=some (a++sealL b):=by
 simp only [m_If,m_If_0]
 rw [ck_eq (by rw [List.length_append];omega)]
 simp only [Option.bind_some]
 rw [ck_eq (by simp)]
 simp only [Option.bind_some]
 have e:((a++b).drop (0+Int.toNat (a.length:Int))).take ((a++b).length - Int.toNat (a.length:Int))=b:=by simp
 rw [e,impl_crc b (by omega)]
 simp only [Option.bind_some]
 rw [impl_four _ (crcF_rng b)]
 simp only [Option.bind_some]
 rw [ck_eq (by rw [four_len];simp;omega)]
 simp [sealL]
theorem foldl_flat {α:Type} (f:α→List Int) (l:List α) (a:List Int):l.foldl (fun s x=>s++f x) a=a++l.flatMap f:=by
 induction l generalizing a with
 | nil=>simp
 | cons x l ih=>simp [ih]
theorem app_list {α τ ε:Type} {l:List α} (mk:List Int→Nat→τ) (f:α→List Int) (C:Nat) (a:List Int) (hf:∀ x ∈ l,(f x).length≤C) {b:τ→Option (τ⊕ε)} {e1:List Int→ε}
  (step:∀ (i:Nat) (s:List Int) (h:i < l.length),s.length≤a.length+C*l.length→b (mk s i)=some (.inl (mk (s++f l[i]) (i+1))))
  (done:∀ s,b (mk s l.length)=some (.inr (e1 s))):loopM b (mk a 0)=some (e1 (a++l.flatMap f)):=by
 have:=fold_list (l:=l) mk (g:=fun s x=>s++f x) (I:=fun i s=>s.length≤a.length+C*i) (b:=b) (e1:=e1) (fun i s hi hI=>?_) (fun s _=>done s) a (by simp)
 ·rw [this.1,foldl_flat]
 ·have h1:=hf l[i] (by simp)
  refine ⟨step i s hi (Nat.le_trans hI (Nat.add_le_add_left (Nat.mul_le_mul_left C (by omega)) _)),?_⟩
  rw [List.length_append,Nat.mul_succ]
  omega
theorem flat_len {α:Type} (f:α→List Int) (C:Nat):∀ (l:List α),(∀ x ∈ l,(f x).length≤C)→(l.flatMap f).length≤C*l.length
 | [],_=>by simp
 | x::l,h=>by
  have h1:=h x (by simp)
  have h2:=flat_len f C l (fun y hy=>h y (by simp [hy]))
  rw [List.flatMap_cons,List.length_append,List.length_cons,Nat.mul_succ]
  omega
def trB (t:Za):List Int:=[wr .u8 t.kind]++pn t.scale++[wr .u8 (t.name.size:Int)]++bl t.name
def headB (l:List Za):List Int:=sealL ([66,79,88,49,wr .u8 (l.length:Int)]++l.flatMap trB)
theorem trB_len (t:Za) (h:t.name.size≤40):(trB t).length≤52:=by
 have:=pn_len t.scale
 simp only [trB,List.length_append,bl_len,List.length_singleton]
 omega
theorem headB_len (l:List Za) (h:l.length≤8) (hn:∀ t ∈ l,t.name.size≤40):(headB l).length≤500:=by
 have:=flat_len trB 52 l (fun t ht=>trB_len t (hn t ht))
 rw [headB,seal_len,List.length_append]
 simp only [List.length_cons,List.length_nil]
 omega
theorem spec_head (l:List Za) (h:l.length≤8) (hn:∀ t ∈ l,t.name.size≤40):m_Sh l=some (headB l):=by
 simp only [m_Sh,m_Sh_0]
 have:=app_list (l:=l) (fun s i=>((i:Int),s)) trB 52 [66,79,88,49,wr .u8 (l.length:Int)] (fun t ht=>trB_len t (hn t ht)) (b:=lp_Sh_9 l) (e1:=fun s=>s) (fun i s hi hs=>?_) (fun s=>?_)
 ·rw [show ((0:Nat):Int)=0 from rfl] at this
  rw [this]
  simp only [Option.bind_some,m_Sh_27]
  have hl:=flat_len trB 52 l (fun t ht=>trB_len t (hn t ht))
  rw [spec_seal _ (by rw [List.length_append];simp only [List.length_cons,List.length_nil];omega)]
  rfl
 ·have h1:=trB_len l[i] (hn _ (by simp))
  have h2:=pn_len l[i].scale
  have h3:=hn l[i] (by simp)
  simp only [List.length_cons,List.length_nil] at hs
  dsimp only [lp_Sh_9,m_Sh_9]
  rw [if_pos (by simpa using hi),rd_eq hi]
  simp only [Option.bind_some]
  rw [ck_eq (by simp;omega)]
  simp only [Option.bind_some]
  rw [spec_put _ _ (by simp;omega) (by simp)]
  simp only [Option.bind_some]
  rw [ck_eq (by simp;omega)]
  simp only [Option.bind_some]
  rw [ck_eq (by simp [bl_len];omega),w64_succ (by omega)]
  simp [trB]
 ·dsimp only [lp_Sh_9,m_Sh_9]
  rw [if_neg (by simp)]
theorem impl_head (p1:Int) (b:Zc) (h:b.tracks.length≤8) (hn:∀ t ∈ b.tracks,t.name.size≤40) :
  loopM (lp_Id_21 p1 b) (0,(([66,79,88,49]:List Int)++([(wr .u8 (b.tracks.length:Int))]:List Int)))=some ([66,79,88,49,wr .u8 (b.tracks.length:Int)]++b.tracks.flatMap trB):=by
 refine app_list (l:=b.tracks) (fun s i=>((i:Int),s)) trB 52 [66,79,88,49,wr .u8 (b.tracks.length:Int)] (fun t ht=>trB_len t (hn t ht)) (b:=lp_Id_21 p1 b) (e1:=fun s=>s) (fun i s hi hs=>?_) (fun s=>?_)
 ·have h1:=trB_len b.tracks[i] (hn _ (by simp))
  have h2:=pn_len b.tracks[i].scale
  have h3:=hn b.tracks[i] (by simp)
  simp only [List.length_cons,List.length_nil] at hs
  dsimp only [lp_Id_21,m_Id_21]
  rw [if_pos (by simpa using hi),rd_eq hi]
  simp only [Option.bind_some]
  rw [ck_eq (by simp;omega)]
  simp only [Option.bind_some]
  rw [impl_c1 _ _ (by simp;omega)]
  simp only [Option.bind_some]
  rw [ck_eq (by simp;omega)]
  simp only [Option.bind_some]
  rw [ck_eq (by simp [bl_len];omega),w64_succ (by omega)]
  simp [trB]
 ·dsimp only [lp_Id_21,m_Id_21]
  rw [if_neg (by simp)]
end Go.Proofs.V

namespace Go.Proofs.V
open Go
def keyN (p:Zb):Int:=if p.key then 1 else 0
def pkB (p:Zb):List Int:=pn p.track++pn p.time++pn p.span++pn (keyN p)++pn (p.data.length:Int)
theorem pkB_len (p:Zb):(pkB p).length≤50:=by
 have h1:=pn_len p.track
 have h2:=pn_len p.time
 have h3:=pn_len p.span
 have h4:=pn_len (keyN p)
 have h5:=pn_len (p.data.length:Int)
 simp only [pkB,List.length_append]
 omega
def markP:List Int:=[27,80,73,69,67,69,10,0]
def markI:List Int:=[27,73,78,68,69,88,10,0]
def pieceB (n:Int) (ps:List Zb):List Int:=markP++pn n++pn (ps.length:Int)++ps.flatMap pkB++ps.flatMap (·.data)
def entB (e:Zd):List Int:=pn e.track++pn e.time++pn e.at_
def indexB (es:List Zd) (n:Int):List Int:=markI++pn (es.length:Int)++es.flatMap entB++pn n
def entsB (a:Int) (ps:List Zb):List Zd:=ps.flatMap fun p=>if p.key then [Zd.mk p.track p.time a] else []
theorem pieceB_len (n:Int) (ps:List Zb) (hd:∀ p ∈ ps,p.data.length≤1048576):(pieceB n ps).length≤28+1048626*ps.length:=by
 have h1:=flat_len pkB 50 ps (fun p _=>pkB_len p)
 have h2:=flat_len (fun p:Zb=>p.data) 1048576 ps hd
 have h3:=pn_len n
 have h4:=pn_len (ps.length:Int)
 simp only [pieceB,List.length_append,markP,List.length_cons,List.length_nil]
 omega
theorem ents_len (a:Int) (ps:List Zb):(entsB a ps).length≤ps.length:=by
 induction ps with
 | nil=>simp [entsB]
 | cons p ps ih=>
  unfold entsB at ih ⊢
  rw [List.flatMap_cons,List.length_append,List.length_cons]
  split
  ·rw [List.length_singleton];omega
  ·rw [List.length_nil];omega
theorem entB_len (e:Zd):(entB e).length≤30:=by
 have h1:=pn_len e.track
 have h2:=pn_len e.time
 have h3:=pn_len e.at_
 simp only [entB,List.length_append]
 omega
theorem spec_piece (n:Int) (ps:List Zb) (hl:ps.length≤400) (hd:∀ p ∈ ps,p.data.length≤1048576):m_Sk n ps=some (sealL (pieceB n ps)):=by
 simp only [m_Sk,m_Sk_0,m_Sl,m_Sl_0,Option.bind_some]
 rw [spec_put _ _ (by simp) (by simp)]
 simp only [Option.bind_some]
 have h3:=pn_len n
 have h4:=pn_len (ps.length:Int)
 have hA:([27,80,73,69,67,69,10,0]++[n,(ps.length:Int)].flatMap pn).length≤28:=by
  simp [List.flatMap_cons];omega
 have k1:=app_list (l:=ps) (fun s i=>((i:Int),s)) pkB 50 ([27,80,73,69,67,69,10,0]++[n,(ps.length:Int)].flatMap pn) (fun p _=>pkB_len p) (b:=lp_Sk_11 ps) (e1:=fun s=>s) (fun i s hi hs=>?_) (fun s=>?_)
 ·rw [show ((0:Nat):Int)=0 from rfl] at k1
  rw [k1]
  simp only [Option.bind_some,m_Sk_23]
  have h1:=flat_len pkB 50 ps (fun p _=>pkB_len p)
  have k2:=app_list (l:=ps) (fun s i=>((i:Int),s)) (fun p:Zb=>p.data) 1048576 (([27,80,73,69,67,69,10,0]++[n,(ps.length:Int)].flatMap pn)++ps.flatMap pkB) hd (b:=lp_Sk_28 ps) (e1:=fun s=>s) (fun i s hi hs=>?_) (fun s=>?_)
  ·rw [show ((0:Nat):Int)=0 from rfl] at k2
   rw [k2]
   simp only [Option.bind_some,m_Sk_40]
   have e:([27,80,73,69,67,69,10,0]++[n,(ps.length:Int)].flatMap pn++ps.flatMap pkB++ps.flatMap fun p:Zb=>p.data)=pieceB n ps:=by
    simp [pieceB,markP,List.flatMap_cons]
   rw [e]
   have:=pieceB_len n ps hd
   exact spec_seal _ (by omega)
  ·have h5:=hd ps[i] (by simp)
   rw [List.length_append] at hs
   dsimp only [lp_Sk_28,m_Sk_28]
   rw [if_pos (by simpa using hi),rd_eq hi]
   simp only [Option.bind_some]
   rw [ck_eq (by omega),w64_succ (by omega)]
   rfl
  ·dsimp only [lp_Sk_28,m_Sk_28]
   rw [if_neg (by simp)]
 ·dsimp only [lp_Sk_11,m_Sk_11]
  rw [if_pos (by simpa using hi),rd_eq hi]
  simp only [Option.bind_some]
  have e:m_Se ps[i].key=some (keyN ps[i]):=by
   unfold m_Se m_Se_0 keyN
   split <;> simp_all
  rw [e]
  simp only [Option.bind_some]
  rw [spec_put _ _ (by omega) (by simp)]
  simp only [Option.bind_some]
  rw [w64_succ (by omega)]
  simp [pkB,List.flatMap_cons]
 ·dsimp only [lp_Sk_11,m_Sk_11]
  rw [if_neg (by simp)]
theorem spec_index (es:List Zd) (n:Int) (hl:es.length≤400):m_Si es n=some (sealL (indexB es n)):=by
 simp only [m_Si,m_Si_0,m_Sj,m_Sj_0,Option.bind_some]
 rw [spec_put _ _ (by simp) (by simp)]
 simp only [Option.bind_some]
 have h4:=pn_len (es.length:Int)
 have h5:=pn_len n
 have hA:([27,73,78,68,69,88,10,0]++[(es.length:Int)].flatMap pn).length≤28:=by
  simp [List.flatMap_cons];omega
 have k1:=app_list (l:=es) (fun s i=>((i:Int),s)) entB 30 ([27,73,78,68,69,88,10,0]++[(es.length:Int)].flatMap pn) (fun p _=>entB_len p) (b:=lp_Si_11 n es) (e1:=fun s=>s) (fun i s hi hs=>?_) (fun s=>?_)
 ·rw [show ((0:Nat):Int)=0 from rfl] at k1
  rw [k1]
  simp only [Option.bind_some,m_Si_23]
  have h1:=flat_len entB 30 es (fun p _=>entB_len p)
  rw [spec_put _ _ (by rw [List.length_append];omega) (by simp)]
  simp only [Option.bind_some]
  have e:([27,73,78,68,69,88,10,0]++[(es.length:Int)].flatMap pn++es.flatMap entB++[n].flatMap pn)=indexB es n:=by
   simp [indexB,markI,List.flatMap_cons]
  rw [e]
  refine spec_seal _ ?_
  rw [←e,List.length_append,List.length_append]
  simp [List.flatMap_cons] at hA ⊢
  simp [List.length_flatMap] at h1
  omega
 ·dsimp only [lp_Si_11,m_Si_11]
  rw [if_pos (by simpa using hi),rd_eq hi]
  simp only [Option.bind_some]
  rw [spec_put _ _ (by omega) (by simp)]
  simp only [Option.bind_some]
  rw [w64_succ (by omega)]
  simp [entB,List.flatMap_cons]
 ·dsimp only [lp_Si_11,m_Si_11]
  rw [if_neg (by simp)]
end Go.Proofs.V

namespace Go.Proofs.V
open Go
theorem fold2 {α:Type} (f:α→List Zd) (g:α→List Int) (l:List α) (a:List Zd) (c:List Int) :
  l.foldl (fun (s:List Zd×List Int) x=>(s.1++f x,s.2++g x)) (a,c)=(a++l.flatMap f,c++l.flatMap g):=by
 induction l generalizing a c with
 | nil=>simp
 | cons x l ih=>simp [ih]
def entK (a:Int) (p:Zb):List Zd:=if p.key then [Zd.mk p.track p.time a] else []
theorem entK_len (a:Int) (p:Zb):(entK a p).length≤1:=by unfold entK;split <;> simp
theorem impl_pk (p1:Int) (i46:Int) (l46:List Int) (l69 l69' : List Zb) (i2 i3:Int) (b:Zc) (l89:List Zd) (p:Zb) (acc:List Int) (h:acc.length≤35184372088832) :
  loopM (lp_Id_93 p1 i46 l46 l69 l69' i2 i3 b l89) (0,([p.track,p.time,p.span,keyN p,(p.data.length:Int)]:List Int),acc)=some (acc++pkB p):=by
 have:=app_list (l:=[p.track,p.time,p.span,keyN p,(p.data.length:Int)]) (fun s i=>((i:Int),[p.track,p.time,p.span,keyN p,(p.data.length:Int)],s)) pn 10 acc (fun x _=>pn_len x)
  (b:=lp_Id_93 p1 i46 l46 l69 l69' i2 i3 b l89) (e1:=fun s=>s) (fun i s hi hs=>?_) (fun s=>?_)
 ·rw [show ((0:Nat):Int)=0 from rfl] at this
  rw [this]
  simp [pkB,List.flatMap_cons]
 ·simp only [List.length_cons,List.length_nil] at hs
  dsimp only [lp_Id_93,m_Id_93]
  rw [if_pos (by have:i < 5:=hi;simp;omega),rd_eq hi]
  simp only [Option.bind_some]
  rw [impl_c1 _ _ (by omega),w64_succ (by have:i < 5:=hi;omega)]
  rfl
 ·dsimp only [lp_Id_93,m_Id_93]
  rw [if_neg (by simp)]
theorem impl_pks (p1:Int) (i46:Int) (l46:List Int) (b:Zc) (ps:List Zb) (hl:ps.length≤400) (es:List Zd) (he:es.length≤400) (acc:List Int) (h:acc.length≤17592186044416) :
  loopM (lp_Id_69 p1 i46 l46 b) (ps,ps,(ps.length:Int),0,es,acc)=some (ps,es++entsB l46.length ps,acc++ps.flatMap pkB):=by
 have:=fold_list (l:=ps) (fun (s:List Zd×List Int) i=>(ps,ps,(ps.length:Int),(i:Int),s.1,s.2)) (g:=fun s p=>(s.1++entK l46.length p,s.2++pkB p))
  (I:=fun i s=>s.1.length≤es.length+i∧s.2.length≤acc.length+50*i) (b:=lp_Id_69 p1 i46 l46 b) (e1:=fun s=>(ps,s.1,s.2)) (fun i s hi hI=>?_) (fun s hI=>?_) (es,acc) (by simp)
 ·rw [show ((0:Nat):Int)=0 from rfl] at this
  rw [this.1,fold2]
  rfl
 ·obtain ⟨s1,s2⟩ :=s
  simp only at hI ⊢
  have h1:=pkB_len ps[i]
  have h2:=entK_len l46.length ps[i]
  refine ⟨?_,by rw [List.length_append];omega,by rw [List.length_append];omega⟩
  dsimp only [lp_Id_69,m_Id_69]
  rw [if_pos (by simpa using hi),rd_eq hi]
  simp only [Option.bind_some]
  have k1:=fun l89=>impl_pk p1 i46 l46 ps ps (ps.length:Int) (i:Int) b l89 ps[i] s2 (by omega)
  cases hk:ps[i].key with
  | true=>
   rw [if_pos rfl,ck_eq (by rw [List.length_singleton];omega)]
   simp only [Option.bind_some,m_Id_89]
   have hkn:keyN ps[i]=1:=by simp [keyN,hk]
   have k2:=k1 (s1++[Zd.mk ps[i].track ps[i].time (l46.length:Int)])
   rw [hkn] at k2
   rw [k2]
   simp only [Option.bind_some,m_Id_105]
   rw [w64_succ (by omega)]
   simp [entK,hk]
  | false=>
   rw [if_neg (by simp)]
   simp only [m_Id_89]
   have hkn:keyN ps[i]=0:=by simp [keyN,hk]
   have k2:=k1 s1
   rw [hkn] at k2
   rw [k2]
   simp only [Option.bind_some,m_Id_105]
   rw [w64_succ (by omega)]
   simp [entK,hk]
 ·dsimp only [lp_Id_69,m_Id_69]
  rw [if_neg (by simp)]
theorem impl_data (p1:Int) (i46:Int) (l46:List Int) (b:Zc) (ps:List Zb) (hl:ps.length≤400) (hd:∀ p ∈ ps,p.data.length≤1048576) (es:List Zd) (acc:List Int) (h:acc.length≤17592186044416) :
  loopM (lp_Id_111 p1 i46 l46 ps b es) (0,acc)=some (acc++ps.flatMap (·.data)):=by
 refine app_list (l:=ps) (fun s i=>((i:Int),s)) (fun p:Zb=>p.data) 1048576 acc hd (b:=lp_Id_111 p1 i46 l46 ps b es) (e1:=fun s=>s) (fun i s hi hs=>?_) (fun s=>?_)
 ·have h5:=hd ps[i] (by simp)
  dsimp only [lp_Id_111,m_Id_111]
  rw [if_pos (by simpa using hi),rd_eq hi]
  simp only [Option.bind_some]
  rw [ck_eq (by omega),w64_succ (by omega)]
  rfl
 ·dsimp only [lp_Id_111,m_Id_111]
  rw [if_neg (by simp)]
theorem spec_ents (p1 i19 i35:Int) (b:Zc) (acc:List Int) (ps:List Zb) (hl:ps.length≤400) (es:List Zd) (he:es.length≤400) :
  loopM (lp_Sd_40 p1 i19 i35 b acc) (ps,(ps.length:Int),0,es)=some (es++entsB acc.length ps):=by
 have:=fold_list (l:=ps) (fun (s:List Zd) i=>(ps,(ps.length:Int),(i:Int),s)) (g:=fun s p=>s++entK acc.length p)
  (I:=fun i s=>s.length≤es.length+i) (b:=lp_Sd_40 p1 i19 i35 b acc) (e1:=fun s=>s) (fun i s hi hI=>?_) (fun s hI=>?_) es (by simp)
 ·rw [show ((0:Nat):Int)=0 from rfl] at this
  rw [this.1]
  have e:∀ (l:List Zb) (a:List Zd),l.foldl (fun s p=>s++entK acc.length p) a=a++entsB acc.length l:=by
   intro l
   induction l with
   | nil=>intro a;simp [entsB]
   | cons x l ih=>intro a;simp only [List.foldl_cons,ih];simp [entsB,entK]
  rw [e]
 ·have h2:=entK_len acc.length ps[i]
  refine ⟨?_,by rw [List.length_append];omega⟩
  dsimp only [lp_Sd_40,m_Sd_40]
  rw [if_pos (by simpa using hi),rd_eq hi]
  simp only [Option.bind_some]
  cases hk:ps[i].key with
  | true=>
   rw [if_pos rfl,ck_eq (by rw [List.length_singleton];omega)]
   simp only [Option.bind_some]
   rw [w64_succ (by omega)]
   simp [entK,hk]
  | false=>
   rw [if_neg (by simp),w64_succ (by omega)]
   simp [entK,hk]
 ·dsimp only [lp_Sd_40,m_Sd_40]
  rw [if_neg (by simp)]
theorem impl_ix (acc:List Int) (es:List Zd) (hl:es.length≤400) (h:acc.length≤17592186044416) :
  m_Id_125 es acc=if decide (((acc++sealL (indexB es acc.length)).length:Int) > 120000) then some [] else some (acc++sealL (indexB es acc.length)):=by
 unfold m_Id_125
 have em:bl (ByteArray.mk #[27,73,78,68,69,88,10,0])=markI:=rfl
 rw [em,ck_eq (by simp [markI];omega)]
 simp only [Option.bind_some]
 rw [impl_c1 _ _ (by rw [List.length_append];simp [markI];omega)]
 simp only [Option.bind_some]
 have h4:=pn_len (es.length:Int)
 have hA:(acc++markI++pn (es.length:Int)).length≤acc.length+18:=by
  simp only [List.length_append,markI,List.length_cons,List.length_nil];omega
 have k1:=app_list (l:=es) (fun s i=>((i:Int),s)) entB 30 (acc++markI++pn (es.length:Int)) (fun p _=>entB_len p) (b:=lp_Id_136 acc es) (e1:=fun s=>s) (fun i s hi hs=>?_) (fun s=>?_)
 ·rw [show ((0:Nat):Int)=0 from rfl] at k1
  rw [k1]
  have h1:=flat_len entB 30 es (fun p _=>entB_len p)
  simp only [Option.bind_some,m_Id_152]
  rw [impl_c1 _ _ (by rw [List.length_append];omega)]
  simp only [Option.bind_some]
  have e:(acc++markI++pn (es.length:Int)++es.flatMap entB)++pn (acc.length:Int)=acc++indexB es acc.length:=by
   simp [indexB]
  have h5:=pn_len (acc.length:Int)
  rw [e,impl_c2 _ _ (by
   have:=congrArg List.length e
   simp only [List.length_append] at this hA
   omega)]
  rfl
 ·have q1:=pn_len es[i].track
  have q2:=pn_len es[i].time
  dsimp only [lp_Id_136,m_Id_136]
  rw [if_pos (by simpa using hi),rd_eq hi]
  simp only [Option.bind_some]
  rw [impl_c1 _ _ (by omega)]
  simp only [Option.bind_some]
  rw [impl_c1 _ _ (by rw [List.length_append];omega)]
  simp only [Option.bind_some]
  rw [impl_c1 _ _ (by rw [List.length_append,List.length_append];omega)]
  simp only [Option.bind_some]
  rw [w64_succ (by omega)]
  simp [entB]
 ·dsimp only [lp_Id_136,m_Id_136]
  rw [if_neg (by simp)]
end Go.Proofs.V

set_option linter.unusedSectionVars false
namespace Go.Proofs.V
open Go
theorem loop_all {b:Int→Option (Int⊕(Bool⊕Unit))} (n:Nat) (q:Nat→Bool) (i0:Nat) (step:∀ i:Nat,i0≤i→i < n→b (i:Int)=some (if q i then .inl (((i+1:Nat)):Int) else .inr (.inl false)))
  (done:∀ i:Nat,n≤i→i≤n+i0→b (i:Int)=some (.inr (.inr ()))):loopM b (i0:Int)=some (if (List.range' i0 (n - i0)).all q then .inr () else .inl false):=by
 have key:∀ (d i:Nat),n - i=d→i0≤i→i≤n+i0→loopM b (i:Int)=some (if (List.range' i (n - i)).all q then .inr () else .inl false):=by
  intro d
  induction d with
  | zero=>
   intro i hd h0 h1
   rw [loopM_eq,done i (by omega) h1,hd]
   rfl
  | succ d ih=>
   intro i hd h0 h1
   rw [loopM_eq,step i h0 (by omega),show n - i=(n - (i+1))+1 by omega,List.range'_succ,List.all_cons]
   cases hq:q i with
   | true=>
    simp only [if_true,Bool.true_and]
    exact ih (i+1) (by omega) (by omega) (by omega)
   | false=>simp
 exact key _ i0 rfl (Nat.le_refl _) (by omega)
def bytesOk (s:ByteArray):Bool:=s.data.toList.all fun b=>decide (32≤b.toNat)&&decide (b.toNat≤126)
def trackOk (t:Za):Bool:=decide (1≤t.kind∧t.kind≤6∧1≤t.scale∧t.scale≤1000000∧t.name.size≤40)&&bytesOk t.name
theorem sat_eq {s:ByteArray} {i:Nat} (h:i < s.data.toList.length):sat s (i:Int)=some ((s.data.toList[i].toNat:Nat):Int):=by
 unfold sat
 rw [if_pos (by omega),Int.toNat_natCast]
 have h' : i < s.size:=by simpa using h
 rw [getElem?_pos s i h']
 rfl
theorem size_toList (s:ByteArray):s.data.toList.length=s.size:=Array.length_toList
theorem bytes_loop {s:ByteArray} {b:Int→Option (Int⊕(Bool⊕Unit))} (hs:s.size < 4611686018427387904) (h:∀ i:Int,b i=if (decide (i < (s.size:Int))) then (sat s i).bind fun x=>if (decide (x < 32)) then some (.inr (.inl false)) else if (decide (x > 126)) then some (.inr (.inl false)) else some (.inl (w64 (i+1))) else some (.inr (.inr ()))) :
  loopM b 0=some (bif bytesOk s then .inr () else .inl false):=by
 have hl:=size_toList s
 refine all_list (l:=s.data.toList) (q:=fun b=>decide (32≤b.toNat)&&decide (b.toNat≤126)) (by omega) (fun i hi=>?_) ?_
 ·rw [h,if_pos (by rw [←hl];simpa using hi),sat_eq hi]
  simp only [Option.bind_some]
  rw [w64_succ (by omega)]
  generalize s.data.toList[i].toNat=x
  by_cases h1:x < 32
  ·rw [if_pos (by simp;omega),if_neg (by simp;omega)]
  ·rw [if_neg (by simp;omega)]
   by_cases h2:x > 126
   ·rw [if_pos (by simp;omega),if_neg (by simp;omega)]
   ·rw [if_neg (by simp;omega),if_pos (by simp;omega)]
 ·rw [h,if_neg (by rw [hl];simp)]
theorem spec_track (t:Za) (h:t.name.size < 4611686018427387904):m_Sp t=some (trackOk t):=by
 simp only [m_Sp,m_Sp_0,m_Sf,m_Sf_0]
 rw [bytes_loop (b:=lp_Sf_7 t.name) h (fun i=>rfl)]
 unfold trackOk
 by_cases h1:1≤t.kind
 ·rw [if_pos (by simpa using h1)]
  by_cases h2:t.kind≤6
  ·rw [if_pos (by simpa using h2)]
   by_cases h3:1≤t.scale
   ·rw [if_pos (by simpa using h3)]
    by_cases h4:t.scale≤1000000
    ·rw [if_pos (by simpa using h4)]
     by_cases h5:t.name.size≤40
     ·rw [if_pos (by simp;omega)]
      cases bytesOk t.name <;> simp [h1,h2,h3,h4,h5,m_Sf_23]
     ·rw [if_neg (by simp;omega)];simp [h5]
    ·rw [if_neg (by simpa using h4)];simp [h4]
   ·rw [if_neg (by simpa using h3)];simp [h3]
  ·rw [if_neg (by simpa using h2)];simp [h2]
 ·rw [if_neg (by simpa using h1)];simp [h1]
theorem impl_track (t:Za) (h:t.name.size < 4611686018427387904):m_Ik t=some (trackOk t):=by
 simp only [m_Ik,m_Ik_0]
 rw [bytes_loop (b:=lp_Ik_15 t) h (fun i=>rfl)]
 unfold trackOk
 by_cases h1:1≤t.kind
 ·rw [if_neg (by simp;omega)]
  by_cases h2:t.kind≤6
  ·rw [if_neg (by simp;omega)]
   by_cases h3:1≤t.scale
   ·rw [if_neg (by simp;omega)]
    by_cases h4:t.scale≤1000000
    ·rw [if_neg (by simp;omega)]
     by_cases h5:t.name.size≤40
     ·rw [if_neg (by simp;omega)]
      cases bytesOk t.name <;> simp [h1,h2,h3,h4,h5,m_Ik_33]
     ·rw [if_pos (by simp;omega)];simp [h5]
    ·rw [if_pos (by simp;omega)];simp [h4]
   ·rw [if_pos (by simp;omega)];simp [h3]
  ·rw [if_pos (by simp;omega)];simp [h2]
 ·rw [if_pos (by simp;omega)];simp [h1]
def SmT (l:List Za):Prop:=l.length≤1048576∧∀ t ∈ l,t.name.size≤1048576
def SmB (b:Zc):Prop:=SmT b.tracks∧b.packets.length≤1048576∧∀ p ∈ b.packets,p.data.length≤1048576
def tracksOk (l:List Za):Bool:=l.all trackOk&&decide (1≤l.length∧l.length≤8)
theorem spec_tracks (l:List Za) (h:SmT l):m_Sq l=some (tracksOk l):=by
 simp only [m_Sq,m_Sq_0]
 have:=all_list (l:=l) (q:=trackOk) (b:=lp_Sq_7 l) (by have:=h.1;omega) (fun i hi=>by
  have hx:=h.2 l[i] (by simp)
  have h1:=h.1
  simp only [lp_Sq_7,m_Sq_7]
  rw [if_pos (by simp;omega),rd_eq hi]
  simp only [Option.bind_some]
  rw [spec_track _ (by omega)]
  simp only [Option.bind_some]
  rw [w64_succ (by omega)]) (by simp [lp_Sq_7,m_Sq_7])
 rw [this]
 unfold tracksOk
 cases l.all trackOk with
 | false=>rfl
 | true=>
  simp only [cond_true,Option.bind_some,m_Sq_25,Bool.true_and]
  by_cases h1:1≤l.length
  ·rw [if_pos (by simp;omega)]
   by_cases h2:l.length≤8
   ·simp [h1,h2];omega
   ·simp [h1,h2];omega
  ·rw [if_neg (by simp;omega)];simp [h1]
def ticksOk (n:Int):Bool:=decide (0≤n∧n≤1000000000)
theorem spec_ticks (n:Int):m_So n=some (ticksOk n):=by
 simp only [m_So,m_So_0,ticksOk]
 by_cases h:0≤n
 ·rw [if_pos (by simpa using h)];simp [h]
 ·rw [if_neg (by simpa using h)];simp [h]
theorem impl_ticks (n:Int):m_Ij n=some (ticksOk n):=spec_ticks n
def pkOk (nt:Nat) (last:List Int) (p:Zb):Bool:=
 decide (0≤p.track∧p.track < nt)&&ticksOk p.time&&ticksOk p.span&&decide (last.getD p.track.toNat 0≤p.time)&&(decide (0≤last.getD p.track.toNat 0)||p.key)
def pkAll (nt:Nat):List Zb→List Int→Nat→Option Nat
 | [],_,sum=>some sum
 | p::ps,last,sum=>if pkOk nt last p then pkAll nt ps (last.set p.track.toNat p.time) (sum+p.data.length) else none
def rightOk (b:Zc):Bool:=
 tracksOk b.tracks&&decide (b.packets.length≤400)&&(match pkAll b.tracks.length b.packets (List.replicate b.tracks.length (-1)) 0 with | some n=>decide (n≤60000) | none=>false)
theorem pkAll_mono (nt:Nat):∀ (l:List Zb) (last:List Int) (s n:Nat),pkAll nt l last s=some n→s≤n
 | [],last,s,n,h=>by simp [pkAll] at h;omega
 | p::ps,last,s,n,h=>by
  simp only [pkAll] at h
  split at h
  ·have:=pkAll_mono nt ps _ _ _ h;omega
  ·simp at h
section
variable {b:Zc} (hb:SmB b) (hn:b.packets.length≤400)
include hb hn
theorem pk_step {X:Type} (i:Nat) (hi:i < b.packets.length) (last:List Int) (hl:last.length=b.tracks.length) (tk:Int→Option Bool) (htk:∀ n,tk n=some (ticksOk n)) (no:Option X) (go:Option X) :
  (if (decide (b.packets[i].track < 0)) then no else if (decide (b.packets[i].track≥(b.tracks.length:Int))) then no else
   (tk b.packets[i].time).bind fun x4=>if x4 then (tk b.packets[i].span).bind fun x6=>if x6 then (rd last b.packets[i].track).bind fun x8=>
    if (decide (b.packets[i].time < x8)) then no else if (decide (x8 < 0)) then (if b.packets[i].key then go else no) else go else no else no)=if pkOk b.tracks.length last b.packets[i] then go else no:=by
 unfold pkOk
 by_cases h1:b.packets[i].track < 0
 ·rw [if_pos (by simpa using h1),if_neg (by simp;omega)]
 ·rw [if_neg (by simpa using h1)]
  by_cases h2:b.packets[i].track≥(b.tracks.length:Int)
  ·rw [if_pos (by simpa using h2),if_neg (by simp;omega)]
  ·rw [if_neg (by simpa using h2),htk]
   simp only [Option.bind_some]
   obtain ⟨k,hk⟩:∃ k:Nat,b.packets[i].track=k:=⟨b.packets[i].track.toNat,by omega⟩
   cases h3:ticksOk b.packets[i].time with
   | false=>simp
   | true=>
    simp only [if_true]
    rw [htk]
    simp only [Option.bind_some]
    cases h4:ticksOk b.packets[i].span with
    | false=>simp
    | true=>
     simp only [if_true]
     rw [hk,rd_d 0 (by omega)]
     simp only [Option.bind_some,Int.toNat_natCast]
     by_cases h5:b.packets[i].time < last.getD k 0
     ·rw [if_pos (by simpa only [decide_eq_true_eq] using h5),if_neg (fun hh=>by simp only [Bool.and_eq_true,decide_eq_true_eq] at hh;omega)]
     ·rw [if_neg (by simpa only [decide_eq_true_eq] using h5)]
      by_cases h6:last.getD k 0 < 0
      ·rw [if_pos (by simpa only [decide_eq_true_eq] using h6)]
       cases b.packets[i].key with
       | true=>simp only [if_true];rw [if_pos (by simp only [Bool.and_eq_true,decide_eq_true_eq,Bool.or_true,and_true];omega)]
       | false=>simp only [Bool.false_eq_true,if_false];rw [if_neg (fun hh=>by simp only [Bool.and_eq_true,decide_eq_true_eq,Bool.or_false] at hh;omega)]
      ·rw [if_neg (by simpa only [decide_eq_true_eq] using h6),if_pos (by simp only [Bool.and_eq_true,decide_eq_true_eq,Bool.or_eq_true,and_true];refine ⟨⟨by omega,by omega⟩,.inl (by omega)⟩)]
theorem spec_walk:∀ (d i:Nat) (last:List Int) (sum:Nat),i+d=b.packets.length→last.length=b.tracks.length→sum≤i*1048576→sum≤60000→
  loopM (lp_Sn_36 b) ((sum:Int),(i:Int),last)=some (match pkAll b.tracks.length (b.packets.drop i) last sum with | some n=>if n≤60000 then .inr () else .inl false | none=>.inl false):=by
 intro d
 induction d with
 | zero=>
  intro i last sum hi hl hs hs2
  have:i=b.packets.length:=by omega
  subst this
  rw [loopM_eq]
  simp only [lp_Sn_36,m_Sn_36]
  rw [if_neg (by simp),List.drop_length]
  simp [pkAll,hs2]
 | succ d ih=>
  intro i last sum hi hl hs hs2
  have hlt:i < b.packets.length:=by omega
  have hdl:=hb.2.2 b.packets[i] (by simp)
  rw [loopM_eq]
  simp only [lp_Sn_36,m_Sn_36]
  rw [if_pos (by simp;omega),rd_eq hlt]
  simp only [Option.bind_some]
  have hstep:=pk_step hb hn i hlt last hl m_So spec_ticks (some (.inr (.inl false))) (m_Sn_62 (sum:Int) b (i:Int) b.packets[i] last)
  rw [hstep,List.drop_eq_getElem_cons hlt]
  simp only [pkAll]
  cases hok:pkOk b.tracks.length last b.packets[i] with
  | false=>simp
  | true=>
   simp only [if_true]
   have htr:0≤b.packets[i].track∧b.packets[i].track < b.tracks.length:=by
    simp only [pkOk,Bool.and_eq_true,decide_eq_true_eq] at hok
    exact hok.1.1.1.1
   obtain ⟨k,hk⟩:∃ k:Nat,b.packets[i].track=k:=⟨b.packets[i].track.toNat,by omega⟩
   simp only [m_Sn_62]
   rw [hk,rd_d 0 (by omega)]
   simp only [Option.bind_some,Int.toNat_natCast,Nat.zero_add]
   have e1:w64 ((sum:Int)+(b.packets[i].data.length:Int))=((sum+b.packets[i].data.length:Nat):Int):=by rw [w64_id (by omega) (by omega)];omega
   rw [e1,w64_succ (by omega)]
   by_cases hbig:sum+b.packets[i].data.length > 60000
   ·rw [if_pos (by simp;omega)]
    simp only
    cases hp:pkAll b.tracks.length (b.packets.drop (i+1)) (last.set k b.packets[i].time) (sum+b.packets[i].data.length) with
    | none=>rfl
    | some n=>
     have:=pkAll_mono _ _ _ _ _ hp
     simp only
     rw [if_neg (by omega)]
   ·rw [if_neg (by simp;omega)]
    simp only
    exact ih (i+1) _ _ (by omega) (by simpa using hl) (by rw [Nat.succ_mul];omega) (by omega)
theorem impl_walk:∀ (d i:Nat) (last:List Int) (sum:Nat),i+d=b.packets.length→last.length=b.tracks.length→sum≤i*1048576→
  loopM (lp_Ii_59 b) ((sum:Int),(i:Int),last)=some (match pkAll b.tracks.length (b.packets.drop i) last sum with | some n=>.inr (n:Int) | none=>.inl false):=by
 intro d
 induction d with
 | zero=>
  intro i last sum hi hl hs
  have:i=b.packets.length:=by omega
  subst this
  rw [loopM_eq]
  simp only [lp_Ii_59,m_Ii_59]
  rw [if_neg (by simp),List.drop_length]
  simp [pkAll]
 | succ d ih=>
  intro i last sum hi hl hs
  have hlt:i < b.packets.length:=by omega
  have hdl:=hb.2.2 b.packets[i] (by simp)
  rw [loopM_eq]
  simp only [lp_Ii_59,m_Ii_59]
  rw [if_pos (by simp;omega),rd_eq hlt]
  simp only [Option.bind_some]
  have hstep:=pk_step hb hn i hlt last hl m_Ij impl_ticks (some (.inr (.inl false))) (m_Ii_77 (sum:Int) b (i:Int) b.packets[i] last)
  rw [hstep,List.drop_eq_getElem_cons hlt]
  simp only [pkAll]
  cases hok:pkOk b.tracks.length last b.packets[i] with
  | false=>simp
  | true=>
   simp only [if_true]
   have htr:0≤b.packets[i].track∧b.packets[i].track < b.tracks.length:=by
    simp only [pkOk,Bool.and_eq_true,decide_eq_true_eq] at hok
    exact hok.1.1.1.1
   obtain ⟨k,hk⟩:∃ k:Nat,b.packets[i].track=k:=⟨b.packets[i].track.toNat,by omega⟩
   simp only [m_Ii_77]
   rw [hk,rd_d 0 (by omega)]
   simp only [Option.bind_some,Int.toNat_natCast,Nat.zero_add]
   have e1:w64 ((sum:Int)+(b.packets[i].data.length:Int))=((sum+b.packets[i].data.length:Nat):Int):=by rw [w64_id (by omega) (by omega)];omega
   rw [e1,w64_succ (by omega)]
   exact ih (i+1) _ _ (by omega) (by simpa using hl) (by rw [Nat.succ_mul];omega)
end
theorem spec_right (b:Zc) (hb:SmB b):m_Sn b=some (rightOk b):=by
 simp only [m_Sn,m_Sn_0]
 rw [spec_tracks _ hb.1]
 simp only [Option.bind_some]
 unfold rightOk
 have ht:=hb.1.1
 cases tracksOk b.tracks with
 | false=>rfl
 | true=>
  simp only [if_true,Bool.true_and]
  by_cases hn:b.packets.length≤400
  ·rw [if_neg (by simp;omega),ck_eq (by omega)]
   simp only [Option.bind_some,Int.toNat_natCast]
   rw [replicate_filled (v:=-1) b.tracks.length (by omega) (fun i l hi hl=>by
    simp only [lp_Sn_17,m_Sn_17]
    rw [if_pos (by simp;omega),rd_d 0 (by omega)]
    simp only [Option.bind_some]
    rw [w64_succ (by omega)]) (fun l=>by simp [lp_Sn_17,m_Sn_17])]
   simp only [Option.bind_some,m_Sn_29]
   have:=spec_walk hb hn b.packets.length 0 (List.replicate b.tracks.length (-1)) 0 (by omega) (by simp) (by omega) (by omega)
   rw [show ((0:Nat):Int)=0 from rfl,List.drop_zero] at this
   rw [this]
   simp only [Option.bind_some]
   cases pkAll b.tracks.length b.packets (List.replicate b.tracks.length (-1)) 0 with
   | none=>simp [hn]
   | some n=>
    simp only [hn,decide_true,Bool.true_and]
    by_cases h2:n≤60000
    ·rw [if_pos h2];simp [h2,m_Sn_74]
    ·rw [if_neg h2];simp [h2]
  ·rw [if_pos (by simp;omega)];simp [hn]
theorem impl_right (b:Zc) (hb:SmB b):m_Ii b=some (rightOk b):=by
 simp only [m_Ii,m_Ii_0]
 have ht:=hb.1.1
 unfold rightOk tracksOk
 by_cases h1:1≤b.tracks.length
 ·rw [if_neg (by simp;omega)]
  by_cases h8:b.tracks.length≤8
  ·rw [if_neg (by simp;omega)]
   by_cases hn:b.packets.length≤400
   ·rw [if_neg (by simp;omega)]
    have:=all_list (l:=b.tracks) (q:=trackOk) (b:=lp_Ii_15 b) (by omega) (fun i hi=>by
     have hx:=hb.1.2 b.tracks[i] (by simp)
     simp only [lp_Ii_15,m_Ii_15]
     rw [if_pos (by simp;omega),rd_eq hi]
     simp only [Option.bind_some]
     rw [impl_track _ (by omega)]
     simp only [Option.bind_some]
     rw [w64_succ (by omega)]) (by simp [lp_Ii_15,m_Ii_15])
    rw [this]
    cases b.tracks.all trackOk with
    | false=>simp
    | true=>
     simp only [cond_true,Option.bind_some,m_Ii_33,Bool.true_and]
     rw [ck_eq (by omega)]
     simp only [Option.bind_some,Int.toNat_natCast]
     rw [replicate_filled (v:=-1) b.tracks.length (by omega) (fun i l hi hl=>by
      simp only [lp_Ii_42,m_Ii_42]
      rw [if_pos (by simp;omega),rd_d 0 (by omega)]
      simp only [Option.bind_some]
      rw [w64_succ (by omega)]) (fun l=>by simp [lp_Ii_42,m_Ii_42])]
     simp only [Option.bind_some,m_Ii_54]
     have:=impl_walk hb hn b.packets.length 0 (List.replicate b.tracks.length (-1)) 0 (by omega) (by simp) (by omega)
     rw [show ((0:Nat):Int)=0 from rfl,List.drop_zero] at this
     rw [this]
     simp only [Option.bind_some]
     cases pkAll b.tracks.length b.packets (List.replicate b.tracks.length (-1)) 0 with
     | none=>simp
     | some n=>simp [hn,h1,h8,m_Ii_81];omega
   ·rw [if_pos (by simp;omega)];simp [hn]
  ·rw [if_pos (by simp;omega)];simp [h8]
 ·rw [if_pos (by simp;omega)];simp [h1]
def pkAt (b:Zc) (i:Nat):Zb:=b.packets.getD i default
def scAt (b:Zc) (t:Int):Int:=(b.tracks.getD t.toNat default).scale
def earl (b:Zc) (i j:Nat):Bool:=
 if (pkAt b i).time*scAt b (pkAt b j).track≠(pkAt b j).time*scAt b (pkAt b i).track then decide ((pkAt b i).time*scAt b (pkAt b j).track < (pkAt b j).time*scAt b (pkAt b i).track)
 else if (pkAt b i).track≠(pkAt b j).track then decide ((pkAt b i).track < (pkAt b j).track) else decide (i < j)
def goodOk (b:Zc):Bool:=rightOk b&&(List.range' 1 (b.packets.length - 1)).all fun i=>earl b (i - 1) i
theorem ord_anti (A B t u:Int) (i j:Nat) (h:i≠j):(if B≠A then decide (B < A) else if u≠t then decide (u < t) else decide (j < i)) = !(if A≠B then decide (A < B) else if t≠u then decide (t < u) else decide (i < j)):=by
 by_cases h1:A=B
 ·subst h1
  simp only [ne_eq,not_true_eq_false,if_false]
  by_cases h2:t=u
  ·subst h2
   simp only [not_true_eq_false,if_false]
   by_cases h3:i < j
   ·simp only [h3,decide_true,Bool.not_true,decide_eq_false_iff_not];omega
   ·simp only [h3,decide_false,Bool.not_false,decide_eq_true_eq];omega
  ·simp only [h2,Ne.symm h2,not_false_eq_true,if_true,eq_comm (a:=u)]
   by_cases h3:t < u
   ·simp only [h3,decide_true,Bool.not_true,decide_eq_false_iff_not];omega
   ·simp only [h3,decide_false,Bool.not_false,decide_eq_true_eq];omega
 ·have h1' : ¬ B=A:=fun e=>h1 e.symm
  simp only [ne_eq,h1,h1',not_false_eq_true,if_true]
  by_cases h3:A < B
  ·simp only [h3,decide_true,Bool.not_true,decide_eq_false_iff_not];omega
  ·simp only [h3,decide_false,Bool.not_false,decide_eq_true_eq];omega
theorem ord_bne (A B t u:Int) (i j:Nat):(if (A != B) then some (decide (A < B)) else if (t != u) then some (decide (t < u)) else some (decide ((i:Int) < (j:Int))))=some (if A≠B then decide (A < B) else if t≠u then decide (t < u) else decide (i < j)):=by
 by_cases h1:A=B
 ·subst h1
  simp only [bne_self_eq_false,Bool.false_eq_true,if_false,ne_eq,not_true_eq_false]
  by_cases h2:t=u
  ·subst h2
   simp only [bne_self_eq_false,Bool.false_eq_true,if_false,ne_eq,not_true_eq_false,Int.ofNat_lt]
  ·simp only [bne_iff_ne,ne_eq,h2,not_false_eq_true,if_true]
 ·simp only [bne_iff_ne,ne_eq,h1,not_false_eq_true,if_true]
theorem earl_anti (b:Zc) {i j:Nat} (h:i≠j):earl b j i = !(earl b i j):=ord_anti _ _ _ _ i j h
structure RightF (b:Zc):Prop where
 nt:1≤b.tracks.length∧b.tracks.length≤8
 np:b.packets.length≤400
 tr:∀ t ∈ b.tracks,trackOk t=true
 sum:∃ n,pkAll b.tracks.length b.packets (List.replicate b.tracks.length (-1)) 0=some n∧n≤60000
theorem right_facts {b:Zc} (h:rightOk b=true):RightF b:=by
 unfold rightOk tracksOk at h
 simp only [Bool.and_eq_true,decide_eq_true_eq,List.all_eq_true] at h
 obtain ⟨⟨⟨h1,h2⟩,h3⟩,h4⟩ :=h
 refine ⟨h2,h3,h1,?_⟩
 cases hp:pkAll b.tracks.length b.packets (List.replicate b.tracks.length (-1)) 0 with
 | none=>rw [hp] at h4;simp at h4
 | some n=>rw [hp] at h4;exact ⟨n,rfl,by simpa using h4⟩
theorem facts_right {b:Zc} (h:RightF b):rightOk b=true:=by
 unfold rightOk tracksOk
 obtain ⟨n,h1,h2⟩ :=h.sum
 simp only [Bool.and_eq_true,decide_eq_true_eq,List.all_eq_true]
 exact ⟨⟨⟨h.tr,h.nt⟩,h.np⟩,by rw [h1];simpa using h2⟩
theorem pkAll_range (nt:Nat):∀ (l:List Zb) (last:List Int) (s n:Nat),pkAll nt l last s=some n→∀ p ∈ l,(0≤p.track∧p.track < nt)∧(0≤p.time∧p.time≤1000000000)∧(0≤p.span∧p.span≤1000000000)
 | [],last,s,n,h,p,hp=>by simp at hp
 | q::ps,last,s,n,h,p,hp=>by
  simp only [pkAll] at h
  split at h
  ·rename_i hok
   simp only [pkOk,ticksOk,Bool.and_eq_true,decide_eq_true_eq] at hok
   rcases List.mem_cons.1 hp with rfl | hp
   ·exact ⟨hok.1.1.1.1,hok.1.1.1.2,hok.1.1.2⟩
   ·exact pkAll_range nt ps _ _ _ h p hp
  ·simp at h
theorem RightF.pk {b:Zc} (h:RightF b) {i:Nat} (hi:i < b.packets.length):(0≤(pkAt b i).track∧(pkAt b i).track < b.tracks.length)∧(0≤(pkAt b i).time∧(pkAt b i).time≤1000000000)∧(0≤(pkAt b i).span∧(pkAt b i).span≤1000000000):=by
 obtain ⟨n,h1,_⟩ :=h.sum
 refine pkAll_range _ _ _ _ _ h1 _ ?_
 unfold pkAt
 rw [List.getD_eq_getElem?_getD,List.getElem?_eq_getElem hi]
 simp
theorem RightF.sc {b:Zc} (h:RightF b) {t:Int} (h0:0≤t) (h1:t < b.tracks.length):1≤scAt b t∧scAt b t≤1000000:=by
 unfold scAt
 have hl:t.toNat < b.tracks.length:=by omega
 have:=h.tr b.tracks[t.toNat] (by simp)
 rw [List.getD_eq_getElem?_getD,List.getElem?_eq_getElem hl]
 simp only [trackOk,Bool.and_eq_true,decide_eq_true_eq] at this
 exact ⟨this.1.2.2.1,this.1.2.2.2.1⟩
theorem rd_pk {b:Zc} {i:Nat} (hi:i < b.packets.length):rd b.packets (i:Int)=some (pkAt b i):=rd_d default hi
theorem rd_tr {b:Zc} {t:Int} (h0:0≤t) (h1:t < b.tracks.length):∃ x,rd b.tracks t=some x∧x.scale=scAt b t∧x=b.tracks.getD t.toNat default:=by
 obtain ⟨k,rfl⟩:∃ k:Nat,t=k:=⟨t.toNat,by omega⟩
 refine ⟨b.tracks.getD k default,rd_d default (by omega),?_,?_⟩
 ·simp [scAt]
 ·simp
theorem mul_bound {x y:Int} (h1:0≤x) (h2:x≤1000000000) (h3:0≤y) (h4:y≤1000000):0≤x*y∧x*y≤1000000000000000:=by
 refine ⟨Int.mul_nonneg h1 h3,?_⟩
 have:x*y≤1000000000*1000000:=Int.mul_le_mul h2 h4 h3 (by omega)
 omega
theorem earl_eq {b:Zc} (h:RightF b) {i j:Nat} (hi:i < b.packets.length) (hj:j < b.packets.length) {f:Zc→Int→Int→Option Bool}
  (hf:∀ p0 p1 p2,f p0 p1 p2=(rd p0.packets p1).bind fun x0_0=>(rd p0.packets p2).bind fun x0_1=>(rd p0.tracks x0_1.track).bind fun x0_2=>(rd p0.tracks x0_0.track).bind fun x0_3=>
   if ((w64 (x0_0.time*x0_2.scale)) != (w64 (x0_1.time*x0_3.scale))) then some (decide ((w64 (x0_0.time*x0_2.scale)) < (w64 (x0_1.time*x0_3.scale))))
   else if (x0_0.track != x0_1.track) then some (decide (x0_0.track < x0_1.track)) else some (decide (p1 < p2))):f b i j=some (earl b i j):=by
 obtain ⟨a1,a2,_⟩ :=h.pk hi
 obtain ⟨b1,b2,_⟩ :=h.pk hj
 obtain ⟨x2,r2,e2,_⟩ :=rd_tr b1.1 b1.2
 obtain ⟨x3,r3,e3,_⟩ :=rd_tr a1.1 a1.2
 have s2:=h.sc b1.1 b1.2
 have s3:=h.sc a1.1 a1.2
 rw [hf,rd_pk hi]
 simp only [Option.bind_some]
 rw [rd_pk hj]
 simp only [Option.bind_some]
 rw [r2]
 simp only [Option.bind_some]
 rw [r3]
 simp only [Option.bind_some]
 rw [e2,e3]
 have m1:=mul_bound a2.1 a2.2 (y:=scAt b (pkAt b j).track) (by omega) s2.2
 have m2:=mul_bound b2.1 b2.2 (y:=scAt b (pkAt b i).track) (by omega) s3.2
 rw [w64_id (by omega) (by omega),w64_id (by omega) (by omega)]
 exact ord_bne _ _ _ _ i j
theorem spec_good (b:Zc) (hb:SmB b):m_Sb b=some (goodOk b):=by
 simp only [m_Sb,m_Sb_0]
 rw [spec_right b hb]
 simp only [Option.bind_some]
 unfold goodOk
 cases hr:rightOk b with
 | false=>rfl
 | true=>
  have h:=right_facts hr
  have hnp:=h.np
  simp only [if_true,Bool.true_and]
  have:=loop_all (b:=lp_Sb_15 b) b.packets.length (fun i=>earl b (i - 1) i) 1 (fun i h1 h2=>by
   simp only [lp_Sb_15,m_Sb_15]
   rw [if_pos (by simp;omega),show w64 ((i:Int) - 1)=((i - 1:Nat):Int) by rw [w64_id (by omega) (by omega)];omega,
    earl_eq h (f:=m_Sg) (i:=i - 1) (j:=i) (by omega) h2 (fun _ _ _=>rfl)]
   simp only [Option.bind_some]
   rw [w64_succ (by omega)]
   cases earl b (i - 1) i <;> rfl) (fun i h1 h2=>by
   simp only [lp_Sb_15,m_Sb_15]
   rw [if_neg (by simp;omega)])
  rw [show ((1:Nat):Int)=1 from rfl] at this
  rw [this]
  cases (List.range' 1 (b.packets.length - 1)).all fun i=>earl b (i - 1) i <;> rfl
theorem impl_good (b:Zc) (hb:SmB b):m_Ib b=some (goodOk b):=by
 simp only [m_Ib,m_Ib_0]
 rw [impl_right b hb]
 simp only [Option.bind_some]
 unfold goodOk
 cases hr:rightOk b with
 | false=>rfl
 | true=>
  have h:=right_facts hr
  have hnp:=h.np
  simp only [if_true,Bool.true_and]
  have:=loop_all (b:=lp_Ib_15 b) b.packets.length (fun i=>earl b (i - 1) i) 1 (fun i h1 h2=>by
   simp only [lp_Ib_15,m_Ib_15]
   rw [if_pos (by simp;omega),show w64 ((i:Int) - 1)=((i - 1:Nat):Int) by rw [w64_id (by omega) (by omega)];omega,
    earl_eq h (f:=m_Ig) (i:=i) (j:=i - 1) h2 (by omega) (fun _ _ _=>rfl)]
   simp only [Option.bind_some]
   rw [w64_succ (by omega),earl_anti b (i:=i - 1) (j:=i) (by omega)]
   cases earl b (i - 1) i <;> rfl) (fun i h1 h2=>by
   simp only [lp_Ib_15,m_Ib_15]
   rw [if_neg (by simp;omega)])
  rw [show ((1:Nat):Int)=1 from rfl] at this
  rw [this]
  cases (List.range' 1 (b.packets.length - 1)).all fun i=>earl b (i - 1) i <;> rfl
end Go.Proofs.V

namespace Go.Proofs.V
open Go
def chunkB (ps:List Zb) (q i:Nat):List Zb:=(ps.take (min (i+q) ps.length)).drop i
theorem chunk_len (ps:List Zb) (q i:Nat):(chunkB ps q i).length=min (i+q) ps.length - i:=by
 simp [chunkB]
theorem chunk_mem {ps:List Zb} {q i:Nat} {p:Zb} (h:p ∈ chunkB ps q i):p ∈ ps:=List.mem_of_mem_take (List.mem_of_mem_drop h)
def pieceS (ps:List Zb) (q i:Nat):List Int:=sealL (pieceB (w64 (Int.tdiv (i:Int) (q:Int))) (chunkB ps q i))
def wbGo (ps:List Zb) (q:Nat):Nat→Nat→List Int→List Zd→List Int×List Zd
 | 0,_,acc,es=>(acc,es)
 | d+1,i,acc,es=>if i < ps.length then wbGo ps q d (i+q) (acc++pieceS ps q i) (es++entsB acc.length (chunkB ps q i)) else (acc,es)
section
variable {b:Zc} {q:Nat} (hq:1≤q) (hq2:q≤100) (hn:b.packets.length≤400) (hd:∀ p ∈ b.packets,p.data.length≤1048576)
include hq hq2 hn hd
theorem pieceS_len {i:Nat} (hi:i < b.packets.length):(pieceS b.packets q i).length≤32+1048626*q:=by
 have:=pieceB_len (w64 (Int.tdiv (i:Int) (q:Int))) (chunkB b.packets q i) (fun p hp=>hd p (chunk_mem hp))
 have h2:=chunk_len b.packets q i
 rw [pieceS,seal_len]
 omega
theorem end_eq {i:Nat} (hi:i < b.packets.length):mnI (w64 ((i:Int)+(q:Int))) (b.packets.length:Int)=((min (i+q) b.packets.length:Nat):Int):=by
 rw [w64_id (by omega) (by omega)]
 unfold mnI
 split <;> omega
theorem chunk_eq {i:Nat} (hi:i < b.packets.length):(b.packets.take (Int.toNat ((min (i+q) b.packets.length:Nat):Int))).drop (Int.toNat (i:Int))=chunkB b.packets q i:=by
 simp [chunkB]
theorem spec_step {i:Nat} (hi:i < b.packets.length) (acc:List Int) (es:List Zd) (ha:acc.length≤17592186044416) (he:es.length≤400) :
  m_Sd_19 (q:Int) b (i:Int) acc es=some (.inl (((i+q:Nat):Int),acc++pieceS b.packets q i,es++entsB acc.length (chunkB b.packets q i))):=by
 have k35:m_Sd_35 (q:Int) (i:Int) b acc es ((min (i+q) b.packets.length:Nat):Int)=some (.inl (((i+q:Nat):Int),acc++pieceS b.packets q i,es++entsB acc.length (chunkB b.packets q i))):=by
  unfold m_Sd_35
  rw [ck_eq (by omega)]
  simp only [Option.bind_some]
  rw [ck_eq (by omega)]
  simp only [Option.bind_some]
  rw [chunk_eq hq hq2 hn hd hi]
  have hcl:=chunk_len b.packets q i
  rw [spec_ents _ _ _ _ _ _ (by omega) _ he]
  simp only [Option.bind_some,m_Sd_56]
  rw [ck_eq (by omega)]
  simp only [Option.bind_some]
  rw [ck_eq (by omega)]
  simp only [Option.bind_some]
  rw [ck_eq (by omega)]
  simp only [Option.bind_some]
  rw [chunk_eq hq hq2 hn hd hi,spec_piece _ _ (by omega) (fun p hp=>hd p (chunk_mem hp))]
  simp only [Option.bind_some]
  have hp:=pieceS_len hq hq2 hn hd hi
  unfold pieceS at hp ⊢
  rw [ck_eq (by omega),w64_id (by omega) (by omega),show ((i+q:Nat):Int)=(i:Int)+(q:Int) by omega]
  rfl
 unfold m_Sd_19
 rw [if_pos (by simpa using hi),w64_id (x:=(i:Int)+(q:Int)) (by omega) (by omega)]
 by_cases h:(i:Int)+(q:Int) > (b.packets.length:Int)
 ·rw [if_pos (by simpa using h),show (b.packets.length:Int)=((min (i+q) b.packets.length:Nat):Int) by omega]
  exact k35
 ·rw [if_neg (by simpa using h),show (i:Int)+(q:Int)=((min (i+q) b.packets.length:Nat):Int) by omega]
  exact k35
theorem impl_step {i:Nat} (hi:i < b.packets.length) (acc:List Int) (es:List Zd) (ha:acc.length≤8796093022208) (he:es.length≤400) :
  m_Id_46 (q:Int) b (i:Int) es acc=some (.inl (((i+q:Nat):Int),es++entsB acc.length (chunkB b.packets q i),acc++pieceS b.packets q i)):=by
 have em:bl (ByteArray.mk #[27,80,73,69,67,69,10,0])=markP:=rfl
 have hml:markP.length=8:=rfl
 have hcl:=chunk_len b.packets q i
 have hcd:∀ p ∈ chunkB b.packets q i,p.data.length≤1048576:=fun p hp=>hd p (chunk_mem hp)
 unfold m_Id_46
 rw [if_pos (by simpa using hi),end_eq hq hq2 hn hd hi,ck_eq (by omega)]
 simp only [Option.bind_some]
 rw [ck_eq (by omega)]
 simp only [Option.bind_some]
 rw [em,ck_eq (by omega)]
 simp only [Option.bind_some]
 rw [ck_eq (by omega)]
 simp only [Option.bind_some]
 rw [chunk_eq hq hq2 hn hd hi,impl_c1 _ _ (by rw [List.length_append];omega)]
 simp only [Option.bind_some]
 have h1:=pn_len (w64 (Int.tdiv (i:Int) (q:Int)))
 have h2:=pn_len ((chunkB b.packets q i).length:Int)
 rw [impl_c1 _ _ (by rw [List.length_append,List.length_append];omega)]
 simp only [Option.bind_some]
 rw [impl_pks _ _ _ _ _ (by omega) _ he _ (by rw [List.length_append,List.length_append,List.length_append];omega)]
 simp only [Option.bind_some,m_Id_106]
 have h3:=flat_len pkB 50 (chunkB b.packets q i) (fun p _=>pkB_len p)
 rw [impl_data _ _ _ _ _ (by omega) hcd _ _ (by rw [List.length_append,List.length_append,List.length_append,List.length_append];omega)]
 simp only [Option.bind_some,m_Id_123]
 have e:acc++markP++pn (w64 (Int.tdiv (i:Int) (q:Int)))++pn ((chunkB b.packets q i).length:Int)++(chunkB b.packets q i).flatMap pkB++((chunkB b.packets q i).flatMap fun p:Zb=>p.data)=acc++pieceB (w64 (Int.tdiv (i:Int) (q:Int))) (chunkB b.packets q i):=by
  simp [pieceB]
 have h4:=pieceB_len (w64 (Int.tdiv (i:Int) (q:Int))) (chunkB b.packets q i) hcd
 rw [e,impl_c2 _ _ (by omega)]
 simp only [Option.bind_some]
 rw [w64_id (by omega) (by omega),show ((i+q:Nat):Int)=(i:Int)+(q:Int) by omega]
 rfl
theorem wb_loops:∀ (d i:Nat) (acc:List Int) (es:List Zd),b.packets.length≤i+d→i≤b.packets.length+100→acc.length≤1000+2000000*i→es.length≤i→es.length≤400→
  loopM (lp_Sd_19 (q:Int) b) ((i:Int),acc,es)=some (wbGo b.packets q d i acc es)∧
  loopM (lp_Id_46 (q:Int) b) ((i:Int),es,acc)=some ((wbGo b.packets q d i acc es).2,(wbGo b.packets q d i acc es).1)∧
  (wbGo b.packets q d i acc es).1.length≤10000000000∧(wbGo b.packets q d i acc es).2.length≤400:=by
 intro d
 induction d with
 | zero=>
  intro i acc es h1 h2 h3 h4 h5
  refine ⟨?_,?_,by simp only [wbGo];omega,by simp only [wbGo];omega⟩
  ·rw [loopM_eq]
   dsimp only [lp_Sd_19,m_Sd_19]
   rw [if_neg (by simp;omega)]
   rfl
  ·rw [loopM_eq]
   dsimp only [lp_Id_46,m_Id_46]
   rw [if_neg (by simp;omega)]
   rfl
 | succ d ih=>
  intro i acc es h1 h2 h3 h4 h5
  unfold wbGo
  by_cases hi:i < b.packets.length
  ·rw [if_pos hi]
   have hp:=pieceS_len hq hq2 hn hd hi
   have hcl:=chunk_len b.packets q i
   have hel:=ents_len acc.length (chunkB b.packets q i)
   have:=ih (i+q) (acc++pieceS b.packets q i) (es++entsB acc.length (chunkB b.packets q i)) (by omega) (by omega) (by rw [List.length_append];omega) (by rw [List.length_append];omega) (by rw [List.length_append];omega)
   refine ⟨?_,?_,this.2.2⟩
   ·rw [loopM_eq]
    dsimp only [lp_Sd_19]
    rw [spec_step hq hq2 hn hd hi acc es (by omega) h5]
    exact this.1
   ·rw [loopM_eq]
    dsimp only [lp_Id_46]
    rw [impl_step hq hq2 hn hd hi acc es (by omega) h5]
    exact this.2.1
  ·rw [if_neg hi]
   refine ⟨?_,?_,by simp only;omega,by simp only;omega⟩
   ·rw [loopM_eq]
    dsimp only [lp_Sd_19,m_Sd_19]
    rw [if_neg (by simpa using hi)]
   ·rw [loopM_eq]
    dsimp only [lp_Id_46,m_Id_46]
    rw [if_neg (by simpa using hi)]
end
theorem wb_eq (b:Zc) (hb:SmB b) (p1:Int):∃ w,m_Sd b p1=some w∧m_Id b p1=some w∧w.length≤1048576:=by
 unfold m_Sd m_Sd_0 m_Id m_Id_0
 rw [spec_good b hb,impl_good b hb]
 simp only [Option.bind_some]
 cases hg:goodOk b with
 | false=>exact ⟨[],rfl,rfl,by simp⟩
 | true=>
  rw [if_pos rfl,if_pos rfl]
  by_cases h1:p1 < 1
  ·rw [if_pos (show decide (p1 < 1)=true by simpa using h1),if_pos (show decide (p1 < 1)=true by simpa using h1)]
   exact ⟨[],rfl,rfl,by simp⟩
  rw [if_neg (show ¬ decide (p1 < 1)=true by simpa using h1),if_neg (show ¬ decide (p1 < 1)=true by simpa using h1)]
  by_cases h2:p1 > 100
  ·rw [if_pos (show decide (p1 > 100)=true by simpa using h2),if_pos (show decide (p1 > 100)=true by simpa using h2)]
   exact ⟨[],rfl,rfl,by simp⟩
  rw [if_neg (show ¬ decide (p1 > 100)=true by simpa using h2),if_neg (show ¬ decide (p1 > 100)=true by simpa using h2)]
  obtain ⟨q,rfl⟩:∃ q:Nat,p1=q:=⟨p1.toNat,by omega⟩
  unfold goodOk at hg
  simp only [Bool.and_eq_true] at hg
  have hr:=right_facts hg.1
  have hnm:∀ t ∈ b.tracks,t.name.size≤40:=fun t ht=>by
   have:=hr.tr t ht
   unfold trackOk at this
   simp only [Bool.and_eq_true,decide_eq_true_eq] at this
   exact this.1.2.2.2.2
  have hhl:=headB_len b.tracks hr.nt.2 hnm
  rw [spec_head b.tracks hr.nt.2 hnm,ck_eq (by simp)]
  simp only [Option.bind_some]
  rw [impl_head (q:Int) b hr.nt.2 hnm]
  simp only [Option.bind_some,m_Id_37]
  have hc2:=impl_c2 [] ([66,79,88,49,wr .u8 (b.tracks.length:Int)]++b.tracks.flatMap trB) (by
   unfold headB at hhl
   rw [seal_len] at hhl
   rw [List.length_nil];omega)
  rw [List.nil_append,List.nil_append] at hc2
  rw [show ((0:Int))=(([]:List Int).length:Int) from rfl,hc2,show sealL ([66,79,88,49,wr .u8 (b.tracks.length:Int)]++b.tracks.flatMap trB)=headB b.tracks from rfl]
  simp only [Option.bind_some]
  have hl:=wb_loops (b:=b) (q:=q) (by omega) (by omega) hr.np hb.2.2 b.packets.length 0 (headB b.tracks) [] (by omega) (by omega) (by omega) (by simp) (by simp)
  rw [show (([]:List Int).length:Int)=((0:Nat):Int) from rfl,hl.1,hl.2.1]
  simp only [Option.bind_some]
  obtain ⟨_,_,hA,hE⟩ :=hl
  generalize wbGo b.packets q b.packets.length 0 (headB b.tracks) []=z at hA hE ⊢
  obtain ⟨acc,es⟩ :=z
  simp only at hA hE ⊢
  rw [impl_ix acc es hE (by omega)]
  simp only [m_Sd_58]
  rw [spec_index es _ hE]
  simp only [Option.bind_some]
  have hi:(sealL (indexB es acc.length)).length≤12100:=by
   have h4:=pn_len (es.length:Int)
   have h5:=pn_len (acc.length:Int)
   have h1:=flat_len entB 30 es (fun p _=>entB_len p)
   rw [seal_len]
   simp only [indexB,List.length_append,markI,List.length_cons,List.length_nil]
   omega
  rw [ck_eq (by omega)]
  simp only [Option.bind_some]
  by_cases h3:((acc++sealL (indexB es acc.length)).length:Int) > 120000
  ·rw [if_pos (by simpa using h3)]
   exact ⟨[],rfl,rfl,by simp⟩
  ·rw [if_neg (by simpa using h3)]
   exact ⟨_,rfl,rfl,by omega⟩
end Go.Proofs.V

namespace Go.Proofs.V
open Go
theorem bstr_one (v:Int) (h0:0≤v) (h1:v≤255):∃ x,bstr [v]=some x∧x.size=1:=by
 refine ⟨⟨#[v.toNat.toUInt8]⟩,?_,rfl⟩
 simp [bstr,bytesOf,rI,h0,h1]
theorem markText_go (n:Nat):∀ (i:Nat) (s:ByteArray),i≤n→s.size+i≤9223372036854775800→∃ e,loopM lp_Lk_15 ((i:Int),s)=some e∧e.size≤s.size+i:=by
 induction n with
 | zero=>
  intro i s hi hs
  obtain rfl:i=0:=by omega
  refine ⟨s,?_,by omega⟩
  rw [loopM_eq]
  simp only [lp_Lk_15,m_Lk_15]
  rw [if_neg (by simp)]
 | succ n ih=>
  intro i s hi hs
  by_cases h0:i=0
  ·subst h0
   refine ⟨s,?_,by omega⟩
   rw [loopM_eq]
   simp only [lp_Lk_15,m_Lk_15]
   rw [if_neg (by simp)]
  ·have hm:Int.tmod (i:Int) 10=((i % 10:Nat):Int):=by rw [Int.tmod_eq_emod_of_nonneg (by omega)];omega
   have hd:Int.tdiv (i:Int) 10=((i / 10:Nat):Int):=by rw [Int.tdiv_eq_ediv_of_nonneg (by omega)];omega
   obtain ⟨x,hx,hxs⟩ :=bstr_one (wr .u8 (w64 (48+((i % 10:Nat):Int)))) (by rw [w64_id (by omega) (by omega),wu8_id (by omega) (by omega)];omega) (by rw [w64_id (by omega) (by omega),wu8_id (by omega) (by omega)];omega)
   obtain ⟨e,he,hes⟩ :=ih (i / 10) (x++s) (by omega) (by rw [ByteArray.size_append];omega)
   refine ⟨e,?_,by rw [ByteArray.size_append] at hes;omega⟩
   rw [loopM_eq]
   simp only [lp_Lk_15,m_Lk_15]
   rw [if_pos (by simp;omega),hm,hd,hx]
   simp only [Option.bind_some]
   rw [ck_eq (by omega),w64_id (by omega) (by omega)]
   simpa using he
theorem markText_some (k:Nat) (h:k≤4611686018427387904):∃ w,m_Lk k=some w:=by
 simp only [m_Lk,m_Lk_0]
 by_cases h0:(k:Int)≤0
 ·exact ⟨_,by rw [if_pos (by simpa using h0)]⟩
 ·rw [if_neg (by simpa using h0)]
  obtain ⟨e,he,hs⟩ :=markText_go k k (ByteArray.mk #[]) (Nat.le_refl _) (by show 0+k≤_;omega)
  rw [he]
  simp only [Option.bind_some,m_Lk_25]
  have:(ByteArray.mk #[]).size=0:=rfl
  have h1:(ByteArray.mk #[109]).size=1:=rfl
  rw [ck_eq (by omega)]
  exact ⟨_,rfl⟩
end Go.Proofs.V

namespace Go.Proofs.V
open Go
def wfS_Track (x:Za):Prop:=inK .i64 x.kind∧inK .i64 x.scale∧x.name.size≤maxLen∧True
def wfS_Packet (x:Zb):Prop:=inK .i64 x.track∧inK .i64 x.time∧inK .i64 x.span∧True∧(x.data.length≤maxLen∧∀ y0 ∈ x.data,inK .u8 y0)∧True
def wfS_Box (x:Zc):Prop:=(x.tracks.length≤maxLen∧∀ y0 ∈ x.tracks,wfS_Track y0)∧(x.packets.length≤maxLen∧∀ y0 ∈ x.packets,wfS_Packet y0)∧True
def Sm_S_Track (x:Za):Prop:=x.name.size≤1048576
theorem sz_Track (x:Za) (hx:wfS_Track x) (left:Int) (h0:0≤left) (h1:left≤1048576):∃ v,m_Lq x left=some v∧(v < 0∨0≤v∧v≤left∧Sm_S_Track x):=by
 simp only [m_Lq,m_Lq_0]
 have hy1:x.name.size≤9223372036854775807:=hx.2.2.1
 rw [w64_id (by omega) (by omega)]
 try simp only [decide_eq_true_eq]
 by_cases c1:left - (x.name.size:Int) < 0
 ·exact ⟨-1,by rw [if_pos c1],.inl (by omega)⟩
 rw [if_neg c1]
 have d1:x.name.size≤1048576:=by omega
 exact ⟨_,rfl,.inr ⟨by omega,by omega,d1⟩⟩
theorem sz_TrackS (x:(List Za)) (hx:(x.length≤maxLen∧∀ y0 ∈ x,wfS_Track y0)) (left:Int) (h0:0≤left) (h1:left≤1048576):∃ v,m_Lr x left=some v∧(v < 0∨0≤v∧v≤left∧(x.length≤1048576∧∀ y0 ∈ x,Sm_S_Track y0)):=by
 have hm:x.length≤9223372036854775807:=hx.1
 simp only [m_Lr,m_Lr_0,m_Lr_35]
 rw [w64_id (by omega) (by omega)]
 try simp only [decide_eq_true_eq]
 by_cases h:left - (x.length:Int) < 0
 ·exact ⟨-1,if_pos h,.inl (by omega)⟩
 rw [if_neg h]
 have key:=sz_list (l:=x) (b:=lp_Lr_17 x) (Sm:=fun y=>Sm_S_Track y) (fun left i hi h0 h1=>?_) (fun left=>?_) (left - x.length) (by omega) (by omega)
 ·obtain ⟨e,he,hr⟩ :=key
  rw [he]
  rcases hr with rfl | ⟨s,rfl,h3,h4,h5⟩
  ·exact ⟨-1,rfl,.inl (by omega)⟩
  ·exact ⟨s,rfl,.inr ⟨h3,by omega,by omega,h5⟩⟩
 ·simp only [lp_Lr_17,m_Lr_17]
  rw [if_pos (by simp <;> omega),rd_eq hi]
  simp only [Option.bind_some]
  obtain ⟨v,hv,hc⟩ :=sz_Track x[i] (hx.2 _ (List.getElem_mem hi)) left h0 h1
  rw [hv]
  simp only [Option.bind_some]
  rcases hc with hc | hc
  ·left;rw [if_pos (by simpa using hc)]
  ·right;rw [if_neg (by simp <;> omega),w64_succ (by omega)]
   exact ⟨_,rfl,hc.1,hc.2.1,hc.2.2⟩
 ·simp only [lp_Lr_17,m_Lr_17]
  rw [if_neg (by simp)]
theorem sz_ByteS (x:(List Int)) (hx:(x.length≤maxLen∧∀ y0 ∈ x,inK .u8 y0)) (left:Int) (h0:0≤left) (h1:left≤1048576):∃ v,m_Ln x left=some v∧(v < 0∨0≤v∧v≤left∧x.length≤1048576):=by
 have hm:x.length≤9223372036854775807:=hx.1
 simp only [m_Ln,m_Ln_0]
 rw [w64_id (by omega) (by omega)]
 try simp only [decide_eq_true_eq]
 by_cases h:left - (x.length:Int) < 0
 ·exact ⟨-1,if_pos h,.inl (by omega)⟩
 ·exact ⟨_,if_neg h,.inr ⟨by omega,by omega,by omega⟩⟩
def Sm_S_Packet (x:Zb):Prop:=x.data.length≤1048576
theorem sz_Packet (x:Zb) (hx:wfS_Packet x) (left:Int) (h0:0≤left) (h1:left≤1048576):∃ v,m_Lo x left=some v∧(v < 0∨0≤v∧v≤left∧Sm_S_Packet x):=by
 simp only [m_Lo,m_Lo_0]
 obtain ⟨v1,e1,c1⟩ :=sz_ByteS x.data (hx.2.2.2.2.1) left (by omega) (by omega)
 rw [e1]
 simp only [Option.bind_some,decide_eq_true_eq]
 rcases c1 with c1 | ⟨d1,f1,g1⟩
 ·exact ⟨-1,by rw [if_pos c1],.inl (by omega)⟩
 rw [if_neg (by omega)]
 exact ⟨_,rfl,.inr ⟨by omega,by omega,g1⟩⟩
theorem sz_PacketS (x:(List Zb)) (hx:(x.length≤maxLen∧∀ y0 ∈ x,wfS_Packet y0)) (left:Int) (h0:0≤left) (h1:left≤1048576):∃ v,m_Lp x left=some v∧(v < 0∨0≤v∧v≤left∧(x.length≤1048576∧∀ y0 ∈ x,Sm_S_Packet y0)):=by
 have hm:x.length≤9223372036854775807:=hx.1
 simp only [m_Lp,m_Lp_0,m_Lp_35]
 rw [w64_id (by omega) (by omega)]
 try simp only [decide_eq_true_eq]
 by_cases h:left - (x.length:Int) < 0
 ·exact ⟨-1,if_pos h,.inl (by omega)⟩
 rw [if_neg h]
 have key:=sz_list (l:=x) (b:=lp_Lp_17 x) (Sm:=fun y=>Sm_S_Packet y) (fun left i hi h0 h1=>?_) (fun left=>?_) (left - x.length) (by omega) (by omega)
 ·obtain ⟨e,he,hr⟩ :=key
  rw [he]
  rcases hr with rfl | ⟨s,rfl,h3,h4,h5⟩
  ·exact ⟨-1,rfl,.inl (by omega)⟩
  ·exact ⟨s,rfl,.inr ⟨h3,by omega,by omega,h5⟩⟩
 ·simp only [lp_Lp_17,m_Lp_17]
  rw [if_pos (by simp <;> omega),rd_eq hi]
  simp only [Option.bind_some]
  obtain ⟨v,hv,hc⟩ :=sz_Packet x[i] (hx.2 _ (List.getElem_mem hi)) left h0 h1
  rw [hv]
  simp only [Option.bind_some]
  rcases hc with hc | hc
  ·left;rw [if_pos (by simpa using hc)]
  ·right;rw [if_neg (by simp <;> omega),w64_succ (by omega)]
   exact ⟨_,rfl,hc.1,hc.2.1,hc.2.2⟩
 ·simp only [lp_Lp_17,m_Lp_17]
  rw [if_neg (by simp)]
def Sm_S_Box (x:Zc):Prop:=(x.tracks.length≤1048576∧∀ y0 ∈ x.tracks,Sm_S_Track y0)∧(x.packets.length≤1048576∧∀ y0 ∈ x.packets,Sm_S_Packet y0)
theorem sz_Box (x:Zc) (hx:wfS_Box x) (left:Int) (h0:0≤left) (h1:left≤1048576):∃ v,m_Lm x left=some v∧(v < 0∨0≤v∧v≤left∧Sm_S_Box x):=by
 simp only [m_Lm,m_Lm_0]
 obtain ⟨v1,e1,c1⟩ :=sz_TrackS x.tracks (hx.1) left (by omega) (by omega)
 rw [e1]
 simp only [Option.bind_some,decide_eq_true_eq]
 rcases c1 with c1 | ⟨d1,f1,g1⟩
 ·exact ⟨-1,by rw [if_pos c1],.inl (by omega)⟩
 rw [if_neg (by omega)]
 obtain ⟨v2,e2,c2⟩ :=sz_PacketS x.packets (hx.2.1) v1 (by omega) (by omega)
 rw [e2]
 simp only [Option.bind_some,decide_eq_true_eq]
 rcases c2 with c2 | ⟨d2,f2,g2⟩
 ·exact ⟨-1,by rw [if_pos c2],.inl (by omega)⟩
 rw [if_neg (by omega)]
 exact ⟨_,rfl,.inr ⟨by omega,by omega,g1,g2⟩⟩
theorem to_Track (x:Za) (hx:Sm_S_Track x):m_Lw x=some x:=by
 simp only [m_Lw,m_Lw_0]
 try rfl
theorem to_TrackS (x:(List Za)) (hx:(x.length≤1048576∧∀ y0 ∈ x,Sm_S_Track y0)):m_Lx x=some x:=by
 have hl:x.length≤1048576:=hx.1
 simp only [m_Lx,m_Lx_0,m_Lx_19]
 rw [ck_eq (by omega)]
 simp only [Option.bind_some]
 suffices key:∀ z,loopM (lp_Lx_9 x) (0,List.replicate (Int.toNat (x.length:Int)) z)=some x by
  rw [key]
  rfl
 intro z
 refine to_list (l:=x) (fun i out hi ho=>?_) (fun out=>?_) z
 ·simp only [lp_Lx_9,m_Lx_9]
  rw [if_pos (by simp <;> omega),rd_eq hi]
  simp only [Option.bind_some]
  rw [to_Track x[i] (hx.2 _ (List.getElem_mem hi))]
  simp only [Option.bind_some]
  rw [rd_eq (by omega)]
  simp only [Option.bind_some]
  rw [w64_succ (by omega)]
 ·simp only [lp_Lx_9,m_Lx_9]
  rw [if_neg (by simp)]
theorem to_ByteS (x:(List Int)) (hx:x.length≤1048576):m_Lt x=some x:=by
 have hl:x.length≤1048576:=hx
 simp only [m_Lt,m_Lt_0,m_Lt_19]
 rw [ck_eq (by omega)]
 simp only [Option.bind_some]
 suffices key:∀ z,loopM (lp_Lt_9 x) (0,List.replicate (Int.toNat (x.length:Int)) z)=some x by
  rw [key]
  rfl
 intro z
 refine to_list (l:=x) (fun i out hi ho=>?_) (fun out=>?_) z
 ·simp only [lp_Lt_9,m_Lt_9]
  rw [if_pos (by simp <;> omega),rd_eq hi]
  simp only [Option.bind_some]
  rw [rd_eq (by omega)]
  simp only [Option.bind_some]
  rw [w64_succ (by omega)]
 ·simp only [lp_Lt_9,m_Lt_9]
  rw [if_neg (by simp)]
theorem to_Packet (x:Zb) (hx:Sm_S_Packet x):m_Lu x=some x:=by
 simp only [m_Lu,m_Lu_0]
 rw [to_ByteS x.data hx]
 simp only [Option.bind_some]
theorem to_PacketS (x:(List Zb)) (hx:(x.length≤1048576∧∀ y0 ∈ x,Sm_S_Packet y0)):m_Lv x=some x:=by
 have hl:x.length≤1048576:=hx.1
 simp only [m_Lv,m_Lv_0,m_Lv_19]
 rw [ck_eq (by omega)]
 simp only [Option.bind_some]
 suffices key:∀ z,loopM (lp_Lv_9 x) (0,List.replicate (Int.toNat (x.length:Int)) z)=some x by
  rw [key]
  rfl
 intro z
 refine to_list (l:=x) (fun i out hi ho=>?_) (fun out=>?_) z
 ·simp only [lp_Lv_9,m_Lv_9]
  rw [if_pos (by simp <;> omega),rd_eq hi]
  simp only [Option.bind_some]
  rw [to_Packet x[i] (hx.2 _ (List.getElem_mem hi))]
  simp only [Option.bind_some]
  rw [rd_eq (by omega)]
  simp only [Option.bind_some]
  rw [w64_succ (by omega)]
 ·simp only [lp_Lv_9,m_Lv_9]
  rw [if_neg (by simp)]
theorem to_Box (x:Zc) (hx:Sm_S_Box x):m_Ls x=some x:=by
 simp only [m_Ls,m_Ls_0]
 rw [to_TrackS x.tracks hx.1]
 simp only [Option.bind_some]
 rw [to_PacketS x.packets hx.2]
 simp only [Option.bind_some]
theorem eq_ByteS (x:(List Int)) (hx:x.length≤1048576):m_Lb x x=some true:=by
 have hl:x.length≤1048576:=hx
 simp only [m_Lb,m_Lb_0,m_Lb_31]
 rw [if_neg (by simp)]
 suffices key:loopM (lp_Lb_15 x x) 0=some (.inr ()) by
  rw [key]
  rfl
 refine eq_list (n:=x.length) (fun i hi=>?_) ?_
 ·simp only [lp_Lb_15,m_Lb_15]
  rw [if_pos (by simp <;> omega),rd_eq hi]
  simp only [Option.bind_some]
  rw [if_neg (by simp),w64_succ (by omega)]
 ·simp only [lp_Lb_15,m_Lb_15]
  rw [if_neg (by simp)]
theorem eq_Track (x:Za) (hx:Sm_S_Track x):m_Le x x=some true:=by
 simp only [m_Le,m_Le_0]
 rw [if_neg (by simp)]
 rw [if_neg (by simp)]
 rw [if_pos (by simp)]
theorem eq_TrackS (x:(List Za)) (hx:(x.length≤1048576∧∀ y0 ∈ x,Sm_S_Track y0)):m_Lf x x=some true:=by
 have hl:x.length≤1048576:=hx.1
 simp only [m_Lf,m_Lf_0,m_Lf_31]
 rw [if_neg (by simp)]
 suffices key:loopM (lp_Lf_15 x x) 0=some (.inr ()) by
  rw [key]
  rfl
 refine eq_list (n:=x.length) (fun i hi=>?_) ?_
 ·simp only [lp_Lf_15,m_Lf_15]
  rw [if_pos (by simp <;> omega),rd_eq hi]
  simp only [Option.bind_some]
  rw [eq_Track x[i] (hx.2 _ (List.getElem_mem hi))]
  simp only [Option.bind_some,if_true]
  rw [w64_succ (by omega)]
 ·simp only [lp_Lf_15,m_Lf_15]
  rw [if_neg (by simp)]
theorem eq_Packet (x:Zb) (hx:Sm_S_Packet x):m_Lc x x=some true:=by
 simp only [m_Lc,m_Lc_0]
 rw [if_neg (by simp)]
 rw [if_neg (by simp)]
 rw [if_neg (by simp)]
 rw [if_pos (by simp)]
 rw [eq_ByteS x.data hx]
 simp only [Option.bind_some,if_true]
theorem eq_PacketS (x:(List Zb)) (hx:(x.length≤1048576∧∀ y0 ∈ x,Sm_S_Packet y0)):m_Ld x x=some true:=by
 have hl:x.length≤1048576:=hx.1
 simp only [m_Ld,m_Ld_0,m_Ld_31]
 rw [if_neg (by simp)]
 suffices key:loopM (lp_Ld_15 x x) 0=some (.inr ()) by
  rw [key]
  rfl
 refine eq_list (n:=x.length) (fun i hi=>?_) ?_
 ·simp only [lp_Ld_15,m_Ld_15]
  rw [if_pos (by simp <;> omega),rd_eq hi]
  simp only [Option.bind_some]
  rw [eq_Packet x[i] (hx.2 _ (List.getElem_mem hi))]
  simp only [Option.bind_some,if_true]
  rw [w64_succ (by omega)]
 ·simp only [lp_Ld_15,m_Ld_15]
  rw [if_neg (by simp)]
theorem eq_Box (x:Zc) (hx:Sm_S_Box x):m_La x x=some true:=by
 simp only [m_La,m_La_0]
 rw [eq_TrackS x.tracks hx.1]
 simp only [Option.bind_some,if_true]
 rw [eq_PacketS x.packets hx.2]
 simp only [Option.bind_some,if_true]
theorem mark_TrackS (x:(List Za)) (k:Nat) (hx:(x.length≤1048576∧∀ y0 ∈ x,Sm_S_Track y0)) (hk:k+3145728≤4611686018427387904):∃ (x' : (List Za)) (k' : Nat),m_Ll x k=some ((k' : Int),x')∧x'.length=x.length∧k≤k'∧k'≤k+3145728:=by
 have hl:x.length≤1048576:=hx.1
 have hlc:x.length*3≤3145728:=by omega
 have key:=mark_list0 (Sm:=fun y=>Sm_S_Track y) 3 (b:=lp_Ll_7) (fun l i k hi hl hk hs=>?_) (fun l k=>?_) x k hl (by omega) hx.2
 ·obtain ⟨l1,k1,e1,e2,e3,e4⟩ :=key
  refine ⟨l1,k1,?_,e2,e3,by omega⟩
  ·simp only [m_Ll,m_Ll_0]
   rw [e1]
   rfl
 ·skip
  obtain ⟨w0,hw0⟩ :=markText_some (k+1+1) (by omega)
  refine ⟨⟨(k:Int),((k+1:Nat):Int),w0⟩,k+1+1+1,?_,by omega,by omega⟩
  ·simp only [lp_Ll_7,m_Ll_7]
   rw [if_pos (by simp <;> omega),rd_eq hi]
   simp only [Option.bind_some]
   simp (disch:=omega) only [w64_succ]
   rw [hw0]
   simp only [Option.bind_some]
   try simp (disch:=omega) only [w64_succ]
   simp
 ·simp only [lp_Ll_7,m_Ll_7]
  rw [if_neg (by simp)]
theorem mark_ByteS (x:(List Int)) (k:Nat) (hx:x.length≤1048576) (hk:k+1048576≤4611686018427387904):∃ (x' : (List Int)) (k' : Nat),m_Li x k=some ((k' : Int),x')∧x'.length=x.length∧k≤k'∧k'≤k+1048576∧m_Lg x' k=some (k' : Int):=by
 have hl:x.length≤1048576:=hx
 have hlc:x.length*1≤1048576:=by omega
 have key:=mark_list (Sm:=fun y=>True) 1 (b:=lp_Li_7) (bh:=lp_Lg_7) (fun l i k hi hl hk hs=>?_) (fun l k=>?_) (fun l k=>?_) x k hl (by omega) (fun _ _=>trivial)
 ·obtain ⟨l1,k1,e1,e2,e3,e4,e5⟩ :=key
  refine ⟨l1,k1,?_,e2,e3,by omega,?_⟩
  ·simp only [m_Li,m_Li_0]
   rw [e1]
   rfl
  ·simp only [m_Lg,m_Lg_0]
   rw [e5]
   rfl
 ·refine ⟨(wr .u8 (k:Int)),k+1,?_,by omega,by omega,fun l' h' hl' hx'=>?_⟩
  ·simp only [lp_Li_7,m_Li_7]
   rw [if_pos (by simp <;> omega),rd_eq hi]
   simp only [Option.bind_some]
   rw [w64_succ (by omega),w64_succ (by omega)]
   simp
  ·simp only [lp_Lg_7,m_Lg_7]
   rw [if_pos (by simp <;> omega),rd_eq h',hx']
   simp only [Option.bind_some]
   rw [if_neg (by simp),w64_succ (by omega),w64_succ (by omega)]
 ·simp only [lp_Li_7,m_Li_7]
  rw [if_neg (by simp)]
 ·simp only [lp_Lg_7,m_Lg_7]
  rw [if_neg (by simp)]
theorem mark_PacketS (x:(List Zb)) (k:Nat) (hx:(x.length≤1048576∧∀ y0 ∈ x,Sm_S_Packet y0)) (hk:k+1099515822080≤4611686018427387904):∃ (x' : (List Zb)) (k' : Nat),m_Lj x k=some ((k' : Int),x')∧x'.length=x.length∧k≤k'∧k'≤k+1099515822080:=by
 have hl:x.length≤1048576:=hx.1
 have hlc:x.length*1048580≤1099515822080:=by omega
 have key:=mark_list0 (Sm:=fun y=>Sm_S_Packet y) 1048580 (b:=lp_Lj_7) (fun l i k hi hl hk hs=>?_) (fun l k=>?_) x k hl (by omega) hx.2
 ·obtain ⟨l1,k1,e1,e2,e3,e4⟩ :=key
  refine ⟨l1,k1,?_,e2,e3,by omega⟩
  ·simp only [m_Lj,m_Lj_0]
   rw [e1]
   rfl
 ·skip
  obtain ⟨y0,k0,a0,b0,c0,d0,e0⟩ :=mark_ByteS l[i].data (k+1+1+1+1) hs (by omega)
  refine ⟨⟨(k:Int),((k+1:Nat):Int),((k+1+1:Nat):Int),(Int.tmod ((k+1+1+1:Nat):Int) 3 == 0),y0⟩,k0,?_,by omega,by omega⟩
  ·simp only [lp_Lj_7,m_Lj_7]
   rw [if_pos (by simp <;> omega),rd_eq hi]
   simp only [Option.bind_some]
   simp (disch:=omega) only [w64_succ]
   rw [a0]
   simp only [Option.bind_some]
   rw [ck_eq b0]
   simp only [Option.bind_some]
   try simp (disch:=omega) only [w64_succ]
   simp
 ·simp only [lp_Lj_7,m_Lj_7]
  rw [if_neg (by simp)]
theorem mark_Box (x:Zc) (k:Nat) (hx:Sm_S_Box x) (hk:k+1099518967808≤4611686018427387904):∃ (l_tracks:(List Za)) (l_packets:(List Zb)) (k' : Nat),m_Lh x k=some ((k' : Int),(⟨l_tracks,l_packets⟩:Zc))∧l_tracks.length=x.tracks.length∧l_packets.length=x.packets.length∧k≤k'∧k'≤k+1099518967808:=by
 obtain ⟨y0,k0,a0,b0,c0,d0⟩ :=mark_TrackS x.tracks k hx.1 (by omega)
 obtain ⟨y1,k1,a1,b1,c1,d1⟩ :=mark_PacketS x.packets k0 hx.2 (by omega)
 refine ⟨y0,y1,k1,?_,b0,b1,by omega,by omega⟩
 ·simp only [m_Lh,m_Lh_0]
  rw [a0]
  simp only [Option.bind_some]
  rw [ck_eq b0]
  simp only [Option.bind_some]
  rw [a1]
  simp only [Option.bind_some]
  rw [ck_eq b1]
  simp only [Option.bind_some]
  try rfl
theorem plain_FnExactWriteBox (p0:Zc) (hp0:wfS_Box p0) (p1:Int) (hp1:inK .i64 p1) (core:(Sm_S_Box p0)→∃ w:(List Int),m_Sd p0 p1=some w∧m_Id p0 p1=some w∧w.length≤1048576):m_laws_FnExactWriteBox p0 p1=some true:=by
 simp only [m_laws_FnExactWriteBox,m_laws_FnExactWriteBox_0,decide_eq_true_eq]
 obtain ⟨v1,e1,c1⟩ :=sz_Box p0 hp0 1048576 (by omega) (by omega)
 rw [e1]
 simp only [Option.bind_some,decide_eq_true_eq]
 rcases c1 with c1 | c1
 ·rw [if_pos (by simpa using c1)]
 rw [if_neg (by simp <;> omega)]
 have sm_p0:Sm_S_Box p0:=c1.2.2
 rw [to_Box p0 sm_p0]
 simp only [Option.bind_some]
 obtain ⟨w,hsp,him,sm0⟩ :=core sm_p0
 rw [hsp]
 simp only [Option.bind_some]
 rw [him]
 simp only [Option.bind_some]
 rw [eq_ByteS w sm0]
 simp only [Option.bind_some,if_true]
 rw [eq_Box p0 sm_p0]
 simp only [Option.bind_some,if_true]
 obtain ⟨y1_0,y1_1,k1,a1,b1_0,b1_1,c1x,d1⟩ :=mark_Box p0 1 sm_p0 (by omega)
 replace a1:m_Lh p0 1=_:=a1
 rw [a1]
 simp only [Option.bind_some]
 rw [ck_eq (by first | assumption | rfl)]
 simp only [Option.bind_some]
 rw [ck_eq (by first | assumption | rfl)]
 simp only [Option.bind_some]
 rw [if_neg (by simp <;> omega)]
 obtain ⟨y2,k2,a2,b2,c2x,d2,f2⟩ :=mark_ByteS w 1 sm0 (by omega)
 replace a2:m_Li w 1=_:=a2
 rw [a2]
 simp only [Option.bind_some]
 replace f2:m_Lg _ 1=_:=f2
 rw [ck_eq (by first | assumption | rfl)]
 simp only [Option.bind_some]
 rw [f2]
 simp only [Option.bind_some]
 rw [if_neg (by simp <;> omega)]
 rw [if_neg (by simp)]
end Go.Proofs.V

namespace Go.Proofs.V
open Go
theorem final_FnExactWriteBox (x0:Zc) (w0:wfS_Box x0) (x1:Int) (w1:inK .i64 x1):m_laws_FnExactWriteBox x0 x1=some true:=
 plain_FnExactWriteBox x0 w0 x1 w1 fun h=>wb_eq x0 h x1
end Go.Proofs.V

namespace Go.Proofs.V
open Go
def c_Lq_7:VC:=
 .ite (.s 11) (.seq (.r 3 [oN 4 (-1)]) (.ret)) (.skip)
def c_Lq_12:VC:=
 .seq (.r 4 [M 12 1,
  M 4 12]) (.ret)
def c_Lq_4:VC:=
 .seq (.seq (.r 2 [M 10 1,
  {op:=.bin 11 .lss (.s 10) (.k (.int .i64 0))}]) c_Lq_7) c_Lq_12
def c_Lq_2:VC:=
 .seq (.r 1 [M 5 1,
  oF 6 2 2,
  oL 7 6 1,
  {op:=.slen 8 (.s 7)},
  {op:=.bin 9 .sub (.s 5) (.s 8)},
  M 1 9]) c_Lq_4
def c_Lq_0:VC:=
 .seq (.r 0 [{op:=.box 2 (.s 0)},
  oN 4 0]) c_Lq_2
def vf_Lq:VF:={ pm:=[.ro q3,.ro [.sc]],rm:=[.v [.sc]],nslots:=13,res:=[4],rc:=[],code:=.kp [0,1] c_Lq_0 }
def c_Lr_7:VC:=
 .ite (.s 11) (.seq (.r 3 [oN 4 (-1)]) (.ret)) (.skip)
def c_Lr_20:VC:=
 .ite (.s 15) (.skip) (.exit 0)
def c_Lr_29:VC:=
 .ite (.s 25) (.seq (.r 9 [oN 4 (-1)]) (.ret)) (.skip)
def c_Lr_27:VC:=
 .seq (.r 8 [M 24 1,
  {op:=.bin 25 .lss (.s 24) (.k (.int .i64 0))}]) c_Lr_29
def c_Lr_34:VC:=
 .r 6 [M 16 5,
  {op:=.bin 17 .add (.s 16) (.k (.int .i64 1))},
  M 5 17]
def c_Lr_23:VC:=
 .seq (.blk 1 (.seq (.r 7 [M 18 0,
  M 19 5,
  oX 20 18 19 3,
  {op:=.ld 21 (.s 20) 3 true},
  M 22 1,
  {op:=.call 23 101 [(.s 21),(.s 22)]},
  M 1 23]) c_Lr_27)) c_Lr_34
def c_Lr_17:VC:=
 .seq (.seq (.r 5 [M 12 5,
  M 13 0,
  {op:=.len 14 (.s 13)},
  {op:=.bin 15 .lss (.s 12) (.s 14)}]) c_Lr_20) c_Lr_23
def c_Lr_15:VC:=
 .blk 0 (.loop [0,1,5] c_Lr_17)
def c_Lr_35:VC:=
 .seq (.r 10 [M 26 1,
  M 4 26]) (.ret)
def c_Lr_12:VC:=
 .seq (.seq (.r 4 [oN 5 0]) c_Lr_15) (.kp [1] c_Lr_35)
def c_Lr_4:VC:=
 .seq (.seq (.r 2 [M 10 1,
  {op:=.bin 11 .lss (.s 10) (.k (.int .i64 0))}]) c_Lr_7) c_Lr_12
def c_Lr_2:VC:=
 .seq (.r 1 [M 6 1,
  M 7 0,
  {op:=.len 8 (.s 7)},
  {op:=.bin 9 .sub (.s 6) (.s 8)},
  M 1 9]) c_Lr_4
def c_Lr_0:VC:=
 .seq (.r 0 [oN 4 0]) c_Lr_2
def vf_Lr:VF:={ pm:=[.ro [.ro q3],.ro [.sc]],rm:=[.v [.sc]],nslots:=27,res:=[4],rc:=[],code:=.kp [0,1] c_Lr_0 }
def c_Ln_7:VC:=
 .ite (.s 10) (.seq (.r 3 [oN 4 (-1)]) (.ret)) (.skip)
def c_Ln_12:VC:=
 .seq (.r 4 [M 11 1,
  M 4 11]) (.ret)
def c_Ln_4:VC:=
 .seq (.seq (.r 2 [M 9 1,
  {op:=.bin 10 .lss (.s 9) (.k (.int .i64 0))}]) c_Ln_7) c_Ln_12
def c_Ln_2:VC:=
 .seq (.r 1 [M 5 1,
  M 6 0,
  {op:=.len 7 (.s 6)},
  {op:=.bin 8 .sub (.s 5) (.s 7)},
  M 1 8]) c_Ln_4
def c_Ln_0:VC:=
 .seq (.r 0 [oN 4 0]) c_Ln_2
def vf_Ln:VF:={ pm:=[.ro [.ro [.sc]],.ro [.sc]],rm:=[.v [.sc]],nslots:=12,res:=[4],rc:=[],code:=.kp [0,1] c_Ln_0 }
def c_Lo_7:VC:=
 .ite (.s 10) (.seq (.r 3 [oN 4 (-1)]) (.ret)) (.skip)
def c_Lo_12:VC:=
 .seq (.r 4 [M 11 1,
  M 4 11]) (.ret)
def c_Lo_4:VC:=
 .seq (.seq (.r 2 [M 9 1,
  {op:=.bin 10 .lss (.s 9) (.k (.int .i64 0))}]) c_Lo_7) c_Lo_12
def c_Lo_2:VC:=
 .seq (.r 1 [oF 5 2 4,
  oL 6 5 1,
  M 7 1,
  {op:=.call 8 141 [(.s 6),(.s 7)]},
  M 1 8]) c_Lo_4
def c_Lo_0:VC:=
 .seq (.r 0 [{op:=.box 2 (.s 0)},
  oN 4 0]) c_Lo_2
def vf_Lo:VF:={ pm:=[.ro q5,.ro [.sc]],rm:=[.v [.sc]],nslots:=12,res:=[4],rc:=[],code:=.kp [0,1] c_Lo_0 }
def c_Lp_7:VC:=
 .ite (.s 11) (.seq (.r 3 [oN 4 (-1)]) (.ret)) (.skip)
def c_Lp_20:VC:=
 .ite (.s 15) (.skip) (.exit 0)
def c_Lp_29:VC:=
 .ite (.s 25) (.seq (.r 9 [oN 4 (-1)]) (.ret)) (.skip)
def c_Lp_27:VC:=
 .seq (.r 8 [M 24 1,
  {op:=.bin 25 .lss (.s 24) (.k (.int .i64 0))}]) c_Lp_29
def c_Lp_34:VC:=
 .r 6 [M 16 5,
  {op:=.bin 17 .add (.s 16) (.k (.int .i64 1))},
  M 5 17]
def c_Lp_23:VC:=
 .seq (.blk 1 (.seq (.r 7 [M 18 0,
  M 19 5,
  oX 20 18 19 5,
  {op:=.ld 21 (.s 20) 5 true},
  M 22 1,
  {op:=.call 23 102 [(.s 21),(.s 22)]},
  M 1 23]) c_Lp_27)) c_Lp_34
def c_Lp_17:VC:=
 .seq (.seq (.r 5 [M 12 5,
  M 13 0,
  {op:=.len 14 (.s 13)},
  {op:=.bin 15 .lss (.s 12) (.s 14)}]) c_Lp_20) c_Lp_23
def c_Lp_15:VC:=
 .blk 0 (.loop [0,1,5] c_Lp_17)
def c_Lp_35:VC:=
 .seq (.r 10 [M 26 1,
  M 4 26]) (.ret)
def c_Lp_12:VC:=
 .seq (.seq (.r 4 [oN 5 0]) c_Lp_15) (.kp [1] c_Lp_35)
def c_Lp_4:VC:=
 .seq (.seq (.r 2 [M 10 1,
  {op:=.bin 11 .lss (.s 10) (.k (.int .i64 0))}]) c_Lp_7) c_Lp_12
def c_Lp_2:VC:=
 .seq (.r 1 [M 6 1,
  M 7 0,
  {op:=.len 8 (.s 7)},
  {op:=.bin 9 .sub (.s 6) (.s 8)},
  M 1 9]) c_Lp_4
def c_Lp_0:VC:=
 .seq (.r 0 [oN 4 0]) c_Lp_2
def vf_Lp:VF:={ pm:=[.ro [.ro q5],.ro [.sc]],rm:=[.v [.sc]],nslots:=27,res:=[4],rc:=[],code:=.kp [0,1] c_Lp_0 }
def c_Lm_7:VC:=
 .ite (.s 10) (.seq (.r 3 [oN 4 (-1)]) (.ret)) (.skip)
def c_Lm_17:VC:=
 .ite (.s 16) (.seq (.r 6 [oN 4 (-1)]) (.ret)) (.skip)
def c_Lm_22:VC:=
 .seq (.r 7 [M 17 1,
  M 4 17]) (.ret)
def c_Lm_14:VC:=
 .seq (.seq (.r 5 [M 15 1,
  {op:=.bin 16 .lss (.s 15) (.k (.int .i64 0))}]) c_Lm_17) c_Lm_22
def c_Lm_12:VC:=
 .seq (.r 4 [oF 11 2 1,
  oL 12 11 1,
  M 13 1,
  {op:=.call 14 47 [(.s 12),(.s 13)]},
  M 1 14]) c_Lm_14
def c_Lm_4:VC:=
 .seq (.seq (.r 2 [M 9 1,
  {op:=.bin 10 .lss (.s 9) (.k (.int .i64 0))}]) c_Lm_7) c_Lm_12
def c_Lm_2:VC:=
 .seq (.r 1 [oF 5 2 0,
  oL 6 5 1,
  M 7 1,
  {op:=.call 8 46 [(.s 6),(.s 7)]},
  M 1 8]) c_Lm_4
def c_Lm_0:VC:=
 .seq (.r 0 [{op:=.box 2 (.s 0)},
  oN 4 0]) c_Lm_2
def vf_Lm:VF:={ pm:=[.ro [.ro q3,.ro q5],.ro [.sc]],rm:=[.v [.sc]],nslots:=18,res:=[4],rc:=[],code:=.kp [0,1] c_Lm_0 }
def c_Lw_10:VC:=
 .seq (.r 5 [{op:=.ld 13 (.s 3) 3 true},
  oS 2 13 3]) (.ret)
def c_Lw_8:VC:=
 .seq (.r 4 [oF 10 1 2,
  oL 11 10 1,
  oF 12 3 2,
  oS 12 11 1]) c_Lw_10
def c_Lw_6:VC:=
 .seq (.r 3 [oF 7 1 1,
  oL 8 7 1,
  oF 9 3 1,
  oS 9 8 1]) c_Lw_8
def c_Lw_4:VC:=
 .seq (.r 2 [oF 4 1 0,
  oL 5 4 1,
  oF 6 3 0,
  oS 6 5 1]) c_Lw_6
def c_Lw_2:VC:=
 .seq (.r 1 [{op:=.alloc 3 [.k (.int .i64 0),.k (.int .i64 0),.k (.string (ByteArray.mk #[]))]}]) c_Lw_4
def c_Lw_0:VC:=
 .seq (.r 0 [{op:=.box 1 (.s 0)},
  {op:=.alloc 2 [.k (.int .i64 0),.k (.int .i64 0),.k (.string (ByteArray.mk #[]))]}]) c_Lw_2
def vf_Lw:VF:={ pm:=[.ro q3],rm:=[.v q3],nslots:=14,res:=[2],rc:=[some (3,true)],code:=.kp [0] c_Lw_0 }
def c_Lx_12:VC:=
 .ite (.s 11) (.skip) (.exit 0)
def c_Lx_18:VC:=
 .r 4 [M 12 4,
  {op:=.bin 13 .add (.s 12) (.k (.int .i64 1))},
  M 4 13]
def c_Lx_15:VC:=
 .seq (.blk 1 (.r 5 [M 14 3,
  M 15 4,
  M 16 0,
  M 17 4,
  oX 18 16 17 3,
  {op:=.ld 19 (.s 18) 3 true},
  {op:=.call 20 110 [(.s 19)]},
  oX 21 14 15 3,
  oS 21 20 3])) c_Lx_18
def c_Lx_9:VC:=
 .seq (.seq (.r 3 [M 8 4,
  M 9 0,
  {op:=.len 10 (.s 9)},
  {op:=.bin 11 .lss (.s 8) (.s 10)}]) c_Lx_12) c_Lx_15
def c_Lx_7:VC:=
 .blk 0 (.loop [0,3,4] c_Lx_9)
def c_Lx_19:VC:=
 .seq (.r 6 [M 22 3,
  M 2 22]) (.ret)
def c_Lx_4:VC:=
 .seq (.seq (.r 2 [oN 4 0]) c_Lx_7) (.kp [3] c_Lx_19)
def c_Lx_2:VC:=
 .seq (.r 1 [M 5 0,
  {op:=.len 6 (.s 5)},
  {op:=.mk 7 (.s 6) q3 [(.int .i64 0),(.int .i64 0),(.string (ByteArray.mk #[]))] 4398046511104},
  M 3 7]) c_Lx_4
def c_Lx_0:VC:=
 .seq (.r 0 [{op:=.nil 2 q3}]) c_Lx_2
def vf_Lx:VF:={ pm:=[.ro [.ro q3]],rm:=[.v [.own q3]],nslots:=23,res:=[2],rc:=[],code:=.kp [0] c_Lx_0 }
def c_Lt_12:VC:=
 .ite (.s 11) (.skip) (.exit 0)
def c_Lt_18:VC:=
 .r 4 [M 12 4,
  {op:=.bin 13 .add (.s 12) (.k (.int .i64 1))},
  M 4 13]
def c_Lt_15:VC:=
 .seq (.blk 1 (.r 5 [M 14 3,
  M 15 4,
  M 16 0,
  M 17 4,
  oX 18 16 17 1,
  oL 19 18 1,
  oX 20 14 15 1,
  oS 20 19 1])) c_Lt_18
def c_Lt_9:VC:=
 .seq (.seq (.r 3 [M 8 4,
  M 9 0,
  {op:=.len 10 (.s 9)},
  {op:=.bin 11 .lss (.s 8) (.s 10)}]) c_Lt_12) c_Lt_15
def c_Lt_7:VC:=
 .blk 0 (.loop [0,3,4] c_Lt_9)
def c_Lt_19:VC:=
 .seq (.r 6 [M 21 3,
  M 2 21]) (.ret)
def c_Lt_4:VC:=
 .seq (.seq (.r 2 [oN 4 0]) c_Lt_7) (.kp [3] c_Lt_19)
def c_Lt_2:VC:=
 .seq (.r 1 [M 5 0,
  {op:=.len 6 (.s 5)},
  {op:=.mk 7 (.s 6) [.sc] [(.int .u8 0)] 140737488355328},
  M 3 7]) c_Lt_4
def c_Lt_0:VC:=
 .seq (.r 0 [{op:=.nil 2 [.sc]}]) c_Lt_2
def vf_Lt:VF:={ pm:=[.ro [.ro [.sc]]],rm:=[.v [.own [.sc]]],nslots:=22,res:=[2],rc:=[],code:=.kp [0] c_Lt_0 }
def c_Lu_14:VC:=
 .seq (.r 7 [{op:=.ld 20 (.s 3) 5 true},
  oS 2 20 5]) (.ret)
def c_Lu_12:VC:=
 .seq (.r 6 [oF 16 1 4,
  oL 17 16 1,
  {op:=.call 18 10 [(.s 17)]},
  oF 19 3 4,
  oS 19 18 1]) c_Lu_14
def c_Lu_10:VC:=
 .seq (.r 5 [oF 13 1 3,
  oL 14 13 1,
  oF 15 3 3,
  oS 15 14 1]) c_Lu_12
def c_Lu_8:VC:=
 .seq (.r 4 [oF 10 1 2,
  oL 11 10 1,
  oF 12 3 2,
  oS 12 11 1]) c_Lu_10
def c_Lu_6:VC:=
 .seq (.r 3 [oF 7 1 1,
  oL 8 7 1,
  oF 9 3 1,
  oS 9 8 1]) c_Lu_8
def c_Lu_4:VC:=
 .seq (.r 2 [oF 4 1 0,
  oL 5 4 1,
  oF 6 3 0,
  oS 6 5 1]) c_Lu_6
def c_Lu_2:VC:=
 .seq (.r 1 [{op:=.alloc 3 [.k (.int .i64 0),.k (.int .i64 0),.k (.int .i64 0),.k (.bool false),.o [.sc]]}]) c_Lu_4
def c_Lu_0:VC:=
 .seq (.r 0 [{op:=.box 1 (.s 0)},
  {op:=.alloc 2 [.k (.int .i64 0),.k (.int .i64 0),.k (.int .i64 0),.k (.bool false),.o [.sc]]}]) c_Lu_2
def vf_Lu:VF:={ pm:=[.ro q5],rm:=[.v [.sc,.sc,.sc,.sc,.own [.sc]]],nslots:=21,res:=[2],rc:=[some (5,true)],code:=.kp [0] c_Lu_0 }
def c_Lv_12:VC:=
 .ite (.s 11) (.skip) (.exit 0)
def c_Lv_18:VC:=
 .r 4 [M 12 4,
  {op:=.bin 13 .add (.s 12) (.k (.int .i64 1))},
  M 4 13]
def c_Lv_15:VC:=
 .seq (.blk 1 (.r 5 [M 14 3,
  M 15 4,
  M 16 0,
  M 17 4,
  oX 18 16 17 5,
  {op:=.ld 19 (.s 18) 5 true},
  {op:=.call 20 111 [(.s 19)]},
  oX 21 14 15 5,
  oS 21 20 5])) c_Lv_18
def c_Lv_9:VC:=
 .seq (.seq (.r 3 [M 8 4,
  M 9 0,
  {op:=.len 10 (.s 9)},
  {op:=.bin 11 .lss (.s 8) (.s 10)}]) c_Lv_12) c_Lv_15
def c_Lv_7:VC:=
 .blk 0 (.loop [0,3,4] c_Lv_9)
def c_Lv_19:VC:=
 .seq (.r 6 [M 22 3,
  M 2 22]) (.ret)
def c_Lv_4:VC:=
 .seq (.seq (.r 2 [oN 4 0]) c_Lv_7) (.kp [3] c_Lv_19)
def c_Lv_2:VC:=
 .seq (.r 1 [M 5 0,
  {op:=.len 6 (.s 5)},
  {op:=.mk 7 (.s 6) [.sc,.sc,.sc,.sc,.own [.sc]] [(.int .i64 0),(.int .i64 0),(.int .i64 0),(.bool false),(.slice none 0 0)] 2513169434916},
  M 3 7]) c_Lv_4
def c_Lv_0:VC:=
 .seq (.r 0 [{op:=.nil 2 [.sc,.sc,.sc,.sc,.own [.sc]]}]) c_Lv_2
def vf_Lv:VF:={ pm:=[.ro [.ro q5]],rm:=[.v [.own [.sc,.sc,.sc,.sc,.own [.sc]]]],nslots:=23,res:=[2],rc:=[],code:=.kp [0] c_Lv_0 }
def c_Ls_8:VC:=
 .seq (.r 4 [{op:=.ld 12 (.s 3) 2 true},
  oS 2 12 2]) (.ret)
def c_Ls_6:VC:=
 .seq (.r 3 [oF 8 1 1,
  oL 9 8 1,
  {op:=.call 10 53 [(.s 9)]},
  oF 11 3 1,
  oS 11 10 1]) c_Ls_8
def c_Ls_4:VC:=
 .seq (.r 2 [oF 4 1 0,
  oL 5 4 1,
  {op:=.call 6 52 [(.s 5)]},
  oF 7 3 0,
  oS 7 6 1]) c_Ls_6
def c_Ls_2:VC:=
 .seq (.r 1 [{op:=.alloc 3 [.o q3,.o [.sc,.sc,.sc,.sc,.own [.sc]]]}]) c_Ls_4
def c_Ls_0:VC:=
 .seq (.r 0 [{op:=.box 1 (.s 0)},
  {op:=.alloc 2 [.o q3,.o [.sc,.sc,.sc,.sc,.own [.sc]]]}]) c_Ls_2
def vf_Ls:VF:={ pm:=[.ro [.ro q3,.ro q5]],rm:=[.v [.own q3,.own [.sc,.sc,.sc,.sc,.own [.sc]]]],nslots:=13,res:=[2],rc:=[some (2,true)],code:=.kp [0] c_Ls_0 }
def c_Sf_10:VC:=
 .ite (.s 7) (.skip) (.exit 0)
def c_Sf_17:VC:=
 .ite (.s 19) (.seq (.r 5 [oK 2 false]) (.ret)) (.skip)
def c_Sf_22:VC:=
 .r 3 [M 8 3,
  {op:=.bin 9 .add (.s 8) (.k (.int .i64 1))},
  M 3 9]
def c_Sf_13:VC:=
 .seq (.blk 1 (.seq (.r 4 [M 10 0,
  M 11 3,
  {op:=.idx 12 (.s 10) (.s 11)},
  {op:=.bin 13 .lss (.s 12) (.k (.int .u8 32))},
  M 14 13,
  ⟨none,[],some (14,false),.mv 15 (.s 0)⟩,
  ⟨none,[],some (14,false),.mv 16 (.s 3)⟩,
  ⟨none,[],some (14,false),.idx 17 (.s 15) (.s 16)⟩,
  ⟨none,[],some (14,false),.bin 18 .gtr (.s 17) (.k (.int .u8 126))⟩,
  {op:=.pick 19 (.s 14) (.k (.bool true)) (.s 18)}]) c_Sf_17)) c_Sf_22
def c_Sf_7:VC:=
 .seq (.seq (.r 2 [M 4 3,
  M 5 0,
  {op:=.slen 6 (.s 5)},
  {op:=.bin 7 .lss (.s 4) (.s 6)}]) c_Sf_10) c_Sf_13
def c_Sf_5:VC:=
 .blk 0 (.loop [0,3] c_Sf_7)
def c_Sf_23:VC:=
 .seq (.r 6 [oK 2 true]) (.ret)
def c_Sf_2:VC:=
 .seq (.seq (.r 1 [oN 3 0]) c_Sf_5) (.kp [] c_Sf_23)
def c_Sf_0:VC:=
 .seq (.r 0 [oK 2 false]) c_Sf_2
def vf_Sf:VF:={ pm:=[.ro [.sc]],rm:=[.v [.sc]],nslots:=20,res:=[2],rc:=[],code:=.kp [0] c_Sf_0 }
def c_Sp_2:VC:=
 .seq (.r 1 [oF 3 1 0,
  oL 4 3 1,
  {op:=.bin 5 .geq (.s 4) (.k (.int .i64 1))},
  M 6 5,
  ⟨none,[],some (6,true),.fadr 7 (.s 1) 0⟩,
  ⟨none,[],some (6,true),.ld 8 (.s 7) 1 false⟩,
  ⟨none,[],some (6,true),.bin 9 .leq (.s 8) (.k (.int .i64 6))⟩,
  {op:=.pick 10 (.s 6) (.s 9) (.k (.bool false))},
  M 11 10,
  ⟨none,[],some (11,true),.fadr 12 (.s 1) 1⟩,
  ⟨none,[],some (11,true),.ld 13 (.s 12) 1 false⟩,
  ⟨none,[],some (11,true),.bin 14 .geq (.s 13) (.k (.int .i64 1))⟩,
  {op:=.pick 15 (.s 11) (.s 14) (.k (.bool false))},
  M 16 15,
  ⟨none,[],some (16,true),.fadr 17 (.s 1) 1⟩,
  ⟨none,[],some (16,true),.ld 18 (.s 17) 1 false⟩,
  ⟨none,[],some (16,true),.bin 19 .leq (.s 18) (.k (.int .i64 1000000))⟩,
  {op:=.pick 20 (.s 16) (.s 19) (.k (.bool false))},
  M 21 20,
  ⟨none,[],some (21,true),.fadr 22 (.s 1) 2⟩,
  ⟨none,[],some (21,true),.ld 23 (.s 22) 1 false⟩,
  ⟨none,[],some (21,true),.slen 24 (.s 23)⟩,
  ⟨none,[],some (21,true),.bin 25 .leq (.s 24) (.k (.int .i64 40))⟩,
  {op:=.pick 26 (.s 21) (.s 25) (.k (.bool false))},
  M 27 26,
  ⟨none,[],some (27,true),.fadr 28 (.s 1) 2⟩,
  ⟨none,[],some (27,true),.ld 29 (.s 28) 1 false⟩,
  ⟨none,[],some (27,true),.call 30 139 [(.s 29)]⟩,
  {op:=.pick 31 (.s 27) (.s 30) (.k (.bool false))},
  M 2 31]) (.ret)
def c_Sp_0:VC:=
 .seq (.r 0 [{op:=.box 1 (.s 0)},
  oK 2 false]) c_Sp_2
def vf_Sp:VF:={ pm:=[.ro q3],rm:=[.v [.sc]],nslots:=32,res:=[2],rc:=[],code:=.kp [0] c_Sp_0 }
def c_Sq_19:VC:=
 .ite (.s 13) (.seq (.r 5 [oK 2 false]) (.ret)) (.skip)
def c_Sq_17:VC:=
 .seq (.r 4 [{op:=.ld 11 (.s 4) 3 true},
  {op:=.call 12 97 [(.s 11)]},
  {op:=.un 13 .not (.s 12)}]) c_Sq_19
def c_Sq_24:VC:=
 .r 6 [{op:=.bin 14 .add (.s 7) (.k (.int .i64 1))},
  M 7 14]
def c_Sq_13:VC:=
 .seq (.blk 1 (.seq (.r 3 [oX 9 5 7 3,
  {op:=.ld 10 (.s 9) 3 true},
  {op:=.alloc 4 [.k (.int .i64 0),.k (.int .i64 0),.k (.string (ByteArray.mk #[]))]},
  oS 4 10 3]) c_Sq_17)) c_Sq_24
def c_Sq_9:VC:=
 .seq (.ite (.s 8) (.skip) (.exit 0)) c_Sq_13
def c_Sq_7:VC:=
 .seq (.r 2 [{op:=.bin 8 .lss (.s 7) (.s 6)}]) c_Sq_9
def c_Sq_5:VC:=
 .blk 0 (.loop [0,5,6,7] c_Sq_7)
def c_Sq_25:VC:=
 .seq (.r 7 [M 15 0,
  {op:=.len 16 (.s 15)},
  {op:=.bin 17 .geq (.s 16) (.k (.int .i64 1))},
  M 18 17,
  ⟨none,[],some (18,true),.mv 19 (.s 0)⟩,
  ⟨none,[],some (18,true),.len 20 (.s 19)⟩,
  ⟨none,[],some (18,true),.bin 21 .leq (.s 20) (.k (.int .i64 8))⟩,
  {op:=.pick 22 (.s 18) (.s 21) (.k (.bool false))},
  M 2 22]) (.ret)
def c_Sq_2:VC:=
 .seq (.seq (.r 1 [M 5 0,
  {op:=.len 6 (.s 5)},
  oN 7 0]) c_Sq_5) (.kp [0] c_Sq_25)
def c_Sq_0:VC:=
 .seq (.r 0 [oK 2 false]) c_Sq_2
def vf_Sq:VF:={ pm:=[.ro [.ro q3]],rm:=[.v [.sc]],nslots:=23,res:=[2],rc:=[],code:=.kp [0] c_Sq_0 }
def c_So_2:VC:=
 .seq (.r 1 [M 3 0,
  {op:=.bin 4 .geq (.s 3) (.k (.int .i64 0))},
  M 5 4,
  ⟨none,[],some (5,true),.mv 6 (.s 0)⟩,
  ⟨none,[],some (5,true),.bin 7 .leq (.s 6) (.k (.int .i64 1000000000))⟩,
  {op:=.pick 8 (.s 5) (.s 7) (.k (.bool false))},
  M 2 8]) (.ret)
def c_So_0:VC:=
 .seq (.r 0 [oK 2 false]) c_So_2
def vf_So:VF:={ pm:=[.ro [.sc]],rm:=[.v [.sc]],nslots:=9,res:=[2],rc:=[],code:=.kp [0] c_So_0 }
def c_Sn_5:VC:=
 .ite (.s 17) (.seq (.r 2 [oK 2 false]) (.ret)) (.skip)
def c_Sn_27:VC:=
 .r 7 [M 27 3,
  M 28 4,
  oX 29 27 28 1,
  {op:=.st (.s 29) (.k (.int .i64 (-1))) 1}]
def c_Sn_28:VC:=
 .r 8 [{op:=.bin 30 .add (.s 24) (.k (.int .i64 1))},
  M 24 30]
def c_Sn_23:VC:=
 .seq (.blk 1 (.seq (.r 6 [M 26 24,
  M 4 26]) c_Sn_27)) c_Sn_28
def c_Sn_19:VC:=
 .seq (.ite (.s 25) (.skip) (.exit 0)) c_Sn_23
def c_Sn_17:VC:=
 .seq (.r 5 [{op:=.bin 25 .lss (.s 24) (.s 23)}]) c_Sn_19
def c_Sn_15:VC:=
 .blk 0 (.loop [1,3,23,24] c_Sn_17)
def c_Sn_49:VC:=
 .ite (.s 60) (.seq (.r 14 [oK 2 false]) (.ret)) (.skip)
def c_Sn_57:VC:=
 .ite (.s 81) (.seq (.r 16 [oK 2 false]) (.ret)) (.skip)
def c_Sn_68:VC:=
 .ite (.s 94) (.seq (.r 20 [oK 2 false]) (.ret)) (.skip)
def c_Sn_66:VC:=
 .seq (.r 19 [M 93 5,
  {op:=.bin 94 .gtr (.s 93) (.k (.int .i64 60000))}]) c_Sn_68
def c_Sn_64:VC:=
 .seq (.r 18 [M 88 5,
  oF 89 7 4,
  oL 90 89 1,
  {op:=.len 91 (.s 90)},
  {op:=.bin 92 .add (.s 88) (.s 91)},
  M 5 92]) c_Sn_66
def c_Sn_62:VC:=
 .seq (.r 17 [M 82 3,
  oF 83 7 0,
  oL 84 83 1,
  oF 85 7 1,
  oL 86 85 1,
  oX 87 82 84 1,
  oS 87 86 1]) c_Sn_64
def c_Sn_54:VC:=
 .seq (.seq (.d 15 [(0,oG 61 7 1),
  (1,oV 62 61 1),
  (2,M 63 3),
  (3,oG 64 7 0),
  (4,oV 65 64 1),
  (5,oX 66 63 65 1),
  (6,oL 67 66 1),
  (7,{op:=.bin 68 .lss (.s 62) (.s 67)}),
  (8,M 69 68),
  (9,⟨none,[],some (69,false),.mv 70 (.s 3)⟩),
  (10,⟨none,[],some (69,false),.fadv 71 (.s 7) 0⟩),
  (11,⟨none,[],some (69,false),.ldv 72 (.s 71) 1 false⟩),
  (12,⟨none,[],some (69,false),.iadr 73 (.s 70) (.s 72) 1⟩),
  (13,⟨none,[],some (69,false),.ld 74 (.s 73) 1 false⟩),
  (14,⟨none,[],some (69,false),.bin 75 .lss (.s 74) (.k (.int .i64 0))⟩),
  (15,⟨none,[],some (69,false),.mv 76 (.s 75)⟩),
  (16,⟨none,[],some (76,true),.fadv 77 (.s 7) 3⟩),
  (17,⟨none,[],some (76,true),.ldv 78 (.s 77) 1 false⟩),
  (18,⟨none,[],some (76,true),.un 79 .not (.s 78)⟩),
  (19,⟨none,[],some (69,false),.pick 80 (.s 76) (.s 79) (.k (.bool false))⟩),
  (20,{op:=.pick 81 (.s 69) (.k (.bool true)) (.s 80)})]) c_Sn_57) (.kp [1,3,5,7,32,33,34] c_Sn_62)
def c_Sn_46:VC:=
 .seq (.seq (.r 13 [oF 38 7 0,
  oL 39 38 1,
  {op:=.bin 40 .lss (.s 39) (.k (.int .i64 0))},
  M 41 40,
  ⟨none,[],some (41,false),.fadr 42 (.s 7) 0⟩,
  ⟨none,[],some (41,false),.ld 43 (.s 42) 1 false⟩,
  ⟨none,[],some (41,false),.fadr 44 (.s 1) 0⟩,
  ⟨none,[],some (41,false),.ld 45 (.s 44) 1 false⟩,
  ⟨none,[],some (41,false),.len 46 (.s 45)⟩,
  ⟨none,[],some (41,false),.bin 47 .geq (.s 43) (.s 46)⟩,
  {op:=.pick 48 (.s 41) (.k (.bool true)) (.s 47)},
  M 49 48,
  ⟨none,[],some (49,false),.fadr 50 (.s 7) 1⟩,
  ⟨none,[],some (49,false),.ld 51 (.s 50) 1 false⟩,
  ⟨none,[],some (49,false),.call 52 127 [(.s 51)]⟩,
  ⟨none,[],some (49,false),.un 53 .not (.s 52)⟩,
  {op:=.pick 54 (.s 49) (.k (.bool true)) (.s 53)},
  M 55 54,
  ⟨none,[],some (55,false),.fadr 56 (.s 7) 2⟩,
  ⟨none,[],some (55,false),.ld 57 (.s 56) 1 false⟩,
  ⟨none,[],some (55,false),.call 58 127 [(.s 57)]⟩,
  ⟨none,[],some (55,false),.un 59 .not (.s 58)⟩,
  {op:=.pick 60 (.s 55) (.k (.bool true)) (.s 59)}]) c_Sn_49) c_Sn_54
def c_Sn_73:VC:=
 .r 21 [{op:=.bin 95 .add (.s 34) (.k (.int .i64 1))},
  M 34 95]
def c_Sn_42:VC:=
 .seq (.blk 3 (.seq (.r 12 [oX 36 32 34 5,
  {op:=.ld 37 (.s 36) 5 true},
  {op:=.alloc 7 [.k (.int .i64 0),.k (.int .i64 0),.k (.int .i64 0),.k (.bool false),.o [.sc]]},
  oS 7 37 5]) c_Sn_46)) c_Sn_73
def c_Sn_38:VC:=
 .seq (.ite (.s 35) (.skip) (.exit 2)) c_Sn_42
def c_Sn_36:VC:=
 .seq (.r 11 [{op:=.bin 35 .lss (.s 34) (.s 33)}]) c_Sn_38
def c_Sn_34:VC:=
 .blk 2 (.loop [1,3,5,32,33,34] c_Sn_36)
def c_Sn_74:VC:=
 .seq (.r 22 [oK 2 true]) (.ret)
def c_Sn_31:VC:=
 .seq (.seq (.r 10 [oF 31 1 1,
  oL 32 31 1,
  {op:=.len 33 (.s 32)},
  oN 34 0]) c_Sn_34) (.kp [] c_Sn_74)
def c_Sn_29:VC:=
 .seq (.r 9 [oN 5 0]) c_Sn_31
def c_Sn_12:VC:=
 .seq (.seq (.r 4 [M 22 3,
  {op:=.len 23 (.s 22)},
  oN 24 0]) c_Sn_15) (.kp [1,3] c_Sn_29)
def c_Sn_10:VC:=
 .seq (.r 3 [oF 18 1 0,
  oL 19 18 1,
  {op:=.len 20 (.s 19)},
  {op:=.mk 21 (.s 20) [.sc] [(.int .i64 0)] 17592186044416},
  M 3 21]) c_Sn_12
def c_Sn_2:VC:=
 .seq (.seq (.r 1 [oF 8 1 0,
  oL 9 8 1,
  {op:=.call 10 142 [(.s 9)]},
  {op:=.un 11 .not (.s 10)},
  M 12 11,
  ⟨none,[],some (12,false),.fadr 13 (.s 1) 1⟩,
  ⟨none,[],some (12,false),.ld 14 (.s 13) 1 false⟩,
  ⟨none,[],some (12,false),.len 15 (.s 14)⟩,
  ⟨none,[],some (12,false),.bin 16 .gtr (.s 15) (.k (.int .i64 400))⟩,
  {op:=.pick 17 (.s 12) (.k (.bool true)) (.s 16)}]) c_Sn_5) c_Sn_10
def c_Sn_0:VC:=
 .seq (.r 0 [{op:=.box 1 (.s 0)},
  oK 2 false]) c_Sn_2
def vf_Sn:VF:={ pm:=[.ro [.ro q3,.ro q5]],rm:=[.v [.sc]],nslots:=96,res:=[2],rc:=[],code:=.kp [0] c_Sn_0 }
def c_Sg_20:VC:=
 .ite (.s 48) (.seq (.r 8 [oF 54 7 0,
  oL 55 54 1,
  oF 56 8 0,
  oL 57 56 1,
  {op:=.bin 58 .lss (.s 55) (.s 57)},
  M 6 58]) (.ret)) (.skip)
def c_Sg_14:VC:=
 .ite (.s 41) (.seq (.r 6 [M 45 9,
  M 46 10,
  {op:=.bin 47 .lss (.s 45) (.s 46)},
  M 6 47]) (.ret)) (.seq (.r 7 [oF 49 7 0,
  oL 50 49 1,
  oF 51 8 0,
  oL 52 51 1,
  {op:=.bin 53 .neq (.s 50) (.s 52)},
  M 48 53]) c_Sg_20)
def c_Sg_25:VC:=
 .seq (.r 9 [M 59 1,
  M 60 2,
  {op:=.bin 61 .lss (.s 59) (.s 60)},
  M 6 61]) (.ret)
def c_Sg_10:VC:=
 .seq (.blk 0 (.seq (.r 5 [M 42 9,
  M 43 10,
  {op:=.bin 44 .neq (.s 42) (.s 43)},
  M 41 44]) c_Sg_14)) c_Sg_25
def c_Sg_8:VC:=
 .seq (.d 4 [(0,oG 31 8 1),
  (1,oV 32 31 1),
  (2,oG 33 3 0),
  (3,oV 34 33 1),
  (4,oG 35 7 0),
  (5,oV 36 35 1),
  (6,oX 37 34 36 3),
  (7,oG 38 37 1),
  (8,oV 39 38 1),
  (9,{op:=.bin 40 .mul (.s 32) (.s 39)}),
  (10,M 10 40)]) c_Sg_10
def c_Sg_6:VC:=
 .seq (.d 3 [(0,oG 21 7 1),
  (1,oV 22 21 1),
  (2,oG 23 3 0),
  (3,oV 24 23 1),
  (4,oG 25 8 0),
  (5,oV 26 25 1),
  (6,oX 27 24 26 3),
  (7,oG 28 27 1),
  (8,oV 29 28 1),
  (9,{op:=.bin 30 .mul (.s 22) (.s 29)}),
  (10,M 9 30)]) c_Sg_8
def c_Sg_4:VC:=
 .seq (.r 2 [oF 16 3 1,
  oL 17 16 1,
  M 18 2,
  oX 19 17 18 5,
  {op:=.ld 20 (.s 19) 5 true},
  {op:=.alloc 8 [.k (.int .i64 0),.k (.int .i64 0),.k (.int .i64 0),.k (.bool false),.o [.sc]]},
  oS 8 20 5]) c_Sg_6
def c_Sg_2:VC:=
 .seq (.r 1 [oF 11 3 1,
  oL 12 11 1,
  M 13 1,
  oX 14 12 13 5,
  {op:=.ld 15 (.s 14) 5 true},
  {op:=.alloc 7 [.k (.int .i64 0),.k (.int .i64 0),.k (.int .i64 0),.k (.bool false),.o [.sc]]},
  oS 7 15 5]) c_Sg_4
def c_Sg_0:VC:=
 .seq (.r 0 [{op:=.box 3 (.s 0)},
  oK 6 false]) c_Sg_2
def vf_Sg:VF:={ pm:=[.ro [.ro q3,.ro q5],.ro [.sc],.ro [.sc]],rm:=[.v [.sc]],nslots:=62,res:=[6],rc:=[],code:=.kp [0,1,2] c_Sg_0 }
def c_Sb_5:VC:=
 .ite (.s 6) (.seq (.r 2 [oK 2 false]) (.ret)) (.skip)
def c_Sb_18:VC:=
 .ite (.s 11) (.skip) (.exit 0)
def c_Sb_25:VC:=
 .ite (.s 19) (.seq (.r 7 [oK 2 false]) (.ret)) (.skip)
def c_Sb_30:VC:=
 .r 5 [M 12 3,
  {op:=.bin 13 .add (.s 12) (.k (.int .i64 1))},
  M 3 13]
def c_Sb_21:VC:=
 .seq (.blk 1 (.seq (.r 6 [{op:=.ld 14 (.s 1) 2 true},
  M 15 3,
  {op:=.bin 16 .sub (.s 15) (.k (.int .i64 1))},
  M 17 3,
  {op:=.call 18 104 [(.s 14),(.s 16),(.s 17)]},
  {op:=.un 19 .not (.s 18)}]) c_Sb_25)) c_Sb_30
def c_Sb_15:VC:=
 .seq (.seq (.r 4 [M 7 3,
  oF 8 1 1,
  oL 9 8 1,
  {op:=.len 10 (.s 9)},
  {op:=.bin 11 .lss (.s 7) (.s 10)}]) c_Sb_18) c_Sb_21
def c_Sb_13:VC:=
 .blk 0 (.loop [1,3] c_Sb_15)
def c_Sb_31:VC:=
 .seq (.r 8 [oK 2 true]) (.ret)
def c_Sb_10:VC:=
 .seq (.seq (.r 3 [oN 3 1]) c_Sb_13) (.kp [] c_Sb_31)
def c_Sb_2:VC:=
 .seq (.seq (.r 1 [{op:=.ld 4 (.s 1) 2 true},
  {op:=.call 5 103 [(.s 4)]},
  {op:=.un 6 .not (.s 5)}]) c_Sb_5) c_Sb_10
def c_Sb_0:VC:=
 .seq (.r 0 [{op:=.box 1 (.s 0)},
  oK 2 false]) c_Sb_2
def vf_Sb:VF:={ pm:=[.ro [.ro q3,.ro q5]],rm:=[.v [.sc]],nslots:=20,res:=[2],rc:=[],code:=.kp [0] c_Sb_0 }
def c_Sc_10:VC:=
 .ite (.s 5) (.skip) (.exit 0)
def c_Sc_16:VC:=
 .r 4 [M 13 0,
  {op:=.bin 14 .quo (.s 13) (.k (.int .u64 128))},
  M 0 14]
def c_Sc_13:VC:=
 .blk 1 (.seq (.r 3 [M 6 3,
  M 7 0,
  {op:=.bin 8 .rem (.s 7) (.k (.int .u64 128))},
  {op:=.conv 9 .u8 (.s 8)},
  {op:=.bin 10 .add (.s 9) (.k (.int .u8 128))},
  {op:=.lits 11 [.sc] [(.s 10)]},
  {op:=.app 12 (.s 6) (.s 11) [.sc] 140737488355328},
  M 3 12]) c_Sc_16)
def c_Sc_7:VC:=
 .seq (.seq (.r 2 [M 4 0,
  {op:=.bin 5 .geq (.s 4) (.k (.int .u64 128))}]) c_Sc_10) c_Sc_13
def c_Sc_17:VC:=
 .seq (.r 5 [M 15 3,
  M 16 0,
  {op:=.conv 17 .u8 (.s 16)},
  {op:=.lits 18 [.sc] [(.s 17)]},
  {op:=.app 19 (.s 15) (.s 18) [.sc] 140737488355328},
  M 2 19]) (.ret)
def c_Sc_4:VC:=
 .seq (.blk 0 (.loop [0,3] c_Sc_7)) (.kp [0,3] c_Sc_17)
def c_Sc_2:VC:=
 .seq (.r 1 [{op:=.nil 3 [.sc]}]) c_Sc_4
def c_Sc_0:VC:=
 .seq (.r 0 [{op:=.nil 2 [.sc]}]) c_Sc_2
def vf_Sc:VF:={ pm:=[.ro [.sc]],rm:=[.v [.own [.sc]]],nslots:=20,res:=[2],rc:=[],code:=.kp [0] c_Sc_0 }
def c_Sm_17:VC:=
 .r 4 [M 13 0,
  M 14 6,
  {op:=.conv 15 .u64 (.s 14)},
  {op:=.call 16 143 [(.s 15)]},
  {op:=.app 17 (.s 13) (.s 16) [.sc] 140737488355328},
  M 0 17]
def c_Sm_18:VC:=
 .r 5 [{op:=.bin 18 .add (.s 9) (.k (.int .i64 1))},
  M 9 18]
def c_Sm_13:VC:=
 .seq (.blk 1 (.seq (.r 3 [oX 11 7 9 1,
  oL 12 11 1,
  M 6 12]) c_Sm_17)) c_Sm_18
def c_Sm_9:VC:=
 .seq (.ite (.s 10) (.skip) (.exit 0)) c_Sm_13
def c_Sm_7:VC:=
 .seq (.r 2 [{op:=.bin 10 .lss (.s 9) (.s 8)}]) c_Sm_9
def c_Sm_5:VC:=
 .blk 0 (.loop [0,7,8,9] c_Sm_7)
def c_Sm_19:VC:=
 .seq (.r 6 [M 19 0,
  M 4 19]) (.ret)
def c_Sm_2:VC:=
 .seq (.seq (.r 1 [M 7 1,
  {op:=.len 8 (.s 7)},
  oN 9 0]) c_Sm_5) (.kp [0] c_Sm_19)
def c_Sm_0:VC:=
 .seq (.r 0 [{op:=.nil 4 [.sc]}]) c_Sm_2
def vf_Sm:VF:={ pm:=[.mv [.own [.sc]],.ro [.ro [.sc]]],rm:=[.v [.own [.sc]]],nslots:=20,res:=[4],rc:=[],code:=.kp [0,1] c_Sm_0 }
def c_Sa_28:VC:=
 .ite (.s 19) (.skip) (.exit 2)
def c_Sa_39:VC:=
 .ite (.s 27) (.r 12 [M 28 3,
  {op:=.bin 29 .xor (.s 28) (.k (.int .u32 3988292384))},
  M 3 29]) (.skip)
def c_Sa_37:VC:=
 .seq (.r 11 [M 26 7,
  {op:=.bin 27 .eql (.s 26) (.k (.int .u32 1))}]) c_Sa_39
def c_Sa_35:VC:=
 .seq (.r 10 [M 24 3,
  {op:=.bin 25 .shr (.s 24) (.k (.int .u64 1))},
  M 3 25]) c_Sa_37
def c_Sa_42:VC:=
 .r 8 [M 20 6,
  {op:=.bin 21 .add (.s 20) (.k (.int .i64 1))},
  M 6 21]
def c_Sa_31:VC:=
 .seq (.blk 3 (.seq (.r 9 [M 22 3,
  {op:=.bin 23 .and (.s 22) (.k (.int .u32 1))},
  M 7 23]) c_Sa_35)) c_Sa_42
def c_Sa_25:VC:=
 .seq (.seq (.r 7 [M 18 6,
  {op:=.bin 19 .lss (.s 18) (.k (.int .i64 8))}]) c_Sa_28) c_Sa_31
def c_Sa_23:VC:=
 .blk 2 (.loop [3,6,8,9,10] c_Sa_25)
def c_Sa_21:VC:=
 .seq (.r 6 [oN 6 0]) c_Sa_23
def c_Sa_19:VC:=
 .seq (.r 5 [M 14 3,
  M 15 5,
  {op:=.conv 16 .u32 (.s 15)},
  {op:=.bin 17 .xor (.s 14) (.s 16)},
  M 3 17]) c_Sa_21
def c_Sa_43:VC:=
 .r 13 [{op:=.bin 30 .add (.s 10) (.k (.int .i64 1))},
  M 10 30]
def c_Sa_15:VC:=
 .seq (.blk 1 (.seq (.r 4 [oX 12 8 10 1,
  oL 13 12 1,
  M 5 13]) c_Sa_19)) (.kp [3,8,9,10] c_Sa_43)
def c_Sa_11:VC:=
 .seq (.ite (.s 11) (.skip) (.exit 0)) c_Sa_15
def c_Sa_9:VC:=
 .seq (.r 3 [{op:=.bin 11 .lss (.s 10) (.s 9)}]) c_Sa_11
def c_Sa_7:VC:=
 .blk 0 (.loop [3,8,9,10] c_Sa_9)
def c_Sa_44:VC:=
 .seq (.r 14 [M 31 3,
  {op:=.un 32 .xor (.s 31)},
  M 2 32]) (.ret)
def c_Sa_4:VC:=
 .seq (.seq (.r 2 [M 8 0,
  {op:=.len 9 (.s 8)},
  oN 10 0]) c_Sa_7) (.kp [3] c_Sa_44)
def c_Sa_2:VC:=
 .seq (.r 1 [{op:=.mv 3 (.k (.int .u32 4294967295))}]) c_Sa_4
def c_Sa_0:VC:=
 .seq (.r 0 [{op:=.mv 2 (.k (.int .u32 0))}]) c_Sa_2
def vf_Sa:VF:={ pm:=[.ro [.ro [.sc]]],rm:=[.v [.sc]],nslots:=33,res:=[2],rc:=[],code:=.kp [0] c_Sa_0 }
def c_Sr_2:VC:=
 .seq (.r 1 [M 3 0,
  {op:=.bin 4 .shr (.s 3) (.k (.int .u64 24))},
  {op:=.conv 5 .u8 (.s 4)},
  M 6 0,
  {op:=.bin 7 .shr (.s 6) (.k (.int .u64 16))},
  {op:=.conv 8 .u8 (.s 7)},
  M 9 0,
  {op:=.bin 10 .shr (.s 9) (.k (.int .u64 8))},
  {op:=.conv 11 .u8 (.s 10)},
  M 12 0,
  {op:=.conv 13 .u8 (.s 12)},
  {op:=.lits 14 [.sc] [(.s 5),(.s 8),(.s 11),(.s 13)]},
  M 2 14]) (.ret)
def c_Sr_0:VC:=
 .seq (.r 0 [{op:=.nil 2 [.sc]}]) c_Sr_2
def vf_Sr:VF:={ pm:=[.ro [.sc]],rm:=[.v [.own [.sc]]],nslots:=15,res:=[2],rc:=[],code:=.kp [0] c_Sr_0 }
def c_Sh_25:VC:=
 .r 8 [M 34 3,
  oF 35 5 2,
  oL 36 35 1,
  {op:=.apps 37 (.s 34) (.s 36) 140737488355328},
  M 3 37]
def c_Sh_23:VC:=
 .seq (.r 7 [M 27 3,
  oF 28 5 2,
  oL 29 28 1,
  {op:=.slen 30 (.s 29)},
  {op:=.conv 31 .u8 (.s 30)},
  {op:=.lits 32 [.sc] [(.s 31)]},
  {op:=.app 33 (.s 27) (.s 32) [.sc] 140737488355328},
  M 3 33]) c_Sh_25
def c_Sh_21:VC:=
 .seq (.r 6 [M 22 3,
  oF 23 5 1,
  oL 24 23 1,
  {op:=.lits 25 [.sc] [(.s 24)]},
  {op:=.call 26 105 [(.s 22),(.s 25)]},
  M 3 26]) c_Sh_23
def c_Sh_19:VC:=
 .seq (.r 5 [M 16 3,
  oF 17 5 0,
  oL 18 17 1,
  {op:=.conv 19 .u8 (.s 18)},
  {op:=.lits 20 [.sc] [(.s 19)]},
  {op:=.app 21 (.s 16) (.s 20) [.sc] 140737488355328},
  M 3 21]) c_Sh_21
def c_Sh_26:VC:=
 .r 9 [{op:=.bin 38 .add (.s 12) (.k (.int .i64 1))},
  M 12 38]
def c_Sh_15:VC:=
 .seq (.blk 1 (.seq (.r 4 [oX 14 10 12 3,
  {op:=.ld 15 (.s 14) 3 true},
  {op:=.alloc 5 [.k (.int .i64 0),.k (.int .i64 0),.k (.string (ByteArray.mk #[]))]},
  oS 5 15 3]) c_Sh_19)) c_Sh_26
def c_Sh_11:VC:=
 .seq (.ite (.s 13) (.skip) (.exit 0)) c_Sh_15
def c_Sh_9:VC:=
 .seq (.r 3 [{op:=.bin 13 .lss (.s 12) (.s 11)}]) c_Sh_11
def c_Sh_7:VC:=
 .blk 0 (.loop [3,10,11,12] c_Sh_9)
def c_Sh_27:VC:=
 .seq (.r 10 [M 39 3,
  M 40 3,
  {op:=.call 41 107 [(.s 40)]},
  {op:=.call 42 106 [(.s 41)]},
  {op:=.app 43 (.s 39) (.s 42) [.sc] 140737488355328},
  M 2 43]) (.ret)
def c_Sh_4:VC:=
 .seq (.seq (.r 2 [M 10 0,
  {op:=.len 11 (.s 10)},
  oN 12 0]) c_Sh_7) (.kp [3] c_Sh_27)
def c_Sh_2:VC:=
 .seq (.r 1 [M 6 0,
  {op:=.len 7 (.s 6)},
  {op:=.conv 8 .u8 (.s 7)},
  {op:=.lits 9 [.sc] [(.k (.int .u8 66)),(.k (.int .u8 79)),(.k (.int .u8 88)),(.k (.int .u8 49)),(.s 8)]},
  M 3 9]) c_Sh_4
def c_Sh_0:VC:=
 .seq (.r 0 [{op:=.nil 2 [.sc]}]) c_Sh_2
def vf_Sh:VF:={ pm:=[.ro [.ro q3]],rm:=[.v [.own [.sc]]],nslots:=44,res:=[2],rc:=[],code:=.kp [0] c_Sh_0 }
def c_Sl_2:VC:=
 .seq (.r 1 [{op:=.lits 1 [.sc] [(.k (.int .u8 27)),(.k (.int .u8 80)),(.k (.int .u8 73)),(.k (.int .u8 69)),(.k (.int .u8 67)),(.k (.int .u8 69)),(.k (.int .u8 10)),(.k (.int .u8 0))]},
  M 0 1]) (.ret)
def c_Sl_0:VC:=
 .seq (.r 0 [{op:=.nil 0 [.sc]}]) c_Sl_2
def vf_Sl:VF:={ pm:=[],rm:=[.v [.own [.sc]]],nslots:=2,res:=[0],rc:=[],code:=.kp [] c_Sl_0 }
def c_Se_5:VC:=
 .ite (.s 3) (.seq (.r 2 [oN 2 1]) (.ret)) (.skip)
def c_Se_10:VC:=
 .seq (.r 3 [oN 2 0]) (.ret)
def c_Se_2:VC:=
 .seq (.seq (.r 1 [M 3 0]) c_Se_5) c_Se_10
def c_Se_0:VC:=
 .seq (.r 0 [oN 2 0]) c_Se_2
def vf_Se:VF:={ pm:=[.ro [.sc]],rm:=[.v [.sc]],nslots:=4,res:=[2],rc:=[],code:=.kp [0] c_Se_0 }
def c_Sk_21:VC:=
 .d 6 [(0,M 23 5),
  (1,oG 24 7 0),
  (2,oV 25 24 1),
  (3,oG 26 7 1),
  (4,oV 27 26 1),
  (5,oG 28 7 2),
  (6,oV 29 28 1),
  (7,oG 30 7 3),
  (8,oV 31 30 1),
  (9,{op:=.call 32 108 [(.s 31)]}),
  (10,oG 33 7 4),
  (11,oV 34 33 1),
  (12,{op:=.len 35 (.s 34)}),
  (13,{op:=.lits 36 [.sc] [(.s 25),(.s 27),(.s 29),(.s 32),(.s 35)]}),
  (14,{op:=.call 37 105 [(.s 23),(.s 36)]}),
  (15,M 5 37)]
def c_Sk_22:VC:=
 .r 7 [{op:=.bin 38 .add (.s 19) (.k (.int .i64 1))},
  M 19 38]
def c_Sk_17:VC:=
 .seq (.blk 1 (.seq (.r 5 [oX 21 17 19 5,
  {op:=.ld 22 (.s 21) 5 true},
  {op:=.alloc 7 [.k (.int .i64 0),.k (.int .i64 0),.k (.int .i64 0),.k (.bool false),.o [.sc]]},
  oS 7 22 5]) c_Sk_21)) c_Sk_22
def c_Sk_13:VC:=
 .seq (.ite (.s 20) (.skip) (.exit 0)) c_Sk_17
def c_Sk_11:VC:=
 .seq (.r 4 [{op:=.bin 20 .lss (.s 19) (.s 18)}]) c_Sk_13
def c_Sk_9:VC:=
 .blk 0 (.loop [1,5,17,18,19] c_Sk_11)
def c_Sk_38:VC:=
 .r 11 [M 45 5,
  oF 46 9 4,
  oL 47 46 1,
  {op:=.app 48 (.s 45) (.s 47) [.sc] 140737488355328},
  M 5 48]
def c_Sk_39:VC:=
 .r 12 [{op:=.bin 49 .add (.s 41) (.k (.int .i64 1))},
  M 41 49]
def c_Sk_34:VC:=
 .seq (.blk 3 (.seq (.r 10 [oX 43 39 41 5,
  {op:=.ld 44 (.s 43) 5 true},
  {op:=.alloc 9 [.k (.int .i64 0),.k (.int .i64 0),.k (.int .i64 0),.k (.bool false),.o [.sc]]},
  oS 9 44 5]) c_Sk_38)) c_Sk_39
def c_Sk_30:VC:=
 .seq (.ite (.s 42) (.skip) (.exit 2)) c_Sk_34
def c_Sk_28:VC:=
 .seq (.r 9 [{op:=.bin 42 .lss (.s 41) (.s 40)}]) c_Sk_30
def c_Sk_26:VC:=
 .blk 2 (.loop [5,39,40,41] c_Sk_28)
def c_Sk_40:VC:=
 .seq (.r 13 [M 50 5,
  M 51 5,
  {op:=.call 52 107 [(.s 51)]},
  {op:=.call 53 106 [(.s 52)]},
  {op:=.app 54 (.s 50) (.s 53) [.sc] 140737488355328},
  M 4 54]) (.ret)
def c_Sk_23:VC:=
 .seq (.seq (.r 8 [M 39 1,
  {op:=.len 40 (.s 39)},
  oN 41 0]) c_Sk_26) (.kp [5] c_Sk_40)
def c_Sk_6:VC:=
 .seq (.seq (.r 3 [M 17 1,
  {op:=.len 18 (.s 17)},
  oN 19 0]) c_Sk_9) (.kp [1,5] c_Sk_23)
def c_Sk_4:VC:=
 .seq (.r 2 [M 11 5,
  M 12 0,
  M 13 1,
  {op:=.len 14 (.s 13)},
  {op:=.lits 15 [.sc] [(.s 12),(.s 14)]},
  {op:=.call 16 105 [(.s 11),(.s 15)]},
  M 5 16]) c_Sk_6
def c_Sk_2:VC:=
 .seq (.r 1 [{op:=.call 10 80 []},
  M 5 10]) c_Sk_4
def c_Sk_0:VC:=
 .seq (.r 0 [{op:=.nil 4 [.sc]}]) c_Sk_2
def vf_Sk:VF:={ pm:=[.ro [.sc],.ro [.ro q5]],rm:=[.v [.own [.sc]]],nslots:=55,res:=[4],rc:=[],code:=.kp [0,1] c_Sk_0 }
def c_Sj_2:VC:=
 .seq (.r 1 [{op:=.lits 1 [.sc] [(.k (.int .u8 27)),(.k (.int .u8 73)),(.k (.int .u8 78)),(.k (.int .u8 68)),(.k (.int .u8 69)),(.k (.int .u8 88)),(.k (.int .u8 10)),(.k (.int .u8 0))]},
  M 0 1]) (.ret)
def c_Sj_0:VC:=
 .seq (.r 0 [{op:=.nil 0 [.sc]}]) c_Sj_2
def vf_Sj:VF:={ pm:=[],rm:=[.v [.own [.sc]]],nslots:=2,res:=[0],rc:=[],code:=.kp [] c_Sj_0 }
def c_Si_21:VC:=
 .r 6 [M 20 5,
  oF 21 7 0,
  oL 22 21 1,
  oF 23 7 1,
  oL 24 23 1,
  oF 25 7 2,
  oL 26 25 1,
  {op:=.lits 27 [.sc] [(.s 22),(.s 24),(.s 26)]},
  {op:=.call 28 105 [(.s 20),(.s 27)]},
  M 5 28]
def c_Si_22:VC:=
 .r 7 [{op:=.bin 29 .add (.s 16) (.k (.int .i64 1))},
  M 16 29]
def c_Si_17:VC:=
 .seq (.blk 1 (.seq (.r 5 [oX 18 14 16 3,
  {op:=.ld 19 (.s 18) 3 true},
  {op:=.alloc 7 [.k (.int .i64 0),.k (.int .i64 0),.k (.int .i64 0)]},
  oS 7 19 3]) c_Si_21)) c_Si_22
def c_Si_13:VC:=
 .seq (.ite (.s 17) (.skip) (.exit 0)) c_Si_17
def c_Si_11:VC:=
 .seq (.r 4 [{op:=.bin 17 .lss (.s 16) (.s 15)}]) c_Si_13
def c_Si_9:VC:=
 .blk 0 (.loop [1,5,14,15,16] c_Si_11)
def c_Si_25:VC:=
 .seq (.r 9 [M 34 5,
  M 35 5,
  {op:=.call 36 107 [(.s 35)]},
  {op:=.call 37 106 [(.s 36)]},
  {op:=.app 38 (.s 34) (.s 37) [.sc] 140737488355328},
  M 4 38]) (.ret)
def c_Si_23:VC:=
 .seq (.r 8 [M 30 5,
  M 31 1,
  {op:=.lits 32 [.sc] [(.s 31)]},
  {op:=.call 33 105 [(.s 30),(.s 32)]},
  M 5 33]) c_Si_25
def c_Si_6:VC:=
 .seq (.seq (.r 3 [M 14 0,
  {op:=.len 15 (.s 14)},
  oN 16 0]) c_Si_9) (.kp [1,5] c_Si_23)
def c_Si_4:VC:=
 .seq (.r 2 [M 9 5,
  M 10 0,
  {op:=.len 11 (.s 10)},
  {op:=.lits 12 [.sc] [(.s 11)]},
  {op:=.call 13 105 [(.s 9),(.s 12)]},
  M 5 13]) c_Si_6
def c_Si_2:VC:=
 .seq (.r 1 [{op:=.call 8 109 []},
  M 5 8]) c_Si_4
def c_Si_0:VC:=
 .seq (.r 0 [{op:=.nil 4 [.sc]}]) c_Si_2
def vf_Si:VF:={ pm:=[.ro [.ro q3],.ro [.sc]],rm:=[.v [.own [.sc]]],nslots:=39,res:=[4],rc:=[],code:=.kp [0,1] c_Si_0 }
def c_Sd_5:VC:=
 .ite (.s 21) (.seq (.r 2 [{op:=.nil 4 [.sc]}]) (.ret)) (.skip)
def c_Sd_22:VC:=
 .ite (.s 29) (.skip) (.exit 0)
def c_Sd_32:VC:=
 .ite (.s 40) (.r 10 [oF 41 2 1,
  oL 42 41 1,
  {op:=.len 43 (.s 42)},
  M 8 43]) (.skip)
def c_Sd_52:VC:=
 .ite (.s 55) (.r 15 [M 56 6,
  oF 57 10 0,
  oL 58 57 1,
  oF 59 10 1,
  oL 60 59 1,
  M 61 5,
  {op:=.len 62 (.s 61)},
  {op:=.bld 63 [.k (.int .i64 0),.k (.int .i64 0),.k (.int .i64 0)] [(0,1,(.s 58)),(1,1,(.s 60)),(2,1,(.s 62))]},
  {op:=.lits 64 q3 [(.s 63)]},
  {op:=.app 65 (.s 56) (.s 64) q3 5864062014805},
  M 6 65]) (.skip)
def c_Sd_50:VC:=
 .seq (.r 14 [oF 54 10 3,
  oL 55 54 1]) c_Sd_52
def c_Sd_55:VC:=
 .r 16 [{op:=.bin 66 .add (.s 50) (.k (.int .i64 1))},
  M 50 66]
def c_Sd_46:VC:=
 .seq (.blk 3 (.seq (.r 13 [oX 52 48 50 5,
  {op:=.ld 53 (.s 52) 5 true},
  {op:=.alloc 10 [.k (.int .i64 0),.k (.int .i64 0),.k (.int .i64 0),.k (.bool false),.o [.sc]]},
  oS 10 53 5]) c_Sd_50)) c_Sd_55
def c_Sd_42:VC:=
 .seq (.ite (.s 51) (.skip) (.exit 2)) c_Sd_46
def c_Sd_40:VC:=
 .seq (.r 12 [{op:=.bin 51 .lss (.s 50) (.s 49)}]) c_Sd_42
def c_Sd_38:VC:=
 .blk 2 (.loop [1,2,5,6,7,8,48,49,50] c_Sd_40)
def c_Sd_56:VC:=
 .d 17 [(0,M 67 5),
  (1,M 68 7),
  (2,M 69 1),
  (3,{op:=.bin 70 .quo (.s 68) (.s 69)}),
  (4,oG 71 2 1),
  (5,oV 72 71 1),
  (6,M 73 7),
  (7,M 74 8),
  (8,{op:=.slc 75 (.s 72) (some (.s 73)) (some (.s 74)) 5}),
  (9,{op:=.call 76 50 [(.s 70),(.s 75)]}),
  (10,{op:=.app 77 (.s 67) (.s 76) [.sc] 140737488355328}),
  (11,M 5 77)]
def c_Sd_35:VC:=
 .seq (.seq (.r 11 [oF 44 2 1,
  oL 45 44 1,
  M 46 7,
  M 47 8,
  {op:=.slc 48 (.s 45) (some (.s 46)) (some (.s 47)) 5},
  {op:=.len 49 (.s 48)},
  oN 50 0]) c_Sd_38) (.kp [1,2,5,6,7,8] c_Sd_56)
def c_Sd_29:VC:=
 .seq (.seq (.r 9 [M 36 8,
  oF 37 2 1,
  oL 38 37 1,
  {op:=.len 39 (.s 38)},
  {op:=.bin 40 .gtr (.s 36) (.s 39)}]) c_Sd_32) (.kp [1,2,5,6,7,8] c_Sd_35)
def c_Sd_57:VC:=
 .r 7 [M 30 7,
  M 31 1,
  {op:=.bin 32 .add (.s 30) (.s 31)},
  M 7 32]
def c_Sd_25:VC:=
 .seq (.blk 1 (.seq (.r 8 [M 33 7,
  M 34 1,
  {op:=.bin 35 .add (.s 33) (.s 34)},
  M 8 35]) c_Sd_29)) c_Sd_57
def c_Sd_19:VC:=
 .seq (.seq (.r 6 [M 25 7,
  oF 26 2 1,
  oL 27 26 1,
  {op:=.len 28 (.s 27)},
  {op:=.bin 29 .lss (.s 25) (.s 28)}]) c_Sd_22) c_Sd_25
def c_Sd_17:VC:=
 .blk 0 (.loop [1,2,5,6,7] c_Sd_19)
def c_Sd_63:VC:=
 .ite (.s 86) (.seq (.r 20 [{op:=.nil 4 [.sc]}]) (.ret)) (.skip)
def c_Sd_68:VC:=
 .seq (.r 21 [M 87 5,
  M 4 87]) (.ret)
def c_Sd_60:VC:=
 .seq (.seq (.r 19 [M 84 5,
  {op:=.len 85 (.s 84)},
  {op:=.bin 86 .gtr (.s 85) (.k (.int .i64 120000))}]) c_Sd_63) c_Sd_68
def c_Sd_58:VC:=
 .seq (.r 18 [M 78 5,
  M 79 6,
  M 80 5,
  {op:=.len 81 (.s 80)},
  {op:=.call 82 51 [(.s 79),(.s 81)]},
  {op:=.app 83 (.s 78) (.s 82) [.sc] 140737488355328},
  M 5 83]) c_Sd_60
def c_Sd_14:VC:=
 .seq (.seq (.r 5 [oN 7 0]) c_Sd_17) (.kp [5,6] c_Sd_58)
def c_Sd_12:VC:=
 .seq (.r 4 [{op:=.nil 6 q3}]) c_Sd_14
def c_Sd_10:VC:=
 .seq (.r 3 [oF 22 2 0,
  oL 23 22 1,
  {op:=.call 24 49 [(.s 23)]},
  M 5 24]) c_Sd_12
def c_Sd_2:VC:=
 .seq (.seq (.r 1 [{op:=.ld 11 (.s 2) 2 true},
  {op:=.call 12 48 [(.s 11)]},
  {op:=.un 13 .not (.s 12)},
  M 14 13,
  ⟨none,[],some (14,false),.mv 15 (.s 1)⟩,
  ⟨none,[],some (14,false),.bin 16 .lss (.s 15) (.k (.int .i64 1))⟩,
  {op:=.pick 17 (.s 14) (.k (.bool true)) (.s 16)},
  M 18 17,
  ⟨none,[],some (18,false),.mv 19 (.s 1)⟩,
  ⟨none,[],some (18,false),.bin 20 .gtr (.s 19) (.k (.int .i64 100))⟩,
  {op:=.pick 21 (.s 18) (.k (.bool true)) (.s 20)}]) c_Sd_5) c_Sd_10
def c_Sd_0:VC:=
 .seq (.r 0 [{op:=.box 2 (.s 0)},
  {op:=.nil 4 [.sc]}]) c_Sd_2
def vf_Sd:VF:={ pm:=[.ro [.ro q3,.ro q5],.ro [.sc]],rm:=[.v [.own [.sc]]],nslots:=88,res:=[4],rc:=[],code:=.kp [0,1] c_Sd_0 }
def c_Ik_5:VC:=
 .ite (.s 27) (.seq (.r 2 [oK 2 false]) (.ret)) (.skip)
def c_Ik_27:VC:=
 .ite (.s 45) (.seq (.r 7 [oK 2 false]) (.ret)) (.skip)
def c_Ik_25:VC:=
 .seq (.r 6 [oF 34 1 2,
  oL 35 34 1,
  M 36 3,
  {op:=.idx 37 (.s 35) (.s 36)},
  {op:=.bin 38 .lss (.s 37) (.k (.int .u8 32))},
  M 39 38,
  ⟨none,[],some (39,false),.fadr 40 (.s 1) 2⟩,
  ⟨none,[],some (39,false),.ld 41 (.s 40) 1 false⟩,
  ⟨none,[],some (39,false),.mv 42 (.s 3)⟩,
  ⟨none,[],some (39,false),.idx 43 (.s 41) (.s 42)⟩,
  ⟨none,[],some (39,false),.bin 44 .gtr (.s 43) (.k (.int .u8 126))⟩,
  {op:=.pick 45 (.s 39) (.k (.bool true)) (.s 44)}]) c_Ik_27
def c_Ik_32:VC:=
 .r 8 [{op:=.bin 46 .add (.s 31) (.k (.int .i64 1))},
  M 31 46]
def c_Ik_21:VC:=
 .seq (.blk 1 (.seq (.r 5 [M 33 31,
  M 3 33]) c_Ik_25)) c_Ik_32
def c_Ik_17:VC:=
 .seq (.ite (.s 32) (.skip) (.exit 0)) c_Ik_21
def c_Ik_15:VC:=
 .seq (.r 4 [{op:=.bin 32 .lss (.s 31) (.s 30)}]) c_Ik_17
def c_Ik_13:VC:=
 .blk 0 (.loop [1,30,31] c_Ik_15)
def c_Ik_33:VC:=
 .seq (.r 9 [oK 2 true]) (.ret)
def c_Ik_10:VC:=
 .seq (.seq (.r 3 [oF 28 1 2,
  oL 29 28 1,
  {op:=.slen 30 (.s 29)},
  oN 31 0]) c_Ik_13) (.kp [] c_Ik_33)
def c_Ik_2:VC:=
 .seq (.seq (.r 1 [oF 4 1 0,
  oL 5 4 1,
  {op:=.bin 6 .lss (.s 5) (.k (.int .i64 1))},
  M 7 6,
  ⟨none,[],some (7,false),.fadr 8 (.s 1) 0⟩,
  ⟨none,[],some (7,false),.ld 9 (.s 8) 1 false⟩,
  ⟨none,[],some (7,false),.bin 10 .gtr (.s 9) (.k (.int .i64 6))⟩,
  {op:=.pick 11 (.s 7) (.k (.bool true)) (.s 10)},
  M 12 11,
  ⟨none,[],some (12,false),.fadr 13 (.s 1) 1⟩,
  ⟨none,[],some (12,false),.ld 14 (.s 13) 1 false⟩,
  ⟨none,[],some (12,false),.bin 15 .lss (.s 14) (.k (.int .i64 1))⟩,
  {op:=.pick 16 (.s 12) (.k (.bool true)) (.s 15)},
  M 17 16,
  ⟨none,[],some (17,false),.fadr 18 (.s 1) 1⟩,
  ⟨none,[],some (17,false),.ld 19 (.s 18) 1 false⟩,
  ⟨none,[],some (17,false),.bin 20 .gtr (.s 19) (.k (.int .i64 1000000))⟩,
  {op:=.pick 21 (.s 17) (.k (.bool true)) (.s 20)},
  M 22 21,
  ⟨none,[],some (22,false),.fadr 23 (.s 1) 2⟩,
  ⟨none,[],some (22,false),.ld 24 (.s 23) 1 false⟩,
  ⟨none,[],some (22,false),.slen 25 (.s 24)⟩,
  ⟨none,[],some (22,false),.bin 26 .gtr (.s 25) (.k (.int .i64 40))⟩,
  {op:=.pick 27 (.s 22) (.k (.bool true)) (.s 26)}]) c_Ik_5) c_Ik_10
def c_Ik_0:VC:=
 .seq (.r 0 [{op:=.box 1 (.s 0)},
  oK 2 false]) c_Ik_2
def vf_Ik:VF:={ pm:=[.ro q3],rm:=[.v [.sc]],nslots:=47,res:=[2],rc:=[],code:=.kp [0] c_Ik_0 }
def c_Ij_2:VC:=
 .seq (.r 1 [M 3 0,
  {op:=.bin 4 .geq (.s 3) (.k (.int .i64 0))},
  M 5 4,
  ⟨none,[],some (5,true),.mv 6 (.s 0)⟩,
  ⟨none,[],some (5,true),.bin 7 .leq (.s 6) (.k (.int .i64 1000000000))⟩,
  {op:=.pick 8 (.s 5) (.s 7) (.k (.bool false))},
  M 2 8]) (.ret)
def c_Ij_0:VC:=
 .seq (.r 0 [oK 2 false]) c_Ij_2
def vf_Ij:VF:={ pm:=[.ro [.sc]],rm:=[.v [.sc]],nslots:=9,res:=[2],rc:=[],code:=.kp [0] c_Ij_0 }
def c_Ii_5:VC:=
 .ite (.s 25) (.seq (.r 2 [oK 2 false]) (.ret)) (.skip)
def c_Ii_27:VC:=
 .ite (.s 35) (.seq (.r 7 [oK 2 false]) (.ret)) (.skip)
def c_Ii_25:VC:=
 .seq (.r 6 [{op:=.ld 33 (.s 4) 3 true},
  {op:=.call 34 131 [(.s 33)]},
  {op:=.un 35 .not (.s 34)}]) c_Ii_27
def c_Ii_32:VC:=
 .r 8 [{op:=.bin 36 .add (.s 29) (.k (.int .i64 1))},
  M 29 36]
def c_Ii_21:VC:=
 .seq (.blk 1 (.seq (.r 5 [oX 31 27 29 3,
  {op:=.ld 32 (.s 31) 3 true},
  {op:=.alloc 4 [.k (.int .i64 0),.k (.int .i64 0),.k (.string (ByteArray.mk #[]))]},
  oS 4 32 3]) c_Ii_25)) c_Ii_32
def c_Ii_17:VC:=
 .seq (.ite (.s 30) (.skip) (.exit 0)) c_Ii_21
def c_Ii_15:VC:=
 .seq (.r 4 [{op:=.bin 30 .lss (.s 29) (.s 28)}]) c_Ii_17
def c_Ii_13:VC:=
 .blk 0 (.loop [1,27,28,29] c_Ii_15)
def c_Ii_52:VC:=
 .r 14 [M 46 6,
  M 47 7,
  oX 48 46 47 1,
  {op:=.st (.s 48) (.k (.int .i64 (-1))) 1}]
def c_Ii_53:VC:=
 .r 15 [{op:=.bin 49 .add (.s 43) (.k (.int .i64 1))},
  M 43 49]
def c_Ii_48:VC:=
 .seq (.blk 3 (.seq (.r 13 [M 45 43,
  M 7 45]) c_Ii_52)) c_Ii_53
def c_Ii_44:VC:=
 .seq (.ite (.s 44) (.skip) (.exit 2)) c_Ii_48
def c_Ii_42:VC:=
 .seq (.r 12 [{op:=.bin 44 .lss (.s 43) (.s 42)}]) c_Ii_44
def c_Ii_40:VC:=
 .blk 2 (.loop [1,5,6,42,43] c_Ii_42)
def c_Ii_72:VC:=
 .ite (.s 102) (.seq (.r 20 [oK 2 false]) (.ret)) (.skip)
def c_Ii_79:VC:=
 .r 22 [M 109 5,
  oF 110 9 4,
  oL 111 110 1,
  {op:=.len 112 (.s 111)},
  {op:=.bin 113 .add (.s 109) (.s 112)},
  M 5 113]
def c_Ii_77:VC:=
 .seq (.r 21 [M 103 6,
  oF 104 9 0,
  oL 105 104 1,
  oF 106 9 1,
  oL 107 106 1,
  oX 108 103 105 1,
  oS 108 107 1]) c_Ii_79
def c_Ii_69:VC:=
 .seq (.seq (.d 19 [(0,oG 57 9 0),
  (1,oV 58 57 1),
  (2,{op:=.bin 59 .lss (.s 58) (.k (.int .i64 0))}),
  (3,M 60 59),
  (4,⟨none,[],some (60,false),.fadv 61 (.s 9) 0⟩),
  (5,⟨none,[],some (60,false),.ldv 62 (.s 61) 1 false⟩),
  (6,⟨none,[],some (60,false),.fadv 63 (.s 1) 0⟩),
  (7,⟨none,[],some (60,false),.ldv 64 (.s 63) 1 false⟩),
  (8,⟨none,[],some (60,false),.len 65 (.s 64)⟩),
  (9,⟨none,[],some (60,false),.bin 66 .geq (.s 62) (.s 65)⟩),
  (10,{op:=.pick 67 (.s 60) (.k (.bool true)) (.s 66)}),
  (11,M 68 67),
  (12,⟨none,[],some (68,false),.fadv 69 (.s 9) 1⟩),
  (13,⟨none,[],some (68,false),.ldv 70 (.s 69) 1 false⟩),
  (14,⟨none,[],some (68,false),.call 71 133 [(.s 70)]⟩),
  (15,⟨none,[],some (68,false),.un 72 .not (.s 71)⟩),
  (16,{op:=.pick 73 (.s 68) (.k (.bool true)) (.s 72)}),
  (17,M 74 73),
  (18,⟨none,[],some (74,false),.fadv 75 (.s 9) 2⟩),
  (19,⟨none,[],some (74,false),.ldv 76 (.s 75) 1 false⟩),
  (20,⟨none,[],some (74,false),.call 77 133 [(.s 76)]⟩),
  (21,⟨none,[],some (74,false),.un 78 .not (.s 77)⟩),
  (22,{op:=.pick 79 (.s 74) (.k (.bool true)) (.s 78)}),
  (23,M 80 79),
  (24,⟨none,[],some (80,false),.fadv 81 (.s 9) 1⟩),
  (25,⟨none,[],some (80,false),.ldv 82 (.s 81) 1 false⟩),
  (26,⟨none,[],some (80,false),.mv 83 (.s 6)⟩),
  (27,⟨none,[],some (80,false),.fadv 84 (.s 9) 0⟩),
  (28,⟨none,[],some (80,false),.ldv 85 (.s 84) 1 false⟩),
  (29,⟨none,[],some (80,false),.iadr 86 (.s 83) (.s 85) 1⟩),
  (30,⟨none,[],some (80,false),.ld 87 (.s 86) 1 false⟩),
  (31,⟨none,[],some (80,false),.bin 88 .lss (.s 82) (.s 87)⟩),
  (32,{op:=.pick 89 (.s 80) (.k (.bool true)) (.s 88)}),
  (33,M 90 89),
  (34,⟨none,[],some (90,false),.mv 91 (.s 6)⟩),
  (35,⟨none,[],some (90,false),.fadv 92 (.s 9) 0⟩),
  (36,⟨none,[],some (90,false),.ldv 93 (.s 92) 1 false⟩),
  (37,⟨none,[],some (90,false),.iadr 94 (.s 91) (.s 93) 1⟩),
  (38,⟨none,[],some (90,false),.ld 95 (.s 94) 1 false⟩),
  (39,⟨none,[],some (90,false),.bin 96 .lss (.s 95) (.k (.int .i64 0))⟩),
  (40,⟨none,[],some (90,false),.mv 97 (.s 96)⟩),
  (41,⟨none,[],some (97,true),.fadv 98 (.s 9) 3⟩),
  (42,⟨none,[],some (97,true),.ldv 99 (.s 98) 1 false⟩),
  (43,⟨none,[],some (97,true),.un 100 .not (.s 99)⟩),
  (44,⟨none,[],some (90,false),.pick 101 (.s 97) (.s 100) (.k (.bool false))⟩),
  (45,{op:=.pick 102 (.s 90) (.k (.bool true)) (.s 101)})]) c_Ii_72) (.kp [1,5,6,9,51,52,53] c_Ii_77)
def c_Ii_80:VC:=
 .r 23 [{op:=.bin 114 .add (.s 53) (.k (.int .i64 1))},
  M 53 114]
def c_Ii_65:VC:=
 .seq (.blk 5 (.seq (.r 18 [oX 55 51 53 5,
  {op:=.ld 56 (.s 55) 5 true},
  {op:=.alloc 9 [.k (.int .i64 0),.k (.int .i64 0),.k (.int .i64 0),.k (.bool false),.o [.sc]]},
  oS 9 56 5]) c_Ii_69)) c_Ii_80
def c_Ii_61:VC:=
 .seq (.ite (.s 54) (.skip) (.exit 4)) c_Ii_65
def c_Ii_59:VC:=
 .seq (.r 17 [{op:=.bin 54 .lss (.s 53) (.s 52)}]) c_Ii_61
def c_Ii_57:VC:=
 .blk 4 (.loop [1,5,6,51,52,53] c_Ii_59)
def c_Ii_81:VC:=
 .seq (.r 24 [M 115 5,
  {op:=.bin 116 .leq (.s 115) (.k (.int .i64 60000))},
  M 2 116]) (.ret)
def c_Ii_54:VC:=
 .seq (.seq (.r 16 [oF 50 1 1,
  oL 51 50 1,
  {op:=.len 52 (.s 51)},
  oN 53 0]) c_Ii_57) (.kp [5] c_Ii_81)
def c_Ii_37:VC:=
 .seq (.seq (.r 11 [M 41 6,
  {op:=.len 42 (.s 41)},
  oN 43 0]) c_Ii_40) (.kp [1,5,6] c_Ii_54)
def c_Ii_35:VC:=
 .seq (.r 10 [oF 37 1 0,
  oL 38 37 1,
  {op:=.len 39 (.s 38)},
  {op:=.mk 40 (.s 39) [.sc] [(.int .i64 0)] 17592186044416},
  M 6 40]) c_Ii_37
def c_Ii_33:VC:=
 .seq (.r 9 [oN 5 0]) c_Ii_35
def c_Ii_10:VC:=
 .seq (.seq (.r 3 [oF 26 1 0,
  oL 27 26 1,
  {op:=.len 28 (.s 27)},
  oN 29 0]) c_Ii_13) (.kp [1] c_Ii_33)
def c_Ii_2:VC:=
 .seq (.seq (.r 1 [oF 10 1 0,
  oL 11 10 1,
  {op:=.len 12 (.s 11)},
  {op:=.bin 13 .lss (.s 12) (.k (.int .i64 1))},
  M 14 13,
  ⟨none,[],some (14,false),.fadr 15 (.s 1) 0⟩,
  ⟨none,[],some (14,false),.ld 16 (.s 15) 1 false⟩,
  ⟨none,[],some (14,false),.len 17 (.s 16)⟩,
  ⟨none,[],some (14,false),.bin 18 .gtr (.s 17) (.k (.int .i64 8))⟩,
  {op:=.pick 19 (.s 14) (.k (.bool true)) (.s 18)},
  M 20 19,
  ⟨none,[],some (20,false),.fadr 21 (.s 1) 1⟩,
  ⟨none,[],some (20,false),.ld 22 (.s 21) 1 false⟩,
  ⟨none,[],some (20,false),.len 23 (.s 22)⟩,
  ⟨none,[],some (20,false),.bin 24 .gtr (.s 23) (.k (.int .i64 400))⟩,
  {op:=.pick 25 (.s 20) (.k (.bool true)) (.s 24)}]) c_Ii_5) c_Ii_10
def c_Ii_0:VC:=
 .seq (.r 0 [{op:=.box 1 (.s 0)},
  oK 2 false]) c_Ii_2
def vf_Ii:VF:={ pm:=[.ro [.ro q3,.ro q5]],rm:=[.v [.sc]],nslots:=117,res:=[2],rc:=[],code:=.kp [0] c_Ii_0 }
def c_Ig_9:VC:=
 .ite (.s 43) (.seq (.r 4 [M 44 9,
  M 45 10,
  {op:=.bin 46 .lss (.s 44) (.s 45)},
  M 6 46]) (.ret)) (.skip)
def c_Ig_17:VC:=
 .ite (.s 51) (.seq (.r 6 [oF 52 7 0,
  oL 53 52 1,
  oF 54 8 0,
  oL 55 54 1,
  {op:=.bin 56 .lss (.s 53) (.s 55)},
  M 6 56]) (.ret)) (.skip)
def c_Ig_22:VC:=
 .seq (.r 7 [M 57 1,
  M 58 2,
  {op:=.bin 59 .lss (.s 57) (.s 58)},
  M 6 59]) (.ret)
def c_Ig_14:VC:=
 .seq (.seq (.r 5 [oF 47 7 0,
  oL 48 47 1,
  oF 49 8 0,
  oL 50 49 1,
  {op:=.bin 51 .neq (.s 48) (.s 50)}]) c_Ig_17) c_Ig_22
def c_Ig_6:VC:=
 .seq (.seq (.r 3 [M 41 9,
  M 42 10,
  {op:=.bin 43 .neq (.s 41) (.s 42)}]) c_Ig_9) c_Ig_14
def c_Ig_4:VC:=
 .seq (.d 2 [(0,oG 21 7 1),
  (1,oV 22 21 1),
  (2,oG 23 3 0),
  (3,oV 24 23 1),
  (4,oG 25 8 0),
  (5,oV 26 25 1),
  (6,oX 27 24 26 3),
  (7,oG 28 27 1),
  (8,oV 29 28 1),
  (9,{op:=.bin 30 .mul (.s 22) (.s 29)}),
  (10,oG 31 8 1),
  (11,oV 32 31 1),
  (12,oG 33 3 0),
  (13,oV 34 33 1),
  (14,oG 35 7 0),
  (15,oV 36 35 1),
  (16,oX 37 34 36 3),
  (17,oG 38 37 1),
  (18,oV 39 38 1),
  (19,{op:=.bin 40 .mul (.s 32) (.s 39)}),
  (20,M 9 30),
  (21,M 10 40)]) c_Ig_6
def c_Ig_2:VC:=
 .seq (.pre [.pad 2] (.d 1 [(0,{op:=.fadk 11 (.s 3) 0 1}),
  (1,{op:=.ldk 12 (.s 11) 0 1 false}),
  (2,M 13 1),
  (3,oX 14 12 13 5),
  (4,{op:=.ldr 15 (.s 14) 5 true}),
  (5,{op:=.fadk 16 (.s 3) 0 1}),
  (6,{op:=.ldk 17 (.s 16) 0 1 false}),
  (7,M 18 2),
  (8,oX 19 17 18 5),
  (9,{op:=.ldr 20 (.s 19) 5 true}),
  (10,{op:=.alk 7 [.k (.int .i64 0),.k (.int .i64 0),.k (.int .i64 0),.k (.bool false),.k (.slice none 0 0)] 1}),
  (11,{op:=.alk 8 [.k (.int .i64 0),.k (.int .i64 0),.k (.int .i64 0),.k (.bool false),.k (.slice none 0 0)] 2}),
  (12,{op:=.stk (.s 7) (.s 15) 1 5}),
  (13,{op:=.stk (.s 8) (.s 20) 2 5})])) c_Ig_4
def c_Ig_0:VC:=
 .seq (.r 0 [{op:=.box 3 (.s 0)},
  oK 6 false]) c_Ig_2
def vf_Ig:VF:={ pm:=[.ro [.ro q3,.ro q5],.ro [.sc],.ro [.sc]],rm:=[.v [.sc]],nslots:=60,res:=[6],rc:=[],code:=.kp [0,1,2] c_Ig_0 }
def c_Ib_5:VC:=
 .ite (.s 6) (.seq (.r 2 [oK 2 false]) (.ret)) (.skip)
def c_Ib_18:VC:=
 .ite (.s 11) (.skip) (.exit 0)
def c_Ib_25:VC:=
 .ite (.s 18) (.seq (.r 7 [oK 2 false]) (.ret)) (.skip)
def c_Ib_30:VC:=
 .r 5 [M 12 3,
  {op:=.bin 13 .add (.s 12) (.k (.int .i64 1))},
  M 3 13]
def c_Ib_21:VC:=
 .seq (.blk 1 (.seq (.r 6 [{op:=.ld 14 (.s 1) 2 true},
  M 15 3,
  M 16 3,
  {op:=.bin 17 .sub (.s 16) (.k (.int .i64 1))},
  {op:=.call 18 113 [(.s 14),(.s 15),(.s 17)]}]) c_Ib_25)) c_Ib_30
def c_Ib_15:VC:=
 .seq (.seq (.r 4 [M 7 3,
  oF 8 1 1,
  oL 9 8 1,
  {op:=.len 10 (.s 9)},
  {op:=.bin 11 .lss (.s 7) (.s 10)}]) c_Ib_18) c_Ib_21
def c_Ib_13:VC:=
 .blk 0 (.loop [1,3] c_Ib_15)
def c_Ib_31:VC:=
 .seq (.r 8 [oK 2 true]) (.ret)
def c_Ib_10:VC:=
 .seq (.seq (.r 3 [oN 3 1]) c_Ib_13) (.kp [] c_Ib_31)
def c_Ib_2:VC:=
 .seq (.seq (.r 1 [{op:=.ld 4 (.s 1) 2 true},
  {op:=.call 5 112 [(.s 4)]},
  {op:=.un 6 .not (.s 5)}]) c_Ib_5) c_Ib_10
def c_Ib_0:VC:=
 .seq (.r 0 [{op:=.box 1 (.s 0)},
  oK 2 false]) c_Ib_2
def vf_Ib:VF:={ pm:=[.ro [.ro q3,.ro q5]],rm:=[.v [.sc]],nslots:=19,res:=[2],rc:=[],code:=.kp [0] c_Ib_0 }
def c_Ic_10:VC:=
 .ite (.s 5) (.skip) (.exit 0)
def c_Ic_16:VC:=
 .r 4 [M 12 0,
  {op:=.bin 13 .shr (.s 12) (.k (.int .u64 7))},
  M 0 13]
def c_Ic_13:VC:=
 .blk 1 (.seq (.r 3 [M 6 3,
  M 7 0,
  {op:=.conv 8 .u8 (.s 7)},
  {op:=.bin 9 .or (.s 8) (.k (.int .u8 128))},
  {op:=.lits 10 [.sc] [(.s 9)]},
  {op:=.app 11 (.s 6) (.s 10) [.sc] 140737488355328},
  M 3 11]) c_Ic_16)
def c_Ic_7:VC:=
 .seq (.seq (.r 2 [M 4 0,
  {op:=.bin 5 .gtr (.s 4) (.k (.int .u64 127))}]) c_Ic_10) c_Ic_13
def c_Ic_17:VC:=
 .seq (.r 5 [M 14 3,
  M 15 0,
  {op:=.conv 16 .u8 (.s 15)},
  {op:=.lits 17 [.sc] [(.s 16)]},
  {op:=.app 18 (.s 14) (.s 17) [.sc] 140737488355328},
  M 2 18]) (.ret)
def c_Ic_4:VC:=
 .seq (.blk 0 (.loop [0,3] c_Ic_7)) (.kp [0,3] c_Ic_17)
def c_Ic_2:VC:=
 .seq (.r 1 [{op:=.nil 3 [.sc]}]) c_Ic_4
def c_Ic_0:VC:=
 .seq (.r 0 [{op:=.nil 2 [.sc]}]) c_Ic_2
def vf_Ic:VF:={ pm:=[.ro [.sc]],rm:=[.v [.own [.sc]]],nslots:=19,res:=[2],rc:=[],code:=.kp [0] c_Ic_0 }
def c_Ie_0:VC:=
 .d 0 [(0,oV 3 1 1),
  (1,M 4 0),
  (2,{op:=.conv 5 .u64 (.s 4)}),
  (3,{op:=.call 6 56 [(.s 5)]}),
  (4,{op:=.app 7 (.s 3) (.s 6) [.sc] 140737488355328}),
  (5,oS 1 7 1)]
def vf_Ie:VF:={ pm:=[.ro [.sc],.mb [.own [.sc]]],rm:=[],nslots:=8,res:=[],rc:=[],code:=.kp [0,1] c_Ie_0 }
def c_Ia_34:VC:=
 .r 9 [{op:=.bin 24 .add (.s 16) (.k (.int .i64 1))},
  M 16 24]
def c_Ia_31:VC:=
 .seq (.blk 3 (.r 8 [M 18 3,
  {op:=.bin 19 .shr (.s 18) (.k (.int .u64 1))},
  M 20 3,
  {op:=.bin 21 .and (.s 20) (.k (.int .u32 1))},
  {op:=.bin 22 .mul (.k (.int .u32 3988292384)) (.s 21)},
  {op:=.bin 23 .xor (.s 19) (.s 22)},
  M 3 23])) c_Ia_34
def c_Ia_27:VC:=
 .seq (.ite (.s 17) (.skip) (.exit 2)) c_Ia_31
def c_Ia_25:VC:=
 .seq (.r 7 [{op:=.bin 17 .lss (.s 16) (.k (.int .i64 8))}]) c_Ia_27
def c_Ia_23:VC:=
 .blk 2 (.loop [3,6,7,8,16] c_Ia_25)
def c_Ia_21:VC:=
 .seq (.r 6 [oN 16 0]) c_Ia_23
def c_Ia_19:VC:=
 .seq (.r 5 [M 12 3,
  M 13 5,
  {op:=.conv 14 .u32 (.s 13)},
  {op:=.bin 15 .xor (.s 12) (.s 14)},
  M 3 15]) c_Ia_21
def c_Ia_35:VC:=
 .r 10 [{op:=.bin 25 .add (.s 8) (.k (.int .i64 1))},
  M 8 25]
def c_Ia_15:VC:=
 .seq (.blk 1 (.seq (.r 4 [oX 10 6 8 1,
  oL 11 10 1,
  M 5 11]) c_Ia_19)) (.kp [3,6,7,8] c_Ia_35)
def c_Ia_11:VC:=
 .seq (.ite (.s 9) (.skip) (.exit 0)) c_Ia_15
def c_Ia_9:VC:=
 .seq (.r 3 [{op:=.bin 9 .lss (.s 8) (.s 7)}]) c_Ia_11
def c_Ia_7:VC:=
 .blk 0 (.loop [3,6,7,8] c_Ia_9)
def c_Ia_36:VC:=
 .seq (.r 11 [M 26 3,
  {op:=.un 27 .xor (.s 26)},
  M 2 27]) (.ret)
def c_Ia_4:VC:=
 .seq (.seq (.r 2 [M 6 0,
  {op:=.len 7 (.s 6)},
  oN 8 0]) c_Ia_7) (.kp [3] c_Ia_36)
def c_Ia_2:VC:=
 .seq (.r 1 [{op:=.mv 3 (.k (.int .u32 4294967295))}]) c_Ia_4
def c_Ia_0:VC:=
 .seq (.r 0 [{op:=.mv 2 (.k (.int .u32 0))}]) c_Ia_2
def vf_Ia:VF:={ pm:=[.ro [.ro [.sc]]],rm:=[.v [.sc]],nslots:=28,res:=[2],rc:=[],code:=.kp [0] c_Ia_0 }
def c_Ih_2:VC:=
 .seq (.r 1 [M 3 0,
  {op:=.bin 4 .shr (.s 3) (.k (.int .u64 24))},
  {op:=.conv 5 .u8 (.s 4)},
  M 6 0,
  {op:=.bin 7 .shr (.s 6) (.k (.int .u64 16))},
  {op:=.conv 8 .u8 (.s 7)},
  M 9 0,
  {op:=.bin 10 .shr (.s 9) (.k (.int .u64 8))},
  {op:=.conv 11 .u8 (.s 10)},
  M 12 0,
  {op:=.conv 13 .u8 (.s 12)},
  {op:=.lits 14 [.sc] [(.s 5),(.s 8),(.s 11),(.s 13)]},
  M 2 14]) (.ret)
def c_Ih_0:VC:=
 .seq (.r 0 [{op:=.nil 2 [.sc]}]) c_Ih_2
def vf_Ih:VF:={ pm:=[.ro [.sc]],rm:=[.v [.own [.sc]]],nslots:=15,res:=[2],rc:=[],code:=.kp [0] c_Ih_0 }
def c_If_0:VC:=
 .d 0 [(0,oV 3 1 1),
  (1,oV 4 1 1),
  (2,M 5 0),
  (3,{op:=.slc 6 (.s 4) (some (.s 5)) none 1}),
  (4,{op:=.call 7 59 [(.s 6)]}),
  (5,{op:=.conv 8 .i64 (.s 7)}),
  (6,{op:=.call 9 58 [(.s 8)]}),
  (7,{op:=.app 10 (.s 3) (.s 9) [.sc] 140737488355328}),
  (8,oS 1 10 1)]
def vf_If:VF:={ pm:=[.ro [.sc],.mb [.own [.sc]]],rm:=[],nslots:=11,res:=[],rc:=[],code:=.kp [0,1] c_If_0 }
def c_Id_5:VC:=
 .ite (.s 34) (.seq (.r 2 [{op:=.nil 4 [.sc]}]) (.ret)) (.skip)
def c_Id_35:VC:=
 .d 11 [(0,oV 62 5 1),
  (1,oG 63 9 2),
  (2,oV 64 63 1),
  (3,{op:=.slen 65 (.s 64)}),
  (4,{op:=.conv 66 .u8 (.s 65)}),
  (7,oG 69 9 2),
  (8,oV 70 69 1),
  (5,{op:=.lits 67 [.sc] [(.s 66)]}),
  (6,{op:=.app 68 (.s 62) (.s 67) [.sc] 140737488355328}),
  (9,{op:=.apps 71 (.s 68) (.s 70) 140737488355328}),
  (10,oS 5 71 1)]
def c_Id_33:VC:=
 .seq (.r 10 [M 58 6,
  oF 59 9 1,
  oL 60 59 1,
  {op:=.callc 61 (.s 58) [(.s 60)]}]) c_Id_35
def c_Id_31:VC:=
 .seq (.r 9 [oL 52 5 1,
  oF 53 9 0,
  oL 54 53 1,
  {op:=.conv 55 .u8 (.s 54)},
  {op:=.lits 56 [.sc] [(.s 55)]},
  {op:=.app 57 (.s 52) (.s 56) [.sc] 140737488355328},
  oS 5 57 1]) c_Id_33
def c_Id_36:VC:=
 .r 12 [{op:=.bin 72 .add (.s 48) (.k (.int .i64 1))},
  M 48 72]
def c_Id_27:VC:=
 .seq (.blk 1 (.seq (.r 8 [oX 50 46 48 3,
  {op:=.ld 51 (.s 50) 3 true},
  {op:=.alloc 9 [.k (.int .i64 0),.k (.int .i64 0),.k (.string (ByteArray.mk #[]))]},
  oS 9 51 3]) c_Id_31)) c_Id_36
def c_Id_23:VC:=
 .seq (.ite (.s 49) (.skip) (.exit 0)) c_Id_27
def c_Id_21:VC:=
 .seq (.r 7 [{op:=.bin 49 .lss (.s 48) (.s 47)}]) c_Id_23
def c_Id_19:VC:=
 .blk 0 (.loop [1,2,5,6,7,46,47,48] c_Id_21)
def c_Id_49:VC:=
 .ite (.s 79) (.skip) (.exit 2)
def c_Id_87:VC:=
 .r 29 [M 115 10,
  oF 116 15 0,
  oL 117 116 1,
  oF 118 15 1,
  oL 119 118 1,
  M 120 12,
  {op:=.bld 121 [.k (.int .i64 0),.k (.int .i64 0),.k (.int .i64 0)] [(0,1,(.s 117)),(1,1,(.s 119)),(2,1,(.s 120))]},
  {op:=.lits 122 q3 [(.s 121)]},
  {op:=.app 123 (.s 115) (.s 122) q3 5864062014805},
  M 10 123]
def c_Id_84:VC:=
 .ite (.s 114) (.seq (.r 28 [oN 16 1]) c_Id_87) (.skip)
def c_Id_103:VC:=
 .r 33 [M 140 6,
  M 141 18,
  {op:=.callc 142 (.s 140) [(.s 141)]}]
def c_Id_104:VC:=
 .r 34 [{op:=.bin 143 .add (.s 136) (.k (.int .i64 1))},
  M 136 143]
def c_Id_99:VC:=
 .seq (.blk 7 (.seq (.r 32 [oX 138 134 136 1,
  oL 139 138 1,
  M 18 139]) c_Id_103)) c_Id_104
def c_Id_95:VC:=
 .seq (.ite (.s 137) (.skip) (.exit 6)) c_Id_99
def c_Id_93:VC:=
 .seq (.r 31 [{op:=.bin 137 .lss (.s 136) (.s 135)}]) c_Id_95
def c_Id_91:VC:=
 .blk 6 (.loop [1,2,5,6,7,10,11,12,13,107,108,109,134,135,136] c_Id_93)
def c_Id_89:VC:=
 .seq (.r 30 [oF 124 15 0,
  oL 125 124 1,
  oF 126 15 1,
  oL 127 126 1,
  oF 128 15 2,
  oL 129 128 1,
  M 130 16,
  oF 131 15 4,
  oL 132 131 1,
  {op:=.len 133 (.s 132)},
  {op:=.lits 134 [.sc] [(.s 125),(.s 127),(.s 129),(.s 130),(.s 133)]},
  {op:=.len 135 (.s 134)},
  oN 136 0]) c_Id_91
def c_Id_81:VC:=
 .seq (.seq (.r 27 [oF 113 15 3,
  oL 114 113 1]) c_Id_84) (.kp [1,2,5,6,7,10,11,12,13,15,16,107,108,109] c_Id_89)
def c_Id_79:VC:=
 .seq (.r 26 [oN 16 0]) c_Id_81
def c_Id_105:VC:=
 .r 35 [{op:=.bin 144 .add (.s 109) (.k (.int .i64 1))},
  M 109 144]
def c_Id_75:VC:=
 .seq (.blk 5 (.seq (.r 25 [oX 111 107 109 5,
  {op:=.ld 112 (.s 111) 5 true},
  {op:=.alloc 15 [.k (.int .i64 0),.k (.int .i64 0),.k (.int .i64 0),.k (.bool false),.o [.sc]]},
  oS 15 112 5]) c_Id_79)) (.kp [1,2,5,6,7,10,11,12,13,107,108,109] c_Id_105)
def c_Id_71:VC:=
 .seq (.ite (.s 110) (.skip) (.exit 4)) c_Id_75
def c_Id_69:VC:=
 .seq (.r 24 [{op:=.bin 110 .lss (.s 109) (.s 108)}]) c_Id_71
def c_Id_67:VC:=
 .blk 4 (.loop [1,2,5,6,7,10,11,12,13,107,108,109] c_Id_69)
def c_Id_121:VC:=
 .r 39 [oL 151 5 1,
  oF 152 20 4,
  oL 153 152 1,
  {op:=.app 154 (.s 151) (.s 153) [.sc] 140737488355328},
  oS 5 154 1]
def c_Id_122:VC:=
 .r 40 [{op:=.bin 155 .add (.s 147) (.k (.int .i64 1))},
  M 147 155]
def c_Id_117:VC:=
 .seq (.blk 9 (.seq (.r 38 [oX 149 145 147 5,
  {op:=.ld 150 (.s 149) 5 true},
  {op:=.alloc 20 [.k (.int .i64 0),.k (.int .i64 0),.k (.int .i64 0),.k (.bool false),.o [.sc]]},
  oS 20 150 5]) c_Id_121)) c_Id_122
def c_Id_113:VC:=
 .seq (.ite (.s 148) (.skip) (.exit 8)) c_Id_117
def c_Id_111:VC:=
 .seq (.r 37 [{op:=.bin 148 .lss (.s 147) (.s 146)}]) c_Id_113
def c_Id_109:VC:=
 .blk 8 (.loop [1,2,5,6,7,10,11,12,145,146,147] c_Id_111)
def c_Id_123:VC:=
 .r 41 [M 156 7,
  M 157 12,
  {op:=.callc 158 (.s 156) [(.s 157)]}]
def c_Id_106:VC:=
 .seq (.seq (.r 36 [M 145 13,
  {op:=.len 146 (.s 145)},
  oN 147 0]) c_Id_109) (.kp [1,2,5,6,7,10,11,12] c_Id_123)
def c_Id_64:VC:=
 .seq (.seq (.r 23 [M 107 13,
  {op:=.len 108 (.s 107)},
  oN 109 0]) c_Id_67) (.kp [1,2,5,6,7,10,11,12,13] c_Id_106)
def c_Id_62:VC:=
 .seq (.r 22 [M 103 6,
  M 104 13,
  {op:=.len 105 (.s 104)},
  {op:=.callc 106 (.s 103) [(.s 105)]}]) c_Id_64
def c_Id_60:VC:=
 .seq (.r 21 [M 98 6,
  M 99 11,
  M 100 1,
  {op:=.bin 101 .quo (.s 99) (.s 100)},
  {op:=.callc 102 (.s 98) [(.s 101)]}]) c_Id_62
def c_Id_58:VC:=
 .seq (.r 20 [oL 96 5 1,
  {op:=.apps 97 (.s 96) (.k (.string (ByteArray.mk #[27,80,73,69,67,69,10,0]))) 140737488355328},
  oS 5 97 1]) c_Id_60
def c_Id_56:VC:=
 .seq (.r 19 [oF 85 2 1,
  oL 86 85 1,
  M 87 11,
  M 88 11,
  M 89 1,
  {op:=.bin 90 .add (.s 88) (.s 89)},
  oF 91 2 1,
  oL 92 91 1,
  {op:=.len 93 (.s 92)},
  {op:=.mn 94 (.s 90) (.s 93)},
  {op:=.slc 95 (.s 86) (some (.s 87)) (some (.s 94)) 5},
  M 13 95]) c_Id_58
def c_Id_124:VC:=
 .r 17 [M 80 11,
  M 81 1,
  {op:=.bin 82 .add (.s 80) (.s 81)},
  M 11 82]
def c_Id_52:VC:=
 .seq (.blk 3 (.seq (.r 18 [oL 83 5 1,
  {op:=.len 84 (.s 83)},
  M 12 84]) c_Id_56)) c_Id_124
def c_Id_46:VC:=
 .seq (.seq (.r 16 [M 75 11,
  oF 76 2 1,
  oL 77 76 1,
  {op:=.len 78 (.s 77)},
  {op:=.bin 79 .lss (.s 75) (.s 78)}]) c_Id_49) c_Id_52
def c_Id_44:VC:=
 .blk 2 (.loop [1,2,5,6,7,10,11] c_Id_46)
def c_Id_150:VC:=
 .r 50 [M 181 6,
  oF 182 23 2,
  oL 183 182 1,
  {op:=.callc 184 (.s 181) [(.s 183)]}]
def c_Id_148:VC:=
 .seq (.r 49 [M 177 6,
  oF 178 23 1,
  oL 179 178 1,
  {op:=.callc 180 (.s 177) [(.s 179)]}]) c_Id_150
def c_Id_146:VC:=
 .seq (.r 48 [M 173 6,
  oF 174 23 0,
  oL 175 174 1,
  {op:=.callc 176 (.s 173) [(.s 175)]}]) c_Id_148
def c_Id_151:VC:=
 .r 51 [{op:=.bin 185 .add (.s 169) (.k (.int .i64 1))},
  M 169 185]
def c_Id_142:VC:=
 .seq (.blk 11 (.seq (.r 47 [oX 171 167 169 3,
  {op:=.ld 172 (.s 171) 3 true},
  {op:=.alloc 23 [.k (.int .i64 0),.k (.int .i64 0),.k (.int .i64 0)]},
  oS 23 172 3]) c_Id_146)) c_Id_151
def c_Id_138:VC:=
 .seq (.ite (.s 170) (.skip) (.exit 10)) c_Id_142
def c_Id_136:VC:=
 .seq (.r 46 [{op:=.bin 170 .lss (.s 169) (.s 168)}]) c_Id_138
def c_Id_134:VC:=
 .blk 10 (.loop [5,6,7,21,167,168,169] c_Id_136)
def c_Id_159:VC:=
 .ite (.s 194) (.seq (.r 55 [{op:=.nil 4 [.sc]}]) (.ret)) (.skip)
def c_Id_164:VC:=
 .seq (.r 56 [oL 195 5 1,
  M 4 195]) (.ret)
def c_Id_156:VC:=
 .seq (.seq (.r 54 [oL 192 5 1,
  {op:=.len 193 (.s 192)},
  {op:=.bin 194 .gtr (.s 193) (.k (.int .i64 120000))}]) c_Id_159) c_Id_164
def c_Id_154:VC:=
 .seq (.r 53 [M 189 7,
  M 190 21,
  {op:=.callc 191 (.s 189) [(.s 190)]}]) c_Id_156
def c_Id_152:VC:=
 .seq (.r 52 [M 186 6,
  M 187 21,
  {op:=.callc 188 (.s 186) [(.s 187)]}]) c_Id_154
def c_Id_131:VC:=
 .seq (.seq (.r 45 [M 167 10,
  {op:=.len 168 (.s 167)},
  oN 169 0]) c_Id_134) (.kp [5,6,7,21] c_Id_152)
def c_Id_129:VC:=
 .seq (.r 44 [M 163 6,
  M 164 10,
  {op:=.len 165 (.s 164)},
  {op:=.callc 166 (.s 163) [(.s 165)]}]) c_Id_131
def c_Id_127:VC:=
 .seq (.r 43 [oL 161 5 1,
  {op:=.apps 162 (.s 161) (.k (.string (ByteArray.mk #[27,73,78,68,69,88,10,0]))) 140737488355328},
  oS 5 162 1]) c_Id_129
def c_Id_125:VC:=
 .seq (.r 42 [oL 159 5 1,
  {op:=.len 160 (.s 159)},
  M 21 160]) c_Id_127
def c_Id_41:VC:=
 .seq (.seq (.r 15 [oN 11 0]) c_Id_44) (.kp [5,6,7,10] c_Id_125)
def c_Id_39:VC:=
 .seq (.r 14 [{op:=.nil 10 q3}]) c_Id_41
def c_Id_37:VC:=
 .seq (.r 13 [M 73 7,
  {op:=.callc 74 (.s 73) [(.k (.int .i64 0))]}]) c_Id_39
def c_Id_16:VC:=
 .seq (.seq (.r 6 [oF 45 2 0,
  oL 46 45 1,
  {op:=.len 47 (.s 46)},
  oN 48 0]) c_Id_19) (.kp [1,2,5,6,7] c_Id_37)
def c_Id_14:VC:=
 .seq (.r 5 [{op:=.mkf 44 57 [(.s 5)]},
  M 7 44]) c_Id_16
def c_Id_12:VC:=
 .seq (.r 4 [{op:=.mkf 43 55 [(.s 5)]},
  M 6 43]) c_Id_14
def c_Id_10:VC:=
 .seq (.r 3 [{op:=.lits 35 [.sc] [(.k (.int .u8 66)),(.k (.int .u8 79)),(.k (.int .u8 88)),(.k (.int .u8 49))]},
  {op:=.cvb 36 (.s 35)},
  oF 37 2 0,
  oL 38 37 1,
  {op:=.len 39 (.s 38)},
  {op:=.conv 40 .u8 (.s 39)},
  {op:=.lits 41 [.sc] [(.s 40)]},
  {op:=.app 42 (.s 36) (.s 41) [.sc] 140737488355328},
  {op:=.alloc 5 [.o [.sc]]},
  oS 5 42 1]) c_Id_12
def c_Id_2:VC:=
 .seq (.seq (.r 1 [{op:=.ld 24 (.s 2) 2 true},
  {op:=.call 25 54 [(.s 24)]},
  {op:=.un 26 .not (.s 25)},
  M 27 26,
  ⟨none,[],some (27,false),.mv 28 (.s 1)⟩,
  ⟨none,[],some (27,false),.bin 29 .lss (.s 28) (.k (.int .i64 1))⟩,
  {op:=.pick 30 (.s 27) (.k (.bool true)) (.s 29)},
  M 31 30,
  ⟨none,[],some (31,false),.mv 32 (.s 1)⟩,
  ⟨none,[],some (31,false),.bin 33 .gtr (.s 32) (.k (.int .i64 100))⟩,
  {op:=.pick 34 (.s 31) (.k (.bool true)) (.s 33)}]) c_Id_5) c_Id_10
def c_Id_0:VC:=
 .seq (.r 0 [{op:=.box 2 (.s 0)},
  {op:=.nil 4 [.sc]}]) c_Id_2
def vf_Id:VF:={ pm:=[.ro [.ro q3,.ro q5],.ro [.sc]],rm:=[.v [.own [.sc]]],nslots:=196,res:=[4],rc:=[],code:=.kp [0,1] c_Id_0 }
def c_Lb_5:VC:=
 .ite (.s 10) (.seq (.r 2 [oK 4 false]) (.ret)) (.skip)
def c_Lb_18:VC:=
 .ite (.s 14) (.skip) (.exit 0)
def c_Lb_25:VC:=
 .ite (.s 25) (.seq (.r 7 [oK 4 false]) (.ret)) (.skip)
def c_Lb_30:VC:=
 .r 5 [M 15 5,
  {op:=.bin 16 .add (.s 15) (.k (.int .i64 1))},
  M 5 16]
def c_Lb_21:VC:=
 .seq (.blk 1 (.seq (.d 6 [(0,M 17 0),
  (1,M 18 5),
  (2,oX 19 17 18 1),
  (3,oV 20 19 1),
  (4,M 21 1),
  (5,M 22 5),
  (6,oX 23 21 22 1),
  (7,oV 24 23 1),
  (8,{op:=.bin 25 .neq (.s 20) (.s 24)})]) c_Lb_25)) c_Lb_30
def c_Lb_15:VC:=
 .seq (.seq (.r 4 [M 11 5,
  M 12 0,
  {op:=.len 13 (.s 12)},
  {op:=.bin 14 .lss (.s 11) (.s 13)}]) c_Lb_18) c_Lb_21
def c_Lb_13:VC:=
 .blk 0 (.loop [0,1,5] c_Lb_15)
def c_Lb_31:VC:=
 .seq (.r 8 [oK 4 true]) (.ret)
def c_Lb_10:VC:=
 .seq (.seq (.r 3 [oN 5 0]) c_Lb_13) (.kp [] c_Lb_31)
def c_Lb_2:VC:=
 .seq (.seq (.r 1 [M 6 0,
  {op:=.len 7 (.s 6)},
  M 8 1,
  {op:=.len 9 (.s 8)},
  {op:=.bin 10 .neq (.s 7) (.s 9)}]) c_Lb_5) c_Lb_10
def c_Lb_0:VC:=
 .seq (.r 0 [oK 4 false]) c_Lb_2
def vf_Lb:VF:={ pm:=[.ro [.ro [.sc]],.ro [.ro [.sc]]],rm:=[.v [.sc]],nslots:=26,res:=[4],rc:=[],code:=.kp [0,1] c_Lb_0 }
def c_Le_5:VC:=
 .ite (.s 9) (.seq (.r 2 [oK 4 false]) (.ret)) (.skip)
def c_Le_13:VC:=
 .ite (.s 14) (.seq (.r 4 [oK 4 false]) (.ret)) (.skip)
def c_Le_21:VC:=
 .ite (.s 19) (.seq (.r 6 [oK 4 false]) (.ret)) (.skip)
def c_Le_26:VC:=
 .seq (.r 7 [oK 4 true]) (.ret)
def c_Le_18:VC:=
 .seq (.seq (.r 5 [oF 15 2 2,
  oL 16 15 1,
  oF 17 3 2,
  oL 18 17 1,
  {op:=.bin 19 .neq (.s 16) (.s 18)}]) c_Le_21) c_Le_26
def c_Le_10:VC:=
 .seq (.seq (.r 3 [oF 10 2 1,
  oL 11 10 1,
  oF 12 3 1,
  oL 13 12 1,
  {op:=.bin 14 .neq (.s 11) (.s 13)}]) c_Le_13) c_Le_18
def c_Le_2:VC:=
 .seq (.seq (.r 1 [oF 5 2 0,
  oL 6 5 1,
  oF 7 3 0,
  oL 8 7 1,
  {op:=.bin 9 .neq (.s 6) (.s 8)}]) c_Le_5) c_Le_10
def c_Le_0:VC:=
 .seq (.r 0 [{op:=.box 2 (.s 0)},
  {op:=.box 3 (.s 1)},
  oK 4 false]) c_Le_2
def vf_Le:VF:={ pm:=[.ro q3,.ro q3],rm:=[.v [.sc]],nslots:=20,res:=[4],rc:=[],code:=.kp [0,1] c_Le_0 }
def c_Lf_5:VC:=
 .ite (.s 10) (.seq (.r 2 [oK 4 false]) (.ret)) (.skip)
def c_Lf_18:VC:=
 .ite (.s 14) (.skip) (.exit 0)
def c_Lf_25:VC:=
 .ite (.s 26) (.seq (.r 7 [oK 4 false]) (.ret)) (.skip)
def c_Lf_30:VC:=
 .r 5 [M 15 5,
  {op:=.bin 16 .add (.s 15) (.k (.int .i64 1))},
  M 5 16]
def c_Lf_21:VC:=
 .seq (.blk 1 (.seq (.d 6 [(0,M 17 0),
  (1,M 18 5),
  (2,oX 19 17 18 3),
  (3,{op:=.ldv 20 (.s 19) 3 true}),
  (4,M 21 1),
  (5,M 22 5),
  (6,oX 23 21 22 3),
  (7,{op:=.ldv 24 (.s 23) 3 true}),
  (8,{op:=.call 25 114 [(.s 20),(.s 24)]}),
  (9,{op:=.un 26 .not (.s 25)})]) c_Lf_25)) c_Lf_30
def c_Lf_15:VC:=
 .seq (.seq (.r 4 [M 11 5,
  M 12 0,
  {op:=.len 13 (.s 12)},
  {op:=.bin 14 .lss (.s 11) (.s 13)}]) c_Lf_18) c_Lf_21
def c_Lf_13:VC:=
 .blk 0 (.loop [0,1,5] c_Lf_15)
def c_Lf_31:VC:=
 .seq (.r 8 [oK 4 true]) (.ret)
def c_Lf_10:VC:=
 .seq (.seq (.r 3 [oN 5 0]) c_Lf_13) (.kp [] c_Lf_31)
def c_Lf_2:VC:=
 .seq (.seq (.r 1 [M 6 0,
  {op:=.len 7 (.s 6)},
  M 8 1,
  {op:=.len 9 (.s 8)},
  {op:=.bin 10 .neq (.s 7) (.s 9)}]) c_Lf_5) c_Lf_10
def c_Lf_0:VC:=
 .seq (.r 0 [oK 4 false]) c_Lf_2
def vf_Lf:VF:={ pm:=[.ro [.ro q3],.ro [.ro q3]],rm:=[.v [.sc]],nslots:=27,res:=[4],rc:=[],code:=.kp [0,1] c_Lf_0 }
def c_Lc_5:VC:=
 .ite (.s 9) (.seq (.r 2 [oK 4 false]) (.ret)) (.skip)
def c_Lc_13:VC:=
 .ite (.s 14) (.seq (.r 4 [oK 4 false]) (.ret)) (.skip)
def c_Lc_21:VC:=
 .ite (.s 19) (.seq (.r 6 [oK 4 false]) (.ret)) (.skip)
def c_Lc_29:VC:=
 .ite (.s 24) (.seq (.r 8 [oK 4 false]) (.ret)) (.skip)
def c_Lc_37:VC:=
 .ite (.s 30) (.seq (.r 10 [oK 4 false]) (.ret)) (.skip)
def c_Lc_42:VC:=
 .seq (.r 11 [oK 4 true]) (.ret)
def c_Lc_34:VC:=
 .seq (.seq (.r 9 [oF 25 2 4,
  oL 26 25 1,
  oF 27 3 4,
  oL 28 27 1,
  {op:=.call 29 13 [(.s 26),(.s 28)]},
  {op:=.un 30 .not (.s 29)}]) c_Lc_37) c_Lc_42
def c_Lc_26:VC:=
 .seq (.seq (.r 7 [oF 20 2 3,
  oL 21 20 1,
  oF 22 3 3,
  oL 23 22 1,
  {op:=.beq 24 true (.s 21) (.s 23)}]) c_Lc_29) c_Lc_34
def c_Lc_18:VC:=
 .seq (.seq (.r 5 [oF 15 2 2,
  oL 16 15 1,
  oF 17 3 2,
  oL 18 17 1,
  {op:=.bin 19 .neq (.s 16) (.s 18)}]) c_Lc_21) c_Lc_26
def c_Lc_10:VC:=
 .seq (.seq (.r 3 [oF 10 2 1,
  oL 11 10 1,
  oF 12 3 1,
  oL 13 12 1,
  {op:=.bin 14 .neq (.s 11) (.s 13)}]) c_Lc_13) c_Lc_18
def c_Lc_2:VC:=
 .seq (.seq (.r 1 [oF 5 2 0,
  oL 6 5 1,
  oF 7 3 0,
  oL 8 7 1,
  {op:=.bin 9 .neq (.s 6) (.s 8)}]) c_Lc_5) c_Lc_10
def c_Lc_0:VC:=
 .seq (.r 0 [{op:=.box 2 (.s 0)},
  {op:=.box 3 (.s 1)},
  oK 4 false]) c_Lc_2
def vf_Lc:VF:={ pm:=[.ro q5,.ro q5],rm:=[.v [.sc]],nslots:=31,res:=[4],rc:=[],code:=.kp [0,1] c_Lc_0 }
def c_Ld_5:VC:=
 .ite (.s 10) (.seq (.r 2 [oK 4 false]) (.ret)) (.skip)
def c_Ld_18:VC:=
 .ite (.s 14) (.skip) (.exit 0)
def c_Ld_25:VC:=
 .ite (.s 26) (.seq (.r 7 [oK 4 false]) (.ret)) (.skip)
def c_Ld_30:VC:=
 .r 5 [M 15 5,
  {op:=.bin 16 .add (.s 15) (.k (.int .i64 1))},
  M 5 16]
def c_Ld_21:VC:=
 .seq (.blk 1 (.seq (.d 6 [(0,M 17 0),
  (1,M 18 5),
  (2,oX 19 17 18 5),
  (3,{op:=.ldv 20 (.s 19) 5 true}),
  (4,M 21 1),
  (5,M 22 5),
  (6,oX 23 21 22 5),
  (7,{op:=.ldv 24 (.s 23) 5 true}),
  (8,{op:=.call 25 115 [(.s 20),(.s 24)]}),
  (9,{op:=.un 26 .not (.s 25)})]) c_Ld_25)) c_Ld_30
def c_Ld_15:VC:=
 .seq (.seq (.r 4 [M 11 5,
  M 12 0,
  {op:=.len 13 (.s 12)},
  {op:=.bin 14 .lss (.s 11) (.s 13)}]) c_Ld_18) c_Ld_21
def c_Ld_13:VC:=
 .blk 0 (.loop [0,1,5] c_Ld_15)
def c_Ld_31:VC:=
 .seq (.r 8 [oK 4 true]) (.ret)
def c_Ld_10:VC:=
 .seq (.seq (.r 3 [oN 5 0]) c_Ld_13) (.kp [] c_Ld_31)
def c_Ld_2:VC:=
 .seq (.seq (.r 1 [M 6 0,
  {op:=.len 7 (.s 6)},
  M 8 1,
  {op:=.len 9 (.s 8)},
  {op:=.bin 10 .neq (.s 7) (.s 9)}]) c_Ld_5) c_Ld_10
def c_Ld_0:VC:=
 .seq (.r 0 [oK 4 false]) c_Ld_2
def vf_Ld:VF:={ pm:=[.ro [.ro q5],.ro [.ro q5]],rm:=[.v [.sc]],nslots:=27,res:=[4],rc:=[],code:=.kp [0,1] c_Ld_0 }
def c_La_5:VC:=
 .ite (.s 10) (.seq (.r 2 [oK 4 false]) (.ret)) (.skip)
def c_La_13:VC:=
 .ite (.s 16) (.seq (.r 4 [oK 4 false]) (.ret)) (.skip)
def c_La_18:VC:=
 .seq (.r 5 [oK 4 true]) (.ret)
def c_La_10:VC:=
 .seq (.seq (.r 3 [oF 11 2 1,
  oL 12 11 1,
  oF 13 3 1,
  oL 14 13 1,
  {op:=.call 15 61 [(.s 12),(.s 14)]},
  {op:=.un 16 .not (.s 15)}]) c_La_13) c_La_18
def c_La_2:VC:=
 .seq (.seq (.r 1 [oF 5 2 0,
  oL 6 5 1,
  oF 7 3 0,
  oL 8 7 1,
  {op:=.call 9 60 [(.s 6),(.s 8)]},
  {op:=.un 10 .not (.s 9)}]) c_La_5) c_La_10
def c_La_0:VC:=
 .seq (.r 0 [{op:=.box 2 (.s 0)},
  {op:=.box 3 (.s 1)},
  oK 4 false]) c_La_2
def vf_La:VF:={ pm:=[.ro [.ro q3,.ro q5],.ro [.ro q3,.ro q5]],rm:=[.v [.sc]],nslots:=17,res:=[4],rc:=[],code:=.kp [0,1] c_La_0 }
def c_Lk_5:VC:=
 .ite (.s 5) (.seq (.r 2 [{op:=.mv 2 (.k (.string (ByteArray.mk #[109,48])))}]) (.ret)) (.skip)
def c_Lk_18:VC:=
 .ite (.s 7) (.skip) (.exit 0)
def c_Lk_24:VC:=
 .r 6 [M 16 0,
  {op:=.bin 17 .quo (.s 16) (.k (.int .i64 10))},
  M 0 17]
def c_Lk_21:VC:=
 .blk 1 (.seq (.r 5 [M 8 0,
  {op:=.bin 9 .rem (.s 8) (.k (.int .i64 10))},
  {op:=.bin 10 .add (.k (.int .i64 48)) (.s 9)},
  {op:=.conv 11 .u8 (.s 10)},
  {op:=.lits 12 [.sc] [(.s 11)]},
  {op:=.b2s 13 (.s 12)},
  M 14 3,
  {op:=.bin 15 .add (.s 13) (.s 14)},
  M 3 15]) c_Lk_24)
def c_Lk_15:VC:=
 .seq (.seq (.r 4 [M 6 0,
  {op:=.bin 7 .gtr (.s 6) (.k (.int .i64 0))}]) c_Lk_18) c_Lk_21
def c_Lk_25:VC:=
 .seq (.r 7 [M 18 3,
  {op:=.bin 19 .add (.k (.string (ByteArray.mk #[109]))) (.s 18)},
  M 2 19]) (.ret)
def c_Lk_12:VC:=
 .seq (.blk 0 (.loop [0,3] c_Lk_15)) (.kp [3] c_Lk_25)
def c_Lk_10:VC:=
 .seq (.r 3 [{op:=.mv 3 (.k (.string (ByteArray.mk #[])))}]) c_Lk_12
def c_Lk_2:VC:=
 .seq (.seq (.r 1 [M 4 0,
  {op:=.bin 5 .leq (.s 4) (.k (.int .i64 0))}]) c_Lk_5) c_Lk_10
def c_Lk_0:VC:=
 .seq (.r 0 [{op:=.mv 2 (.k (.string (ByteArray.mk #[])))}]) c_Lk_2
def vf_Lk:VF:={ pm:=[.ro [.sc]],rm:=[.v [.sc]],nslots:=20,res:=[2],rc:=[],code:=.kp [0] c_Lk_0 }
def c_Ll_10:VC:=
 .ite (.s 9) (.skip) (.exit 0)
def c_Ll_25:VC:=
 .r 9 [M 32 1,
  {op:=.bin 33 .add (.s 32) (.k (.int .i64 1))},
  M 1 33]
def c_Ll_23:VC:=
 .seq (.r 8 [M 26 0,
  M 27 5,
  M 28 1,
  {op:=.call 29 116 [(.s 28)]},
  oX 30 26 27 3,
  oF 31 30 2,
  oS 31 29 1]) c_Ll_25
def c_Ll_21:VC:=
 .seq (.r 7 [M 24 1,
  {op:=.bin 25 .add (.s 24) (.k (.int .i64 1))},
  M 1 25]) c_Ll_23
def c_Ll_19:VC:=
 .seq (.r 6 [M 19 0,
  M 20 5,
  M 21 1,
  oX 22 19 20 3,
  oF 23 22 1,
  oS 23 21 1]) c_Ll_21
def c_Ll_17:VC:=
 .seq (.r 5 [M 17 1,
  {op:=.bin 18 .add (.s 17) (.k (.int .i64 1))},
  M 1 18]) c_Ll_19
def c_Ll_26:VC:=
 .r 3 [M 10 5,
  {op:=.bin 11 .add (.s 10) (.k (.int .i64 1))},
  M 5 11]
def c_Ll_13:VC:=
 .seq (.blk 1 (.seq (.r 4 [M 12 0,
  M 13 5,
  M 14 1,
  oX 15 12 13 3,
  oF 16 15 0,
  oS 16 14 1]) c_Ll_17)) c_Ll_26
def c_Ll_7:VC:=
 .seq (.seq (.r 2 [M 6 5,
  M 7 0,
  {op:=.len 8 (.s 7)},
  {op:=.bin 9 .lss (.s 6) (.s 8)}]) c_Ll_10) c_Ll_13
def c_Ll_5:VC:=
 .blk 0 (.loop [0,1,5] c_Ll_7)
def c_Ll_27:VC:=
 .seq (.r 10 [M 34 1,
  M 4 34]) (.ret)
def c_Ll_2:VC:=
 .seq (.seq (.r 1 [oN 5 0]) c_Ll_5) (.kp [0,1] c_Ll_27)
def c_Ll_0:VC:=
 .seq (.r 0 [oN 4 0]) c_Ll_2
def vf_Ll:VF:={ pm:=[.ms q3,.ro [.sc]],rm:=[.v [.sc]],nslots:=35,res:=[4],rc:=[],code:=.kp [0,1] c_Ll_0 }
def c_Li_10:VC:=
 .ite (.s 9) (.skip) (.exit 0)
def c_Li_17:VC:=
 .r 5 [M 17 1,
  {op:=.bin 18 .add (.s 17) (.k (.int .i64 1))},
  M 1 18]
def c_Li_18:VC:=
 .r 3 [M 10 5,
  {op:=.bin 11 .add (.s 10) (.k (.int .i64 1))},
  M 5 11]
def c_Li_13:VC:=
 .seq (.blk 1 (.seq (.r 4 [M 12 0,
  M 13 5,
  M 14 1,
  {op:=.conv 15 .u8 (.s 14)},
  oX 16 12 13 1,
  oS 16 15 1]) c_Li_17)) c_Li_18
def c_Li_7:VC:=
 .seq (.seq (.r 2 [M 6 5,
  M 7 0,
  {op:=.len 8 (.s 7)},
  {op:=.bin 9 .lss (.s 6) (.s 8)}]) c_Li_10) c_Li_13
def c_Li_5:VC:=
 .blk 0 (.loop [0,1,5] c_Li_7)
def c_Li_19:VC:=
 .seq (.r 6 [M 19 1,
  M 4 19]) (.ret)
def c_Li_2:VC:=
 .seq (.seq (.r 1 [oN 5 0]) c_Li_5) (.kp [0,1] c_Li_19)
def c_Li_0:VC:=
 .seq (.r 0 [oN 4 0]) c_Li_2
def vf_Li:VF:={ pm:=[.ms [.sc],.ro [.sc]],rm:=[.v [.sc]],nslots:=20,res:=[4],rc:=[],code:=.kp [0,1] c_Li_0 }
def c_Lj_10:VC:=
 .ite (.s 9) (.skip) (.exit 0)
def c_Lj_31:VC:=
 .r 12 [M 42 0,
  M 43 5,
  oX 44 42 43 5,
  oF 45 44 4,
  oL 46 45 1,
  M 47 1,
  {op:=.call 48 14 [(.s 46),(.s 47)]},
  M 1 48]
def c_Lj_29:VC:=
 .seq (.r 11 [M 40 1,
  {op:=.bin 41 .add (.s 40) (.k (.int .i64 1))},
  M 1 41]) c_Lj_31
def c_Lj_27:VC:=
 .seq (.r 10 [M 33 0,
  M 34 5,
  M 35 1,
  {op:=.bin 36 .rem (.s 35) (.k (.int .i64 3))},
  {op:=.bin 37 .eql (.s 36) (.k (.int .i64 0))},
  oX 38 33 34 5,
  oF 39 38 3,
  oS 39 37 1]) c_Lj_29
def c_Lj_25:VC:=
 .seq (.r 9 [M 31 1,
  {op:=.bin 32 .add (.s 31) (.k (.int .i64 1))},
  M 1 32]) c_Lj_27
def c_Lj_23:VC:=
 .seq (.r 8 [M 26 0,
  M 27 5,
  M 28 1,
  oX 29 26 27 5,
  oF 30 29 2,
  oS 30 28 1]) c_Lj_25
def c_Lj_21:VC:=
 .seq (.r 7 [M 24 1,
  {op:=.bin 25 .add (.s 24) (.k (.int .i64 1))},
  M 1 25]) c_Lj_23
def c_Lj_19:VC:=
 .seq (.r 6 [M 19 0,
  M 20 5,
  M 21 1,
  oX 22 19 20 5,
  oF 23 22 1,
  oS 23 21 1]) c_Lj_21
def c_Lj_17:VC:=
 .seq (.r 5 [M 17 1,
  {op:=.bin 18 .add (.s 17) (.k (.int .i64 1))},
  M 1 18]) c_Lj_19
def c_Lj_32:VC:=
 .r 3 [M 10 5,
  {op:=.bin 11 .add (.s 10) (.k (.int .i64 1))},
  M 5 11]
def c_Lj_13:VC:=
 .seq (.blk 1 (.seq (.r 4 [M 12 0,
  M 13 5,
  M 14 1,
  oX 15 12 13 5,
  oF 16 15 0,
  oS 16 14 1]) c_Lj_17)) c_Lj_32
def c_Lj_7:VC:=
 .seq (.seq (.r 2 [M 6 5,
  M 7 0,
  {op:=.len 8 (.s 7)},
  {op:=.bin 9 .lss (.s 6) (.s 8)}]) c_Lj_10) c_Lj_13
def c_Lj_5:VC:=
 .blk 0 (.loop [0,1,5] c_Lj_7)
def c_Lj_33:VC:=
 .seq (.r 13 [M 49 1,
  M 4 49]) (.ret)
def c_Lj_2:VC:=
 .seq (.seq (.r 1 [oN 5 0]) c_Lj_5) (.kp [0,1] c_Lj_33)
def c_Lj_0:VC:=
 .seq (.r 0 [oN 4 0]) c_Lj_2
def vf_Lj:VF:={ pm:=[.ms [.sc,.sc,.sc,.sc,.own [.sc]],.ro [.sc]],rm:=[.v [.sc]],nslots:=50,res:=[4],rc:=[],code:=.kp [0,1] c_Lj_0 }
def c_Lh_6:VC:=
 .seq (.r 3 [M 13 1,
  M 4 13]) (.ret)
def c_Lh_4:VC:=
 .seq (.r 2 [oF 9 2 1,
  oL 10 9 1,
  M 11 1,
  {op:=.call 12 63 [(.s 10),(.s 11)]},
  M 1 12]) c_Lh_6
def c_Lh_2:VC:=
 .seq (.r 1 [oF 5 2 0,
  oL 6 5 1,
  M 7 1,
  {op:=.call 8 62 [(.s 6),(.s 7)]},
  M 1 8]) c_Lh_4
def c_Lh_0:VC:=
 .seq (.r 0 [{op:=.box 2 (.s 0)},
  oN 4 0]) c_Lh_2
def vf_Lh:VF:={ pm:=[.mg [.own q3,.own [.sc,.sc,.sc,.sc,.own [.sc]]],.ro [.sc]],rm:=[.v [.sc]],nslots:=14,res:=[4],rc:=[],code:=.kp [0,1] c_Lh_0 }
def c_Lg_10:VC:=
 .ite (.s 9) (.skip) (.exit 0)
def c_Lg_18:VC:=
 .ite (.s 18) (.seq (.r 5 [oN 4 (-1)]) (.ret)) (.skip)
def c_Lg_23:VC:=
 .r 6 [M 19 1,
  {op:=.bin 20 .add (.s 19) (.k (.int .i64 1))},
  M 1 20]
def c_Lg_24:VC:=
 .r 3 [M 10 5,
  {op:=.bin 11 .add (.s 10) (.k (.int .i64 1))},
  M 5 11]
def c_Lg_13:VC:=
 .seq (.blk 1 (.seq (.seq (.r 4 [M 12 0,
  M 13 5,
  oX 14 12 13 1,
  oL 15 14 1,
  M 16 1,
  {op:=.conv 17 .u8 (.s 16)},
  {op:=.bin 18 .neq (.s 15) (.s 17)}]) c_Lg_18) c_Lg_23)) c_Lg_24
def c_Lg_7:VC:=
 .seq (.seq (.r 2 [M 6 5,
  M 7 0,
  {op:=.len 8 (.s 7)},
  {op:=.bin 9 .lss (.s 6) (.s 8)}]) c_Lg_10) c_Lg_13
def c_Lg_5:VC:=
 .blk 0 (.loop [0,1,5] c_Lg_7)
def c_Lg_25:VC:=
 .seq (.r 7 [M 21 1,
  M 4 21]) (.ret)
def c_Lg_2:VC:=
 .seq (.seq (.r 1 [oN 5 0]) c_Lg_5) (.kp [1] c_Lg_25)
def c_Lg_0:VC:=
 .seq (.r 0 [oN 4 0]) c_Lg_2
def vf_Lg:VF:={ pm:=[.ro [.ro [.sc]],.ro [.sc]],rm:=[.v [.sc]],nslots:=22,res:=[4],rc:=[],code:=.kp [0,1] c_Lg_0 }
def c_laws_FnExactWriteBox_9:VC:=
 .ite (.s 17) (.seq (.r 4 [oK 4 true]) (.ret)) (.skip)
def c_laws_FnExactWriteBox_23:VC:=
 .ite (.s 30) (.seq (.r 9 [oK 4 false]) (.ret)) (.skip)
def c_laws_FnExactWriteBox_31:VC:=
 .ite (.s 35) (.seq (.r 11 [oK 4 false]) (.ret)) (.skip)
def c_laws_FnExactWriteBox_43:VC:=
 .ite (.s 46) (.seq (.r 15 [oK 4 false]) (.ret)) (.skip)
def c_laws_FnExactWriteBox_59:VC:=
 .ite (.s 54) (.seq (.r 21 [oK 4 false]) (.ret)) (.skip)
def c_laws_FnExactWriteBox_67:VC:=
 .ite (.s 57) (.seq (.r 23 [oK 4 false]) (.ret)) (.skip)
def c_laws_FnExactWriteBox_77:VC:=
 .ite (.s 65) (.seq (.r 26 [oK 4 false]) (.ret)) (.skip)
def c_laws_FnExactWriteBox_89:VC:=
 .ite (.s 70) (.seq (.r 30 [oK 4 false]) (.ret)) (.skip)
def c_laws_FnExactWriteBox_97:VC:=
 .ite (.s 73) (.seq (.r 32 [oK 4 false]) (.ret)) (.skip)
def c_laws_FnExactWriteBox_102:VC:=
 .seq (.r 33 [oK 4 true]) (.ret)
def c_laws_FnExactWriteBox_94:VC:=
 .seq (.seq (.r 31 [M 71 11,
  M 72 10,
  {op:=.bin 73 .neq (.s 71) (.s 72)}]) c_laws_FnExactWriteBox_97) c_laws_FnExactWriteBox_102
def c_laws_FnExactWriteBox_86:VC:=
 .seq (.seq (.r 29 [M 69 11,
  {op:=.bin 70 .lss (.s 69) (.k (.int .i64 0))}]) c_laws_FnExactWriteBox_89) c_laws_FnExactWriteBox_94
def c_laws_FnExactWriteBox_84:VC:=
 .seq (.r 28 [M 66 8,
  M 67 11,
  {op:=.call 68 23 [(.s 66),(.s 67)]},
  M 11 68]) c_laws_FnExactWriteBox_86
def c_laws_FnExactWriteBox_82:VC:=
 .seq (.r 27 [oN 11 1]) c_laws_FnExactWriteBox_84
def c_laws_FnExactWriteBox_74:VC:=
 .seq (.seq (.r 25 [M 62 12,
  M 63 6,
  {op:=.call 64 13 [(.s 62),(.s 63)]},
  {op:=.un 65 .not (.s 64)}]) c_laws_FnExactWriteBox_77) c_laws_FnExactWriteBox_82
def c_laws_FnExactWriteBox_72:VC:=
 .seq (.r 24 [{op:=.ld 58 (.s 2) 2 true},
  {op:=.call 59 19 [(.s 58)]},
  M 60 1,
  {op:=.call 61 20 [(.s 59),(.s 60)]},
  M 12 61]) c_laws_FnExactWriteBox_74
def c_laws_FnExactWriteBox_64:VC:=
 .seq (.seq (.r 22 [M 55 11,
  M 56 10,
  {op:=.bin 57 .neq (.s 55) (.s 56)}]) c_laws_FnExactWriteBox_67) c_laws_FnExactWriteBox_72
def c_laws_FnExactWriteBox_56:VC:=
 .seq (.seq (.r 20 [M 53 11,
  {op:=.bin 54 .lss (.s 53) (.k (.int .i64 0))}]) c_laws_FnExactWriteBox_59) c_laws_FnExactWriteBox_64
def c_laws_FnExactWriteBox_54:VC:=
 .seq (.r 19 [M 50 8,
  M 51 11,
  {op:=.call 52 23 [(.s 50),(.s 51)]},
  M 11 52]) c_laws_FnExactWriteBox_56
def c_laws_FnExactWriteBox_52:VC:=
 .seq (.r 18 [oN 11 1]) c_laws_FnExactWriteBox_54
def c_laws_FnExactWriteBox_50:VC:=
 .seq (.r 17 [M 47 8,
  M 48 10,
  {op:=.call 49 14 [(.s 47),(.s 48)]},
  M 10 49]) c_laws_FnExactWriteBox_52
def c_laws_FnExactWriteBox_48:VC:=
 .seq (.r 16 [oN 10 1]) c_laws_FnExactWriteBox_50
def c_laws_FnExactWriteBox_40:VC:=
 .seq (.seq (.r 14 [M 39 9,
  {op:=.bin 40 .lss (.s 39) (.k (.int .i64 0))},
  M 41 40,
  ⟨none,[],some (41,false),.mv 42 (.s 8)⟩,
  ⟨none,[],some (41,false),.mv 43 (.s 6)⟩,
  ⟨none,[],some (41,false),.call 44 13 [(.s 42),(.s 43)]⟩,
  ⟨none,[],some (41,false),.un 45 .not (.s 44)⟩,
  {op:=.pick 46 (.s 41) (.k (.bool true)) (.s 45)}]) c_laws_FnExactWriteBox_43) c_laws_FnExactWriteBox_48
def c_laws_FnExactWriteBox_38:VC:=
 .seq (.r 13 [{op:=.ld 36 (.s 7) 2 true},
  M 37 9,
  {op:=.call 38 22 [(.s 36),(.s 37)]},
  M 9 38]) c_laws_FnExactWriteBox_40
def c_laws_FnExactWriteBox_36:VC:=
 .seq (.r 12 [oN 9 1]) c_laws_FnExactWriteBox_38
def c_laws_FnExactWriteBox_28:VC:=
 .seq (.seq (.d 10 [(0,{op:=.ldv 31 (.s 7) 2 true}),
  (1,{op:=.ldv 32 (.s 2) 2 true}),
  (2,{op:=.call 33 19 [(.s 32)]}),
  (3,{op:=.call 34 21 [(.s 31),(.s 33)]}),
  (4,{op:=.un 35 .not (.s 34)})]) c_laws_FnExactWriteBox_31) c_laws_FnExactWriteBox_36
def c_laws_FnExactWriteBox_20:VC:=
 .seq (.seq (.r 8 [M 27 8,
  M 28 6,
  {op:=.call 29 13 [(.s 27),(.s 28)]},
  {op:=.un 30 .not (.s 29)}]) c_laws_FnExactWriteBox_23) c_laws_FnExactWriteBox_28
def c_laws_FnExactWriteBox_18:VC:=
 .seq (.r 7 [{op:=.ld 24 (.s 7) 2 true},
  M 25 1,
  {op:=.call 26 20 [(.s 24),(.s 25)]},
  M 8 26]) c_laws_FnExactWriteBox_20
def c_laws_FnExactWriteBox_16:VC:=
 .seq (.r 6 [{op:=.ld 22 (.s 2) 2 true},
  {op:=.call 23 19 [(.s 22)]},
  {op:=.alloc 7 [.o q3,.o [.sc,.sc,.sc,.sc,.own [.sc]]]},
  oS 7 23 2]) c_laws_FnExactWriteBox_18
def c_laws_FnExactWriteBox_14:VC:=
 .seq (.r 5 [{op:=.ld 18 (.s 2) 2 true},
  {op:=.call 19 19 [(.s 18)]},
  M 20 1,
  {op:=.call 21 18 [(.s 19),(.s 20)]},
  M 6 21]) c_laws_FnExactWriteBox_16
def c_laws_FnExactWriteBox_6:VC:=
 .seq (.seq (.r 3 [M 16 5,
  {op:=.bin 17 .lss (.s 16) (.k (.int .i64 0))}]) c_laws_FnExactWriteBox_9) c_laws_FnExactWriteBox_14
def c_laws_FnExactWriteBox_4:VC:=
 .seq (.r 2 [{op:=.ld 13 (.s 2) 2 true},
  M 14 5,
  {op:=.call 15 17 [(.s 13),(.s 14)]},
  M 5 15]) c_laws_FnExactWriteBox_6
def c_laws_FnExactWriteBox_2:VC:=
 .seq (.r 1 [oN 5 1048576]) c_laws_FnExactWriteBox_4
def c_laws_FnExactWriteBox_0:VC:=
 .seq (.r 0 [{op:=.box 2 (.s 0)},
  oK 4 false]) c_laws_FnExactWriteBox_2
def vf_laws_FnExactWriteBox:VF:={ pm:=[.ro [.ro q3,.ro q5],.ro [.sc]],rm:=[.v [.sc]],nslots:=74,res:=[4],rc:=[],code:=.kp [0,1] c_laws_FnExactWriteBox_0 }
def ext:FuncId→List Arg→Option FRes:=fun f ars=>none
def tblL:List (FuncId×VF):=[(101,vf_Lq),(46,vf_Lr),(141,vf_Ln),(102,vf_Lo),(47,vf_Lp),(17,vf_Lm),(110,vf_Lw),(52,vf_Lx),(10,vf_Lt),(111,vf_Lu),(53,vf_Lv),(19,vf_Ls),(139,vf_Sf),(97,vf_Sp),(142,vf_Sq),(127,vf_So),(103,vf_Sn),(104,vf_Sg),(48,vf_Sb),(143,vf_Sc),(105,vf_Sm),(107,vf_Sa),(106,vf_Sr),(49,vf_Sh),(80,vf_Sl),(108,vf_Se),(50,vf_Sk),(109,vf_Sj),(51,vf_Si),(18,vf_Sd),(131,vf_Ik),(133,vf_Ij),(112,vf_Ii),(113,vf_Ig),(54,vf_Ib),(56,vf_Ic),(55,vf_Ie),(59,vf_Ia),(58,vf_Ih),(57,vf_If),(20,vf_Id),(13,vf_Lb),(114,vf_Le),(60,vf_Lf),(115,vf_Lc),(61,vf_Ld),(21,vf_La),(116,vf_Lk),(62,vf_Ll),(14,vf_Li),(63,vf_Lj),(22,vf_Lh),(23,vf_Lg),(4,vf_laws_FnExactWriteBox)]
def tbl:FuncId→Option VF:=fun f=>tblL.lookup f
end Go.Proofs.V

namespace Go.Proofs.V
open Go
theorem fi_Lq:funcIs Go.Proofs.Try.prog tbl 101 vf_Lq=true:=by kernel_rfl
theorem fi_Lr:funcIs Go.Proofs.Try.prog tbl 46 vf_Lr=true:=by kernel_rfl
theorem fi_Ln:funcIs Go.Proofs.Try.prog tbl 141 vf_Ln=true:=by kernel_rfl
theorem fi_Lo:funcIs Go.Proofs.Try.prog tbl 102 vf_Lo=true:=by kernel_rfl
theorem fi_Lp:funcIs Go.Proofs.Try.prog tbl 47 vf_Lp=true:=by kernel_rfl
theorem fi_Lm:funcIs Go.Proofs.Try.prog tbl 17 vf_Lm=true:=by kernel_rfl
theorem fi_Lw:funcIs Go.Proofs.Try.prog tbl 110 vf_Lw=true:=by kernel_rfl
theorem fi_Lx:funcIs Go.Proofs.Try.prog tbl 52 vf_Lx=true:=by kernel_rfl
theorem fi_Lt:funcIs Go.Proofs.Try.prog tbl 10 vf_Lt=true:=by kernel_rfl
theorem fi_Lu:funcIs Go.Proofs.Try.prog tbl 111 vf_Lu=true:=by kernel_rfl
theorem fi_Lv:funcIs Go.Proofs.Try.prog tbl 53 vf_Lv=true:=by kernel_rfl
theorem fi_Ls:funcIs Go.Proofs.Try.prog tbl 19 vf_Ls=true:=by kernel_rfl
theorem fi_Sf:funcIs Go.Proofs.Try.prog tbl 139 vf_Sf=true:=by kernel_rfl
theorem fi_Sp:funcIs Go.Proofs.Try.prog tbl 97 vf_Sp=true:=by kernel_rfl
theorem fi_Sq:funcIs Go.Proofs.Try.prog tbl 142 vf_Sq=true:=by kernel_rfl
theorem fi_So:funcIs Go.Proofs.Try.prog tbl 127 vf_So=true:=by kernel_rfl
theorem fi_Sn:funcIs Go.Proofs.Try.prog tbl 103 vf_Sn=true:=by kernel_rfl
theorem fi_Sg:funcIs Go.Proofs.Try.prog tbl 104 vf_Sg=true:=by kernel_rfl
theorem fi_Sb:funcIs Go.Proofs.Try.prog tbl 48 vf_Sb=true:=by kernel_rfl
theorem fi_Sc:funcIs Go.Proofs.Try.prog tbl 143 vf_Sc=true:=by kernel_rfl
theorem fi_Sm:funcIs Go.Proofs.Try.prog tbl 105 vf_Sm=true:=by kernel_rfl
theorem fi_Sa:funcIs Go.Proofs.Try.prog tbl 107 vf_Sa=true:=by kernel_rfl
theorem fi_Sr:funcIs Go.Proofs.Try.prog tbl 106 vf_Sr=true:=by kernel_rfl
theorem fi_Sh:funcIs Go.Proofs.Try.prog tbl 49 vf_Sh=true:=by kernel_rfl
theorem fi_Sl:funcIs Go.Proofs.Try.prog tbl 80 vf_Sl=true:=by kernel_rfl
theorem fi_Se:funcIs Go.Proofs.Try.prog tbl 108 vf_Se=true:=by kernel_rfl
theorem fi_Sk:funcIs Go.Proofs.Try.prog tbl 50 vf_Sk=true:=by kernel_rfl
theorem fi_Sj:funcIs Go.Proofs.Try.prog tbl 109 vf_Sj=true:=by kernel_rfl
theorem fi_Si:funcIs Go.Proofs.Try.prog tbl 51 vf_Si=true:=by kernel_rfl
theorem fi_Sd:funcIs Go.Proofs.Try.prog tbl 18 vf_Sd=true:=by kernel_rfl
theorem fi_Ik:funcIs Go.Proofs.Try.prog tbl 131 vf_Ik=true:=by kernel_rfl
theorem fi_Ij:funcIs Go.Proofs.Try.prog tbl 133 vf_Ij=true:=by kernel_rfl
theorem fi_Ii:funcIs Go.Proofs.Try.prog tbl 112 vf_Ii=true:=by kernel_rfl
theorem fi_Ig:funcIs Go.Proofs.Try.prog tbl 113 vf_Ig=true:=by kernel_rfl
theorem fi_Ib:funcIs Go.Proofs.Try.prog tbl 54 vf_Ib=true:=by kernel_rfl
theorem fi_Ic:funcIs Go.Proofs.Try.prog tbl 56 vf_Ic=true:=by kernel_rfl
theorem fi_Ie:funcIs Go.Proofs.Try.prog tbl 55 vf_Ie=true:=by kernel_rfl
theorem fi_Ia:funcIs Go.Proofs.Try.prog tbl 59 vf_Ia=true:=by kernel_rfl
theorem fi_Ih:funcIs Go.Proofs.Try.prog tbl 58 vf_Ih=true:=by kernel_rfl
theorem fi_If:funcIs Go.Proofs.Try.prog tbl 57 vf_If=true:=by kernel_rfl
theorem fi_Id:funcIs Go.Proofs.Try.prog tbl 20 vf_Id=true:=by kernel_rfl
theorem fi_Lb:funcIs Go.Proofs.Try.prog tbl 13 vf_Lb=true:=by kernel_rfl
theorem fi_Le:funcIs Go.Proofs.Try.prog tbl 114 vf_Le=true:=by kernel_rfl
theorem fi_Lf:funcIs Go.Proofs.Try.prog tbl 60 vf_Lf=true:=by kernel_rfl
theorem fi_Lc:funcIs Go.Proofs.Try.prog tbl 115 vf_Lc=true:=by kernel_rfl
theorem fi_Ld:funcIs Go.Proofs.Try.prog tbl 61 vf_Ld=true:=by kernel_rfl
theorem fi_La:funcIs Go.Proofs.Try.prog tbl 21 vf_La=true:=by kernel_rfl
theorem fi_Lk:funcIs Go.Proofs.Try.prog tbl 116 vf_Lk=true:=by kernel_rfl
theorem fi_Ll:funcIs Go.Proofs.Try.prog tbl 62 vf_Ll=true:=by kernel_rfl
theorem fi_Li:funcIs Go.Proofs.Try.prog tbl 14 vf_Li=true:=by kernel_rfl
theorem fi_Lj:funcIs Go.Proofs.Try.prog tbl 63 vf_Lj=true:=by kernel_rfl
theorem fi_Lh:funcIs Go.Proofs.Try.prog tbl 22 vf_Lh=true:=by kernel_rfl
theorem fi_Lg:funcIs Go.Proofs.Try.prog tbl 23 vf_Lg=true:=by kernel_rfl
theorem fi_laws_FnExactWriteBox:funcIs Go.Proofs.Try.prog tbl 4 vf_laws_FnExactWriteBox=true:=by kernel_rfl
def gI:GInv:=gNone
end Go.Proofs.V
