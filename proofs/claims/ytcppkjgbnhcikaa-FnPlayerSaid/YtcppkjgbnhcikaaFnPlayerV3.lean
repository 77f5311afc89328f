import Derived.Test.YtcppkjgbnhcikaaFnPlayerV2
set_option linter.unusedVariables false
set_option maxRecDepth 100000
namespace Go.Proofs.V
open Go
abbrev LI:=List Int
abbrev LB:=List Bool
structure Za where
 kind:Int
 scale:Int
 name:ByteArray
 deriving DecidableEq,Inhabited
abbrev LZ:=List Za
structure Zb where
 track:Int
 time:Int
 span:Int
 key:Bool
 data:LI
 deriving DecidableEq,Inhabited
abbrev LZa:=List Zb
structure Zc where
 kind:Int
 value:Int
 deriving DecidableEq,Inhabited
abbrev LZb:=List Zc
structure Zd where
 code:LI
 at_:Int
 seed:Int
 deriving DecidableEq,Inhabited
structure Ze where
 tracks:LZ
 packets:LZa
 deriving DecidableEq,Inhabited
structure Zf where
 wall:Int
 clock:Int
 packet:Int
 dropped:Bool
 deriving DecidableEq,Inhabited
abbrev LZc:=List Zf
structure Zg where
 err:Int
 shows:LZc
 wall:Int
 clock:Int
 deriving DecidableEq,Inhabited
structure Zh where
 b:Ze
 speed:Int
 due:LI
 gone:LB
 next:Int
 dropping:LB
 wall:Int
 clock:Int
 busy:Int
 shows:LZc
 deriving DecidableEq,Inhabited
structure Zi where
 b:Ze
 due:LI
 speed:Int
 wall:Int
 clock:Int
 pace:Int
 playing:Bool
 busy:Int
 gone:LB
 left:Int
 soon:Int
 drop:LB
 shows:LZc
 deriving DecidableEq,Inhabited
def rZa (x:Za):List T:=[.lit (.int .i64 x.kind),.lit (.int .i64 x.scale),.lit (.string x.name)]
def rZb (x:Zb):List T:=[.lit (.int .i64 x.track),.lit (.int .i64 x.time),.lit (.int .i64 x.span),.lit (.bool x.key),.sl (x.data.map (rI .u8))]
def rZc (x:Zc):List T:=[.lit (.int .i64 x.kind),.lit (.int .i64 x.value)]
def rZf (x:Zf):List T:=[.lit (.int .i64 x.wall),.lit (.int .i64 x.clock),.lit (.int .i64 x.packet),.lit (.bool x.dropped)]
noncomputable section
def m_Sz_10 (p0:Zd) (a:Int):Option (Int×Zd):=
 if (decide ((w64 (p0.at_+1))≤(p0.code.length:Int))) then
  some (a,(Zd.mk p0.code (w64 (p0.at_+1)) (wr .u64 ((wr .u64 ((wr .u64 (p0.seed*6364136223846793005))+(wr .u64 a)))+1442695040888963407))))
 else
  some ((w64 (andI .u64 (shrI .u64 (wr .u64 ((wr .u64 ((wr .u64 (p0.seed*6364136223846793005))+(wr .u64 a)))+1442695040888963407)) 40) 255)),(Zd.mk p0.code (w64 (p0.at_+1)) (wr .u64 ((wr .u64 ((wr .u64 (p0.seed*6364136223846793005))+(wr .u64 a)))+1442695040888963407))))
def m_Sz_0 (p0:Zd):Option (Int×Zd):=
 if (decide (p0.at_ < (p0.code.length:Int))) then
  (rd p0.code p0.at_).bind fun a=>
  m_Sz_10 p0 (w64 a)
 else
  m_Sz_10 p0 0
def m_Sz (p0:Zd):Option (Int×Zd):=m_Sz_0 p0
def m_Sbb_24 (p1 a:Int) (b:LI) (c d:Int):Option (Int×Zd):=
 (ck (decide ((p1:Int)≠0))).bind fun _=>
 some ((Int.tmod a p1),(Zd.mk b c d))
def m_Sbb_18 (p1 b:Int) (c:LI) (d e:Int):Option (Int×Zd):=
 if (decide (p1 > 50000)) then
  (m_Sz (Zd.mk c d e)).bind fun a=>
  m_Sbb_24 p1 (w64 ((w64 (b*256))+a.1)) a.2.code a.2.at_ a.2.seed
 else
  m_Sbb_24 p1 b c d e
def m_Sbb_0 (p1:Int) (p0:Zd):Option (Int×Zd):=
 if (decide (p1≤1)) then
  some (0,p0)
 else
  (m_Sz p0).bind fun a=>
  if (decide (p1 > 200)) then
   (m_Sz a.2).bind fun b=>
   m_Sbb_18 p1 (w64 ((w64 (a.1*256))+b.1)) b.2.code b.2.at_ b.2.seed
  else
   m_Sbb_18 p1 a.1 a.2.code a.2.at_ a.2.seed
def m_Sbb (p0:Zd) (p1:Int):Option (Int×Zd):=m_Sbb_0 p1 p0
def m_Sbc_21 (a:LI) (b c:Int) (d:LI):Option (LI×Zd):=
 some (d,(Zd.mk a b c))
def m_Sbc_9 (d a:Int) (e:LI) (f g:Int) (c:LI):Option ((Int×Int×LI×Int×Int×LI)⊕((LI×Int×Int×LI))):=
 if (decide (a < d)) then
  (m_Sbb (Zd.mk e f g) 95).bind fun b=>
  (rd c a).bind fun _=>
  some (.inl (d,(w64 (a+1)),b.2.code,b.2.at_,b.2.seed,(c.set (0+Int.toNat a) (wr .u8 (w64 (32+b.1))))))
 else
  some (.inr (e,f,g,c))
def lp_Sbc_9 (s:Int×Int×LI×Int×Int×LI):Option ((Int×Int×LI×Int×Int×LI)⊕((LI×Int×Int×LI))):=m_Sbc_9 s.1 s.2.1 s.2.2.1 s.2.2.2.1 s.2.2.2.2.1 s.2.2.2.2.2
def m_Sbc_0 (p1:Int) (p0:Zd):Option (LI×Zd):=
 (ck (decide ((0:Int)≤p1∧p1≤(140737488355328:Int)))).bind fun _=>
 (loopM (lp_Sbc_9) (((Int.toNat p1):Int),0,p0.code,p0.at_,p0.seed,(List.replicate (Int.toNat p1) (0:Int)))).bind fun e=>m_Sbc_21 e.1 e.2.1 e.2.2.1 e.2.2.2
def m_Sbc (p0:Zd) (p1:Int):Option (LI×Zd):=m_Sbc_0 p1 p0
def m_Sba_0 (p1:Int) (p0:Zd):Option (Bool×Zd):=
 (m_Sbb p0 p1).bind fun a=>
 some ((a.1 == 0),a.2)
def m_Sba (p0:Zd) (p1:Int):Option (Bool×Zd):=m_Sba_0 p1 p0
def m_Sx_21 (a:LI) (b c:Int) (d:LI):Option (LI×Zd):=
 some (d,(Zd.mk a b c))
def m_Sx_9 (d a:Int) (e:LI) (f g:Int) (c:LI):Option ((Int×Int×LI×Int×Int×LI)⊕((LI×Int×Int×LI))):=
 if (decide (a < d)) then
  (m_Sz (Zd.mk e f g)).bind fun b=>
  (rd c a).bind fun _=>
  some (.inl (d,(w64 (a+1)),b.2.code,b.2.at_,b.2.seed,(c.set (0+Int.toNat a) (wr .u8 b.1))))
 else
  some (.inr (e,f,g,c))
def lp_Sx_9 (s:Int×Int×LI×Int×Int×LI):Option ((Int×Int×LI×Int×Int×LI)⊕((LI×Int×Int×LI))):=m_Sx_9 s.1 s.2.1 s.2.2.1 s.2.2.2.1 s.2.2.2.2.1 s.2.2.2.2.2
def m_Sx_0 (p1:Int) (p0:Zd):Option (LI×Zd):=
 (ck (decide ((0:Int)≤p1∧p1≤(140737488355328:Int)))).bind fun _=>
 (loopM (lp_Sx_9) (((Int.toNat p1):Int),0,p0.code,p0.at_,p0.seed,(List.replicate (Int.toNat p1) (0:Int)))).bind fun e=>m_Sx_21 e.1 e.2.1 e.2.2.1 e.2.2.2
def m_Sx (p0:Zd) (p1:Int):Option (LI×Zd):=m_Sx_0 p1 p0
def m_Sh_0 (p0:Ze) (p1 p2:Int):Option (Bool):=
 (rd p0.packets p1).bind fun a=>
 (rd p0.packets p2).bind fun b=>
 (rd p0.tracks b.track).bind fun c=>
 (rd p0.tracks a.track).bind fun d=>
 if ((w64 (a.time*c.scale)) != (w64 (b.time*d.scale))) then
  some (decide ((w64 (a.time*c.scale)) < (w64 (b.time*d.scale))))
 else
  if (a.track != b.track) then
   some (decide (a.track < b.track))
  else
   some (decide (p1 < p2))
def m_Sh (p0:Ze) (p1 p2:Int):Option (Bool):=m_Sh_0 p0 p1 p2
def m_Sf_0 (p0:Zb):Option (Zb):=
 (ck (decide (([]:LI).length+p0.data.length≤140737488355328))).bind fun _=>
 some (Zb.mk p0.track p0.time p0.span p0.key (([]:LI)++p0.data))
def m_Sf (p0:Zb):Option (Zb):=m_Sf_0 p0
def m_Sm_56 (a:Int) (p0:Ze) (c:LZ) (b:LI):Option ((Int×LI)⊕((LI))):=
 some (.inl ((w64 (a+1)),b))
def m_Sm_42 (f:Int) (p0:Ze) (g:LZ) (a:Int) (b:LI):Option ((Int×LI)⊕((LI))):=
 if (decide (a > 0)) then
  (rd b a).bind fun d=>
  (rd b (w64 (a - 1))).bind fun c=>
  (m_Sh p0 d c).bind fun e=>
  if e then
   (rd (b.set (0+Int.toNat a) c) (w64 (a - 1))).bind fun _=>
   some (.inl ((w64 (a - 1)),((b.set (0+Int.toNat a) c).set (0+Int.toNat (w64 (a - 1))) d)))
  else
   some (.inr b)
 else
  some (.inr b)
def lp_Sm_42 (a:Int) (p0:Ze) (b:LZ) (s:Int×LI):Option ((Int×LI)⊕((LI))):=m_Sm_42 a p0 b s.1 s.2
def m_Sm_74 (a:LZ) (b:LZa):Option (Ze):=
 some (Ze.mk a b)
def m_Sm_62 (c:LI) (p0:Ze) (g:LZ) (a:Int) (b:LZa):Option ((Int×LZa)⊕((LZa))):=
 if (decide (a < (c.length:Int))) then
  (rd c a).bind fun e=>
  (rd p0.packets e).bind fun f=>
  (m_Sf f).bind fun d=>
  (ck (decide (b.length+([d]:LZa).length≤2513169434916))).bind fun _=>
  some (.inl ((w64 (a+1)),(b++([d]:LZa))))
 else
  some (.inr b)
def lp_Sm_62 (a:LI) (p0:Ze) (b:LZ) (s:Int×LZa):Option ((Int×LZa)⊕((LZa))):=m_Sm_62 a p0 b s.1 s.2
def m_Sm_57 (p0:Ze) (a:LZ) (b:LI):Option (Ze):=
 (loopM (lp_Sm_62 b p0 a) (0,([]:LZa))).bind fun e=>m_Sm_74 a e
def m_Sm_30 (p0:Ze) (c:LZ) (a:Int) (b:LI):Option ((Int×LI)⊕((LI))):=
 if (decide (a < (b.length:Int))) then
  (loopM (lp_Sm_42 a p0 c) (a,b)).bind fun e=>m_Sm_56 a p0 c e
 else
  some (.inr b)
def lp_Sm_30 (p0:Ze) (a:LZ) (s:Int×LI):Option ((Int×LI)⊕((LI))):=m_Sm_30 p0 a s.1 s.2
def m_Sm_25 (p0:Ze) (b:LI) (a:LZ):Option (Ze):=
 (loopM (lp_Sm_30 p0 a) (1,b)).bind fun e=>m_Sm_57 p0 a e
def m_Sm_13 (p0:Ze) (c a:Int) (b:LI) (d:LZ):Option ((Int×Int×LI×LZ)⊕((LI×LZ))):=
 if (decide (a < c)) then
  (rd b a).bind fun _=>
  some (.inl (c,(w64 (a+1)),(b.set (0+Int.toNat a) a),d))
 else
  some (.inr (b,d))
def lp_Sm_13 (p0:Ze) (s:Int×Int×LI×LZ):Option ((Int×Int×LI×LZ)⊕((LI×LZ))):=m_Sm_13 p0 s.1 s.2.1 s.2.2.1 s.2.2.2
def m_Sm_0 (p0:Ze):Option (Ze):=
 (ck (decide (([]:LZ).length+p0.tracks.length≤4398046511104))).bind fun _=>
 (ck (decide ((0:Int)≤(p0.packets.length:Int)∧(p0.packets.length:Int)≤(17592186044416:Int)))).bind fun _=>
 (loopM (lp_Sm_13 p0) (((Int.toNat (p0.packets.length:Int)):Int),0,(List.replicate (Int.toNat (p0.packets.length:Int)) (0:Int)),(([]:LZ)++p0.tracks))).bind fun e=>m_Sm_25 p0 e.1 e.2
def m_Sm (p0:Ze):Option (Ze):=m_Sm_0 p0
def m_Sw_44 (p1 j:Int) (a:Int×Zd) (c:Int) (d:Int×Zd) (e:LI) (f:LB) (k:LZ) (g:LZa) (l:LI) (m n:Int) (h:Bool) (i:LI):Option ((Int×LI×Int×Int×LI×LB×LZa)⊕((LI×Int×Int×LZa))):=
 (rd f a.1).bind fun _=>
 (rd e a.1).bind fun o=>
 (rd k a.1).bind fun p=>
 (m_Sbb (Zd.mk l m n) 60).bind fun b=>
 (ck (decide (g.length+([(Zb.mk a.1 c d.1 h i)]:LZa).length≤2513169434916))).bind fun _=>
 some (.inl ((w64 (j+1)),b.2.code,b.2.at_,b.2.seed,(e.set (0+Int.toNat a.1) (w64 (o+(w64 (b.1*(w64 (1+(w64 (Int.tdiv p.scale 200))))))))),(f.set (0+Int.toNat a.1) true),(g++([(Zb.mk a.1 c d.1 h i)]:LZa))))
def m_Sw_50 (a:LZ) (b:LI) (c d:Int) (e:LZa):Option (Ze×Zd):=
 (m_Sm (Ze.mk a e)).bind fun f=>
 some (f,(Zd.mk b c d))
def m_Sw_32 (p1:Int) (f:LZ) (g:Int) (k:LI) (l m:Int) (h:LI) (i:LB) (j:LZa):Option ((Int×LI×Int×Int×LI×LB×LZa)⊕((LI×Int×Int×LZa))):=
 if (decide (g < p1)) then
  (m_Sbb (Zd.mk k l m) (f.length:Int)).bind fun b=>
  (rd h b.1).bind fun n=>
  (rd i b.1).bind fun o=>
  (m_Sbb b.2 50).bind fun d=>
  if o then
   (m_Sba d.2 3).bind fun c=>
   (m_Sbb c.2 12).bind fun a=>
   (m_Sx a.2 a.1).bind fun e=>
   m_Sw_44 p1 g b n d h i f j e.2.code e.2.at_ e.2.seed c.1 e.1
  else
   (m_Sbb d.2 12).bind fun c=>
   (m_Sx c.2 c.1).bind fun a=>
   m_Sw_44 p1 g b n d h i f j a.2.code a.2.at_ a.2.seed true a.1
 else
  some (.inr (k,l,m,j))
def lp_Sw_32 (p1:Int) (a:LZ) (s:Int×LI×Int×Int×LI×LB×LZa):Option ((Int×LI×Int×Int×LI×LB×LZa)⊕((LI×Int×Int×LZa))):=m_Sw_32 p1 a s.1 s.2.1 s.2.2.1 s.2.2.2.1 s.2.2.2.2.1 s.2.2.2.2.2.1 s.2.2.2.2.2.2
def m_Sw_23 (p1:Int) (b:LI) (c d:Int) (a:LZ):Option (Ze×Zd):=
 (ck (decide ((0:Int)≤(a.length:Int)∧(a.length:Int)≤(17592186044416:Int)))).bind fun _=>
 (ck (decide ((0:Int)≤(a.length:Int)∧(a.length:Int)≤(140737488355328:Int)))).bind fun _=>
 (loopM (lp_Sw_32 p1 a) (0,b,c,d,(List.replicate (Int.toNat (a.length:Int)) (0:Int)),(List.replicate (Int.toNat (a.length:Int)) (false:Bool)),([]:LZa))).bind fun e=>m_Sw_50 a e.1 e.2.1 e.2.2.1 e.2.2.2
def m_Sw_9 (p1 d:Int) (e:LI) (f g:Int) (b:LZ):Option ((Int×LI×Int×Int×LZ)⊕((LI×Int×Int×LZ))):=
 if (decide (d > 0)) then
  (m_Sbb (Zd.mk e f g) 6).bind fun c=>
  (m_Sbb c.2 300).bind fun h=>
  (m_Sbb h.2 5).bind fun i=>
  (rd ([1,25,1000,44100,(w64 (1+h.1))]:LI) i.1).bind fun j=>
  (m_Sbb i.2 5).bind fun k=>
  (m_Sbc k.2 k.1).bind fun a=>
  (bstr a.1).bind fun l=>
  (ck (decide (b.length+([(Za.mk (w64 (1+c.1)) j l)]:LZ).length≤4398046511104))).bind fun _=>
  some (.inl ((w64 (d - 1)),a.2.code,a.2.at_,a.2.seed,(b++([(Za.mk (w64 (1+c.1)) j l)]:LZ))))
 else
  some (.inr (e,f,g,b))
def lp_Sw_9 (p1:Int) (s:Int×LI×Int×Int×LZ):Option ((Int×LI×Int×Int×LZ)⊕((LI×Int×Int×LZ))):=m_Sw_9 p1 s.1 s.2.1 s.2.2.1 s.2.2.2.1 s.2.2.2.2
def m_Sw_0 (p1:Int) (p0:Zd):Option (Ze×Zd):=
 (m_Sbb p0 3).bind fun a=>
 (loopM (lp_Sw_9 p1) ((w64 (1+a.1)),a.2.code,a.2.at_,a.2.seed,([]:LZ))).bind fun e=>m_Sw_23 p1 e.1 e.2.1 e.2.2.1 e.2.2.2
def m_Sw (p0:Zd) (p1:Int):Option (Ze×Zd):=m_Sw_0 p1 p0
def m_Sbd_0 (p0:LI) (p1 p2:Int):Option (Int):=
 (ck (decide ((p1:Int)≠0))).bind fun _=>
 if (decide ((w64 (Int.tdiv (p0.length:Int) p1)) > p2)) then
  some p2
 else
  some (w64 (Int.tdiv (p0.length:Int) p1))
def m_Sbd (p0:LI) (p1 p2:Int):Option (Int):=m_Sbd_0 p0 p1 p2
def m_Sg_49 (a:LI) (b c:Int) (d:LZ) (e:LZa):Option (Ze×Zd):=
 some ((Ze.mk d e),(Zd.mk a b c))
def m_Sg_12 (h:LI) (i j:Int) (d:LZ) (b:LZa):Option (Ze×Zd):=
 (m_Sbb (Zd.mk h i j) 14).bind fun a=>
 if (a.1 == 0) then
  if (decide ((b.length:Int) > 1)) then
   (rd b 0).bind fun k=>
   (rd b 1).bind fun c=>
   (rd (b.set (0+Int.toNat 0) c) 1).bind fun _=>
   m_Sg_49 a.2.code a.2.at_ a.2.seed d ((b.set (0+Int.toNat 0) c).set (0+Int.toNat 1) k)
  else
   m_Sg_49 a.2.code a.2.at_ a.2.seed d b
 else
  if (a.1 == 1) then
   if (decide ((b.length:Int) > 0)) then
    (m_Sbb a.2 (b.length:Int)).bind fun c=>
    (m_Sbb c.2 4).bind fun f=>
    (rd ([(-1),1000000000,1000000001,3]:LI) f.1).bind fun e=>
    (rd b c.1).bind fun g=>
    m_Sg_49 f.2.code f.2.at_ f.2.seed d (b.set (0+Int.toNat c.1) (Zb.mk g.track e g.span g.key g.data))
   else
    m_Sg_49 a.2.code a.2.at_ a.2.seed d b
  else
   if (a.1 == 2) then
    (m_Sbb a.2 3).bind fun c=>
    (rd ([0,1000000,1000001]:LI) c.1).bind fun f=>
    (rd d 0).bind fun e=>
    m_Sg_49 c.2.code c.2.at_ c.2.seed (d.set (0+Int.toNat 0) (Za.mk e.kind f e.name)) b
   else
    if (a.1 == 3) then
     if (decide ((b.length:Int) > 0)) then
      (rd b 0).bind fun e=>
      m_Sg_49 a.2.code a.2.at_ a.2.seed d (b.set (0+Int.toNat 0) (Zb.mk e.track e.time e.span false e.data))
     else
      m_Sg_49 a.2.code a.2.at_ a.2.seed d b
    else
     m_Sg_49 a.2.code a.2.at_ a.2.seed d b
def m_Sg_0 (p0:LI):Option (Ze×Zd):=
 (m_Sbb (Zd.mk p0 0 0) 12).bind fun d=>
 (m_Sw d.2 d.1).bind fun c=>
 (m_Sba c.2 6).bind fun a=>
 if a.1 then
  (m_Sbd p0 6 60).bind fun e=>
  (m_Sw a.2 e).bind fun b=>
  m_Sg_12 b.2.code b.2.at_ b.2.seed b.1.tracks b.1.packets
 else
  m_Sg_12 a.2.code a.2.at_ a.2.seed c.1.tracks c.1.packets
def m_Sg (p0:LI):Option (Ze×Zd):=m_Sg_0 p0
def m_Sy_23 (b:Int) (p1:Ze) (f:LI) (g h:Int) (e:LZa):Option ((Int×LI×Int×Int×LZa)⊕((LI×Int×Int×LZa))):=
 (m_Sba (Zd.mk f g h) 2).bind fun a=>
 if a.1 then
  (m_Sbb a.2 40).bind fun c=>
  (rd e b).bind fun d=>
  some (.inl ((w64 (b+1)),c.2.code,c.2.at_,c.2.seed,(e.set (0+Int.toNat b) (Zb.mk d.track d.time (w64 (1+c.1)) d.key d.data))))
 else
  some (.inl ((w64 (b+1)),a.2.code,a.2.at_,a.2.seed,e))
def m_Sy_50 (a:LZa) (b:LI) (c d:Int) (e:LZ):Option (Ze×Zd):=
 some ((Ze.mk e a),(Zd.mk b c d))
def m_Sy_34 (p1:Ze) (h:LZa) (b:Int) (d:LI) (e f:Int) (c:LZ):Option ((Int×LI×Int×Int×LZ)⊕((LI×Int×Int×LZ))):=
 if (decide (b < (p1.tracks.length:Int))) then
  (m_Sba (Zd.mk d e f) 2).bind fun a=>
  if a.1 then
   (rd c b).bind fun g=>
   some (.inl ((w64 (b+1)),a.2.code,a.2.at_,a.2.seed,(c.set (0+Int.toNat b) (Za.mk 3 g.scale g.name))))
  else
   some (.inl ((w64 (b+1)),a.2.code,a.2.at_,a.2.seed,c))
 else
  some (.inr (d,e,f,c))
def lp_Sy_34 (p1:Ze) (a:LZa) (s:Int×LI×Int×Int×LZ):Option ((Int×LI×Int×Int×LZ)⊕((LI×Int×Int×LZ))):=m_Sy_34 p1 a s.1 s.2.1 s.2.2.1 s.2.2.2.1 s.2.2.2.2
def m_Sy_29 (p1:Ze) (b:LI) (c d:Int) (a:LZa):Option (Ze×Zd):=
 (loopM (lp_Sy_34 p1 a) (0,b,c,d,p1.tracks)).bind fun e=>m_Sy_50 a e.1 e.2.1 e.2.2.1 e.2.2.2
def m_Sy_7 (p1:Ze) (b:Int) (f:LI) (g h:Int) (d:LZa):Option ((Int×LI×Int×Int×LZa)⊕((LI×Int×Int×LZa))):=
 if (decide (b < (p1.packets.length:Int))) then
  (m_Sba (Zd.mk f g h) 3).bind fun c=>
  if c.1 then
   (m_Sbb c.2 900).bind fun a=>
   (ck (decide ((0:Int)≤a.1∧a.1≤(140737488355328:Int)))).bind fun _=>
   (rd d b).bind fun e=>
   m_Sy_23 b p1 a.2.code a.2.at_ a.2.seed (d.set (0+Int.toNat b) (Zb.mk e.track e.time e.span e.key (List.replicate (Int.toNat a.1) (0:Int))))
  else
   m_Sy_23 b p1 c.2.code c.2.at_ c.2.seed d
 else
  some (.inr (f,g,h,d))
def lp_Sy_7 (p1:Ze) (s:Int×LI×Int×Int×LZa):Option ((Int×LI×Int×Int×LZa)⊕((LI×Int×Int×LZa))):=m_Sy_7 p1 s.1 s.2.1 s.2.2.1 s.2.2.2.1 s.2.2.2.2
def m_Sy_0 (p0:Zd) (p1:Ze):Option (Ze×Zd):=
 (loopM (lp_Sy_7 p1) (0,p0.code,p0.at_,p0.seed,p1.packets)).bind fun e=>m_Sy_29 p1 e.1 e.2.1 e.2.2.1 e.2.2.2
def m_Sy (p0:Zd) (p1:Ze):Option (Ze×Zd):=m_Sy_0 p0 p1
def m_Sv_46 (p1 d:Int) (a:LZb) (e:LI) (f g b c:Int):Option ((Int×LI×Int×Int×LZb)⊕((LI×Int×Int×LZb))):=
 (ck (decide (a.length+([(Zc.mk b c)]:LZb).length≤8796093022208))).bind fun _=>
 some (.inl ((w64 (d+1)),e,f,g,(a++([(Zc.mk b c)]:LZb))))
def m_Sv_48 (a:LI) (b c:Int) (d:LZb):Option (LZb×Zd):=
 some (d,(Zd.mk a b c))
def m_Sv_11 (p1 b:Int) (h:LI) (i j:Int) (c:LZb):Option ((Int×LI×Int×Int×LZb)⊕((LI×Int×Int×LZb))):=
 if (decide (b < p1)) then
  (m_Sbb (Zd.mk h i j) 5).bind fun a=>
  if ((w64 (1+a.1)) == 3) then
   (m_Sbb a.2 3000).bind fun e=>
   m_Sv_46 p1 b c e.2.code e.2.at_ e.2.seed (w64 (1+a.1)) e.1
  else
   if ((w64 (1+a.1)) == 4) then
    (m_Sbb a.2 900).bind fun f=>
    m_Sv_46 p1 b c f.2.code f.2.at_ f.2.seed (w64 (1+a.1)) f.1
   else
    if ((w64 (1+a.1)) == 5) then
     (m_Sbb a.2 376).bind fun g=>
     m_Sv_46 p1 b c g.2.code g.2.at_ g.2.seed (w64 (1+a.1)) (w64 (25+g.1))
    else
     if ((w64 (1+a.1)) == 2) then
      (m_Sba a.2 2).bind fun d=>
      if d.1 then
       m_Sv_46 p1 b c d.2.code d.2.at_ d.2.seed 1 0
      else
       m_Sv_46 p1 b c d.2.code d.2.at_ d.2.seed (w64 (1+a.1)) 0
     else
      m_Sv_46 p1 b c a.2.code a.2.at_ a.2.seed (w64 (1+a.1)) 0
 else
  some (.inr (h,i,j,c))
def lp_Sv_11 (p1:Int) (s:Int×LI×Int×Int×LZb):Option ((Int×LI×Int×Int×LZb)⊕((LI×Int×Int×LZb))):=m_Sv_11 p1 s.1 s.2.1 s.2.2.1 s.2.2.2.1 s.2.2.2.2
def m_Sv_0 (p1:Int) (p0:Zd):Option (LZb×Zd):=
 (ck (decide (([]:LZb).length+([(Zc.mk 1 0)]:LZb).length≤8796093022208))).bind fun _=>
 (loopM (lp_Sv_11 p1) (0,p0.code,p0.at_,p0.seed,(([]:LZb)++([(Zc.mk 1 0)]:LZb)))).bind fun e=>m_Sv_48 e.1 e.2.1 e.2.2.1 e.2.2.2
def m_Sv (p0:Zd) (p1:Int):Option (LZb×Zd):=m_Sv_0 p1 p0
def m_Sa_31 (a:LZ) (b:LZa) (c:Int) (d:LZb):Option (Ze×Int×LZb):=
 some ((Ze.mk a b),c,d)
def m_Sa_10 (k:LI) (l m:Int) (e:LZ) (f:LZa):Option (Ze×Int×LZb):=
 (m_Sbb (Zd.mk k l m) 30).bind fun g=>
 (m_Sbb g.2 12).bind fun j=>
 (m_Sv j.2 j.1).bind fun a=>
 (m_Sbb a.2 16).bind fun b=>
 if (b.1 == 0) then
  (m_Sbb b.2 3).bind fun n=>
  (rd ([0,1000,1001]:LI) n.1).bind fun c=>
  m_Sa_31 e f c a.1
 else
  if (b.1 == 1) then
   (m_Sbb b.2 (a.1.length:Int)).bind fun c=>
   (m_Sbb c.2 4).bind fun d=>
   (rd ([(-1),24,401,100001]:LI) d.1).bind fun h=>
   (rd a.1 c.1).bind fun i=>
   m_Sa_31 e f (w64 (1+g.1)) (a.1.set (0+Int.toNat c.1) (Zc.mk i.kind h))
  else
   if (b.1 == 2) then
    (m_Sbb b.2 (a.1.length:Int)).bind fun d=>
    (m_Sbb d.2 2).bind fun h=>
    (rd a.1 d.1).bind fun i=>
    m_Sa_31 e f (w64 (1+g.1)) (a.1.set (0+Int.toNat d.1) (Zc.mk (w64 (h.1*6)) i.value))
   else
    m_Sa_31 e f (w64 (1+g.1)) a.1
def m_Sa_0 (p0:LI):Option (Ze×Int×LZb):=
 (m_Sg p0).bind fun c=>
 (m_Sba c.2 2).bind fun a=>
 if a.1 then
  (m_Sbb a.2 20).bind fun d=>
  (m_Sw d.2 (w64 (10+d.1))).bind fun e=>
  (m_Sy e.2 e.1).bind fun b=>
  m_Sa_10 b.2.code b.2.at_ b.2.seed b.1.tracks b.1.packets
 else
  m_Sa_10 a.2.code a.2.at_ a.2.seed c.1.tracks c.1.packets
def m_Sa (p0:LI):Option (Ze×Int×LZb):=m_Sa_0 p0
def m_Il_33:Option (Bool):=
 some true
def m_Il_15 (p0:Za) (a:Int):Option ((Int)⊕((Bool)⊕((Unit)))):=
 if (decide (a < (p0.name.size:Int))) then
  (sat p0.name a).bind fun b=>
  if (decide (b < 32)) then
   some (.inr (.inl false))
  else
   if (decide (b > 126)) then
    some (.inr (.inl false))
   else
    some (.inl (w64 (a+1)))
 else
  some (.inr (.inr ()))
def lp_Il_15 (p0:Za) (s:Int):Option ((Int)⊕((Bool)⊕((Unit)))):=m_Il_15 p0 s
def m_Il_0 (p0:Za):Option (Bool):=
 if (decide (p0.kind < 1)) then
  some false
 else
  if (decide (p0.kind > 6)) then
   some false
  else
   if (decide (p0.scale < 1)) then
    some false
   else
    if (decide (p0.scale > 1000000)) then
     some false
    else
     if (decide ((p0.name.size:Int) > 40)) then
      some false
     else
      (loopM (lp_Il_15 p0) 0).bind fun e=>match e with | .inl e=>some e | .inr e=>m_Il_33
def m_Il (p0:Za):Option (Bool):=m_Il_0 p0
def m_Ik_0 (p0:Int):Option (Bool):=
 if (decide (p0≥0)) then
  some (decide (p0≤1000000000))
 else
  some false
def m_Ik (p0:Int):Option (Bool):=m_Ik_0 p0
def m_Ij_77 (c:Int) (p0:Ze) (d:Int) (a:Zb) (b:LI):Option ((Int×Int×LI)⊕((Bool)⊕((Int)))):=
 (rd b a.track).bind fun _=>
 some (.inl ((w64 (c+(a.data.length:Int))),(w64 (d+1)),(b.set (0+Int.toNat a.track) a.time)))
def m_Ij_81 (a:Int):Option (Bool):=
 some (decide (a≤60000))
def m_Ij_59 (p0:Ze) (c b:Int) (d:LI):Option ((Int×Int×LI)⊕((Bool)⊕((Int)))):=
 if (decide (b < (p0.packets.length:Int))) then
  (rd p0.packets b).bind fun a=>
  if (decide (a.track < 0)) then
   some (.inr (.inl false))
  else
   if (decide (a.track≥(p0.tracks.length:Int))) then
    some (.inr (.inl false))
   else
    (m_Ik a.time).bind fun f=>
    if f then
     (m_Ik a.span).bind fun g=>
     if g then
      (rd d a.track).bind fun e=>
      if (decide (a.time < e)) then
       some (.inr (.inl false))
      else
       if (decide (e < 0)) then
        if a.key then
         m_Ij_77 c p0 b a d
        else
         some (.inr (.inl false))
       else
        m_Ij_77 c p0 b a d
     else
      some (.inr (.inl false))
    else
     some (.inr (.inl false))
 else
  some (.inr (.inr c))
def lp_Ij_59 (p0:Ze) (s:Int×Int×LI):Option ((Int×Int×LI)⊕((Bool)⊕((Int)))):=m_Ij_59 p0 s.1 s.2.1 s.2.2
def m_Ij_54 (p0:Ze) (a:LI):Option (Bool):=
 (loopM (lp_Ij_59 p0) (0,0,a)).bind fun e=>match e with | .inl e=>some e | .inr e=>m_Ij_81 e
def m_Ij_42 (p0:Ze) (c a:Int) (b:LI):Option ((Int×Int×LI)⊕((LI))):=
 if (decide (a < c)) then
  (rd b a).bind fun _=>
  some (.inl (c,(w64 (a+1)),(b.set (0+Int.toNat a) (-1))))
 else
  some (.inr b)
def lp_Ij_42 (p0:Ze) (s:Int×Int×LI):Option ((Int×Int×LI)⊕((LI))):=m_Ij_42 p0 s.1 s.2.1 s.2.2
def m_Ij_33 (p0:Ze):Option (Bool):=
 (ck (decide ((0:Int)≤(p0.tracks.length:Int)∧(p0.tracks.length:Int)≤(17592186044416:Int)))).bind fun _=>
 (loopM (lp_Ij_42 p0) (((Int.toNat (p0.tracks.length:Int)):Int),0,(List.replicate (Int.toNat (p0.tracks.length:Int)) (0:Int)))).bind fun e=>m_Ij_54 p0 e
def m_Ij_15 (p0:Ze) (a:Int):Option ((Int)⊕((Bool)⊕((Unit)))):=
 if (decide (a < (p0.tracks.length:Int))) then
  (rd p0.tracks a).bind fun b=>
  (m_Il b).bind fun c=>
  if c then
   some (.inl (w64 (a+1)))
  else
   some (.inr (.inl false))
 else
  some (.inr (.inr ()))
def lp_Ij_15 (p0:Ze) (s:Int):Option ((Int)⊕((Bool)⊕((Unit)))):=m_Ij_15 p0 s
def m_Ij_0 (p0:Ze):Option (Bool):=
 if (decide ((p0.tracks.length:Int) < 1)) then
  some false
 else
  if (decide ((p0.tracks.length:Int) > 8)) then
   some false
  else
   if (decide ((p0.packets.length:Int) > 400)) then
    some false
   else
    (loopM (lp_Ij_15 p0) 0).bind fun e=>match e with | .inl e=>some e | .inr e=>m_Ij_33 p0
def m_Ij (p0:Ze):Option (Bool):=m_Ij_0 p0
def m_If_0 (p0:Ze) (p1 p2:Int):Option (Bool):=
 (rd p0.packets p1).bind fun a=>
 (rd p0.packets p2).bind fun b=>
 (rd p0.tracks b.track).bind fun c=>
 (rd p0.tracks a.track).bind fun d=>
 if ((w64 (a.time*c.scale)) != (w64 (b.time*d.scale))) then
  some (decide ((w64 (a.time*c.scale)) < (w64 (b.time*d.scale))))
 else
  if (a.track != b.track) then
   some (decide (a.track < b.track))
  else
   some (decide (p1 < p2))
def m_If (p0:Ze) (p1 p2:Int):Option (Bool):=m_If_0 p0 p1 p2
def m_Ia_31:Option (Bool):=
 some true
def m_Ia_15 (p0:Ze) (a:Int):Option ((Int)⊕((Bool)⊕((Unit)))):=
 if (decide (a < (p0.packets.length:Int))) then
  (m_If p0 a (w64 (a - 1))).bind fun b=>
  if b then
   some (.inr (.inl false))
  else
   some (.inl (w64 (a+1)))
 else
  some (.inr (.inr ()))
def lp_Ia_15 (p0:Ze) (s:Int):Option ((Int)⊕((Bool)⊕((Unit)))):=m_Ia_15 p0 s
def m_Ia_0 (p0:Ze):Option (Bool):=
 (m_Ij p0).bind fun a=>
 if a then
  (loopM (lp_Ia_15 p0) 1).bind fun e=>match e with | .inl e=>some e | .inr e=>m_Ia_31
 else
  some false
def m_Ia (p0:Ze):Option (Bool):=m_Ia_0 p0
def m_Id_0 (p0 p1:Int) (p2:Zc):Option (Bool×Zc):=
 if (decide (p2.value≥p0)) then
  some ((decide (p2.value≤p1)),p2)
 else
  some (false,p2)
def m_Id (p0 p1:Int) (p2:Zc):Option (Bool×Zc):=m_Id_0 p0 p1 p2
def m_Ic_14 (p0:Zc) (a:Bool):Option (Bool):=
 if a then
  some (p0.value == 0)
 else
  if (p0.kind == 3) then
   (m_Id 0 359999999 p0).bind fun b=>
   some b.1
  else
   if (p0.kind == 4) then
    (m_Id 0 100000 p0).bind fun c=>
    some c.1
   else
    if (p0.kind == 5) then
     (m_Id 25 400 p0).bind fun d=>
     some d.1
    else
     some false
def m_Ic_0 (p0:Zc):Option (Bool):=
 if (p0.kind == 1) then
  m_Ic_14 p0 (p0.kind == 1)
 else
  m_Ic_14 p0 (p0.kind == 2)
def m_Ic (p0:Zc):Option (Bool):=m_Ic_0 p0
def m_Ie_0 (p0:Ze) (p1:Int):Option (Int):=
 (rd p0.packets p1).bind fun a=>
 (rd p0.tracks a.track).bind fun b=>
 (ck (decide ((b.scale:Int)≠0))).bind fun _=>
 some (w64 (Int.tdiv (w64 (a.time*1000000)) b.scale))
def m_Ie (p0:Ze) (p1:Int):Option (Int):=m_Ie_0 p0 p1
def m_Ig_0 (p1:Int) (p0:Zh):Option (Int×Zh):=
 (rd p0.b.packets p1).bind fun a=>
 (ck (decide ((p0.speed:Int)≠0))).bind fun _=>
 some ((w64 ((w64 ((mxI p0.wall p0.busy)+(w64 (Int.tdiv (a.data.length:Int) p0.speed))))+1)),p0)
def m_Ig (p0:Zh) (p1:Int):Option (Int×Zh):=m_Ig_0 p1 p0
def m_Ih_38 (c a e:Int) (p0:Zh) (f:Int) (b:LI) (g:LB) (d:Bool):Option ((Int×LI)⊕((LI))):=
 if d then
  (rd b c).bind fun _=>
  some (.inl ((w64 (a+1)),(b.set (0+Int.toNat c) a)))
 else
  some (.inl ((w64 (a+1)),b))
def m_Ih_42 (a c:Int) (p0:Zh) (d:Int) (b:LB) (e:LI):Option ((Int×Int×Int×LI×LB)⊕((Int×LI×LB))):=
 (rd b a).bind fun _=>
 some (.inl (c,(w64 (a+1)),d,e,(b.set (0+Int.toNat a) false)))
def m_Ih_26 (c f:Int) (p0:Zh) (d:Int) (g:LB) (a:Int) (e:LI):Option ((Int×LI)⊕((LI))):=
 if (decide (a < (p0.b.packets.length:Int))) then
  (rd p0.b.packets a).bind fun j=>
  if (j.track == c) then
   if j.key then
    (rd p0.due a).bind fun h=>
    if (decide (h≤d)) then
     m_Ih_38 c a f p0 d e g true
    else
     (rd e c).bind fun i=>
     if (decide (i < 0)) then
      m_Ih_38 c a f p0 d e g (decide (h > d))
     else
      m_Ih_38 c a f p0 d e g false
   else
    (rd e c).bind fun h=>
    if (decide (h < 0)) then
     (rd p0.due a).bind fun i=>
     m_Ih_38 c a f p0 d e g (decide (i > d))
    else
     m_Ih_38 c a f p0 d e g false
  else
   m_Ih_38 c a f p0 d e g false
 else
  some (.inr e)
def lp_Ih_26 (a b:Int) (p0:Zh) (c:Int) (d:LB) (s:Int×LI):Option ((Int×LI)⊕((LI))):=m_Ih_26 a b p0 c d s.1 s.2
def m_Ih_63 (c:Int) (p0:Zh) (e:LZ) (f:LZa) (g h i j k:Int) (p l:LI) (m:LB) (n:LZc) (o:Bool) (d:LB):Option ((Int×LZ×LZa×Int×Int×Int×Int×Int×LI×LB×LB×LZc)⊕((LZ×LZa×Int×Int×Int×Int×Int×LI×LB×LB×LZc))):=
 if o then
  (rd d c).bind fun _=>
  (m_Ig (Zh.mk (Ze.mk e f) g l (d.set (0+Int.toNat c) true) h m i j k n) c).bind fun a=>
  some (.inl ((w64 (c+1)),a.2.b.tracks,a.2.b.packets,a.2.speed,a.2.next,a.2.wall,a.2.clock,a.1,a.2.due,a.2.gone,a.2.dropping,a.2.shows))
 else
  some (.inl ((w64 (c+1)),e,f,g,h,i,j,k,l,d,m,n))
def m_Ih_69 (a:LZ) (b:LZa) (c k d e f:Int) (g:LI) (h i:LB) (j:LZc):Option (Zh):=
 some (Zh.mk (Ze.mk a b) c g h 0 i d e f j)
def m_Ih_49 (p0:Zh) (f:LI) (a:Int) (g:LZ) (h:LZa) (i j k c l:Int) (d:LI) (e m:LB) (n:LZc):Option ((Int×LZ×LZa×Int×Int×Int×Int×Int×LI×LB×LB×LZc)⊕((LZ×LZa×Int×Int×Int×Int×Int×LI×LB×LB×LZc))):=
 if (decide (a < (p0.b.packets.length:Int))) then
  (rd p0.b.packets a).bind fun p=>
  (rd f p.track).bind fun o=>
  (rd e a).bind fun _=>
  if (decide (a < o)) then
   m_Ih_63 a p0 g h i j k c l f d m n false (e.set (0+Int.toNat a) (decide (a < o)))
  else
   (rd d a).bind fun q=>
   m_Ih_63 a p0 g h i j k c l f d m n (decide (q < c)) (e.set (0+Int.toNat a) (decide (a < o)))
 else
  some (.inr (g,h,i,j,k,c,l,d,e,m,n))
def lp_Ih_49 (p0:Zh) (a:LI) (s:Int×LZ×LZa×Int×Int×Int×Int×Int×LI×LB×LB×LZc):Option ((Int×LZ×LZa×Int×Int×Int×Int×Int×LI×LB×LB×LZc)⊕((LZ×LZa×Int×Int×Int×Int×Int×LI×LB×LB×LZc))):=m_Ih_49 p0 a s.1 s.2.1 s.2.2.1 s.2.2.2.1 s.2.2.2.2.1 s.2.2.2.2.2.1 s.2.2.2.2.2.2.1 s.2.2.2.2.2.2.2.1 s.2.2.2.2.2.2.2.2.1 s.2.2.2.2.2.2.2.2.2.1 s.2.2.2.2.2.2.2.2.2.2.1 s.2.2.2.2.2.2.2.2.2.2.2
def m_Ih_44 (p0:Zh) (a:Int) (c:LI) (d:LB):Option (Zh):=
 (loopM (lp_Ih_49 p0 c) (0,p0.b.tracks,p0.b.packets,p0.speed,p0.next,p0.wall,a,p0.busy,p0.due,p0.gone,d,p0.shows)).bind fun e=>m_Ih_69 e.1 e.2.1 e.2.2.1 e.2.2.2.1 e.2.2.2.2.1 e.2.2.2.2.2.1 e.2.2.2.2.2.2.1 e.2.2.2.2.2.2.2.1 e.2.2.2.2.2.2.2.2.1 e.2.2.2.2.2.2.2.2.2.1 e.2.2.2.2.2.2.2.2.2.2
def m_Ih_9 (p0:Zh) (b a c:Int) (d:LI) (f:LB):Option ((Int×Int×Int×LI×LB)⊕((Int×LI×LB))):=
 if (decide (a < b)) then
  (rd d a).bind fun _=>
  (loopM (lp_Ih_26 a b p0 c f) (0,(d.set (0+Int.toNat a) (-1)))).bind fun e=>m_Ih_42 a b p0 c f e
 else
  some (.inr (c,d,f))
def lp_Ih_9 (p0:Zh) (s:Int×Int×Int×LI×LB):Option ((Int×Int×Int×LI×LB)⊕((Int×LI×LB))):=m_Ih_9 p0 s.1 s.2.1 s.2.2.1 s.2.2.2.1 s.2.2.2.2
def m_Ih_0 (p1:Int) (p0:Zh):Option (Zh):=
 (ck (decide ((0:Int)≤(p0.b.tracks.length:Int)∧(p0.b.tracks.length:Int)≤(17592186044416:Int)))).bind fun _=>
 (loopM (lp_Ih_9 p0) (((Int.toNat (p0.b.tracks.length:Int)):Int),0,(w64 (1000*p1)),(List.replicate (Int.toNat (p0.b.tracks.length:Int)) (0:Int)),p0.dropping)).bind fun e=>m_Ih_44 p0 e.1 e.2.1 e.2.2
def m_Ih (p0:Zh) (p1:Int):Option (Zh):=m_Ih_0 p1 p0
def m_Ii_49 (a:LZ) (b:LZa) (c d e f g:Int) (h:LI) (i j:LB) (k:LZc):Option ((LZ×LZa×Int×Int×Int×Int×Int×LI×LB×LB×LZc)⊕(Zh)):=
 some (.inl (a,b,c,(w64 (d+1)),e,f,g,h,i,j,k))
def m_Ii_47 (c:Int) (g:Zb) (h:LZ) (i:LZa) (j k a b l:Int) (m:LI) (n d:LB) (e:LZc):Option ((LZ×LZa×Int×Int×Int×Int×Int×LI×LB×LB×LZc)⊕(Zh)):=
 (rd d g.track).bind fun f=>
 (ck (decide (e.length+([(Zf.mk a (w64 (Int.tdiv b 1000)) c f)]:LZc).length≤4398046511104))).bind fun _=>
 m_Ii_49 h i j k a b l m n d (e++([(Zf.mk a (w64 (Int.tdiv b 1000)) c f)]:LZc))
def m_Ii_41 (d:Int) (a:Int×Zh) (e:Zb) (f:LB):Option ((LZ×LZa×Int×Int×Int×Int×Int×LI×LB×LB×LZc)⊕(Zh)):=
 (rd f e.track).bind fun g=>
 if g then
  m_Ii_47 d e a.2.b.tracks a.2.b.packets a.2.speed a.2.next a.2.wall a.2.clock a.2.busy a.2.due a.2.gone f a.2.shows
 else
  (m_Ig (Zh.mk a.2.b a.2.speed a.2.due a.2.gone a.2.next f a.2.wall a.2.clock a.2.busy a.2.shows) d).bind fun c=>
  m_Ii_47 d e c.2.b.tracks c.2.b.packets c.2.speed c.2.next c.2.wall c.2.clock c.1 c.2.due c.2.gone c.2.dropping c.2.shows
def m_Ii_38 (c:Int) (a:Int×Zh) (b:Zb) (d:Bool):Option ((LZ×LZa×Int×Int×Int×Int×Int×LI×LB×LB×LZc)⊕(Zh)):=
 if d then
  (rd a.2.dropping b.track).bind fun _=>
  m_Ii_41 c a b (a.2.dropping.set (0+Int.toNat b.track) true)
 else
  m_Ii_41 c a b a.2.dropping
def m_Ii_31 (a:Int) (d:LZ) (f:LZa) (g h i j:Int) (b:Zb) (k:LI) (l:LZc) (m n:LB):Option ((LZ×LZa×Int×Int×Int×Int×Int×LI×LB×LB×LZc)⊕(Zh)):=
 (rd d b.track).bind fun e=>
 (m_Ig (Zh.mk (Ze.mk d f) g k m a n h i j l) a).bind fun c=>
 if (decide (c.1 > (w64 (c.2.wall+100)))) then
  if b.key then
   m_Ii_38 a c b false
  else
   if (e.kind == 3) then
    m_Ii_38 a c b true
   else
    m_Ii_38 a c b (e.kind == 4)
 else
  m_Ii_38 a c b false
def m_Ii_2 (g:LZ) (c:LZa) (h a i d j:Int) (b:LI) (e f:LB) (k:LZc):Option ((LZ×LZa×Int×Int×Int×Int×Int×LI×LB×LB×LZc)⊕(Zh)):=
 if (decide (a < (b.length:Int))) then
  (rd e a).bind fun m=>
  if m then
   m_Ii_49 g c h a i d j b e f k
  else
   (rd b a).bind fun n=>
   if (decide (n > d)) then
    some (.inr (Zh.mk (Ze.mk g c) h b e a f i d j k))
   else
    (rd c a).bind fun l=>
    if l.key then
     (rd f l.track).bind fun _=>
     m_Ii_31 a g c h i d j l b k (e.set (0+Int.toNat a) true) (f.set (0+Int.toNat l.track) false)
    else
     m_Ii_31 a g c h i d j l b k (e.set (0+Int.toNat a) true) f
 else
  some (.inr (Zh.mk (Ze.mk g c) h b e a f i d j k))
def lp_Ii_2 (s:LZ×LZa×Int×Int×Int×Int×Int×LI×LB×LB×LZc):Option ((LZ×LZa×Int×Int×Int×Int×Int×LI×LB×LB×LZc)⊕(Zh)):=m_Ii_2 s.1 s.2.1 s.2.2.1 s.2.2.2.1 s.2.2.2.2.1 s.2.2.2.2.2.1 s.2.2.2.2.2.2.1 s.2.2.2.2.2.2.2.1 s.2.2.2.2.2.2.2.2.1 s.2.2.2.2.2.2.2.2.2.1 s.2.2.2.2.2.2.2.2.2.2
def m_Ii_0 (p0:Zh):Option (Zh):=
 (loopM (lp_Ii_2) (p0.b.tracks,p0.b.packets,p0.speed,p0.next,p0.wall,p0.clock,p0.busy,p0.due,p0.gone,p0.dropping,p0.shows)).bind fun e=>some e
def m_Ii (p0:Zh):Option (Zh):=m_Ii_0 p0
def m_Ib_120 (p2:LZb) (a b:Int) (c:Bool) (d:LZ) (e:LZa) (f g h i j:Int) (k:LI) (l m:LB) (n:LZc):Option ((Int×Bool×Int×LZ×LZa×Int×Int×Int×Int×Int×LI×LB×LB×LZc)⊕((LZ×LZa×Int×Int×Int×Int×Int×LI×LB×LB×LZc))):=
 some (.inl (b,c,(w64 (a+1)),d,e,f,g,h,i,j,k,l,m,n))
def m_Ib_105 (c:Int) (p:Bool) (p2:LZb) (r:Int) (q:Zc) (d:Int) (e:LZ) (f:LZa) (g h i j k:Int) (l:LI) (m n:LB) (o:LZc):Option ((Int×LZ×LZa×Int×Int×Int×Int×Int×LI×LB×LB×LZc)⊕((Int×Bool×LZ×LZa×Int×Int×Int×Int×Int×LI×LB×LB×LZc))):=
 if (decide (d < q.value)) then
  (m_Ii (Zh.mk (Ze.mk e f) g l m h n (w64 (i+1)) (w64 (j+(w64 (10*c)))) k o)).bind fun a=>
  some (.inl ((w64 (d+1)),a.b.tracks,a.b.packets,a.speed,a.next,a.wall,a.clock,a.busy,a.due,a.gone,a.dropping,a.shows))
 else
  some (.inr (c,p,e,f,g,h,i,j,k,l,m,n,o))
def lp_Ib_105 (a:Int) (b:Bool) (p2:LZb) (c:Int) (d:Zc) (s:Int×LZ×LZa×Int×Int×Int×Int×Int×LI×LB×LB×LZc):Option ((Int×LZ×LZa×Int×Int×Int×Int×Int×LI×LB×LB×LZc)⊕((Int×Bool×LZ×LZa×Int×Int×Int×Int×Int×LI×LB×LB×LZc))):=m_Ib_105 a b p2 c d s.1 s.2.1 s.2.2.1 s.2.2.2.1 s.2.2.2.2.1 s.2.2.2.2.2.1 s.2.2.2.2.2.2.1 s.2.2.2.2.2.2.2.1 s.2.2.2.2.2.2.2.2.1 s.2.2.2.2.2.2.2.2.2.1 s.2.2.2.2.2.2.2.2.2.2.1 s.2.2.2.2.2.2.2.2.2.2.2
def m_Ib_80 (r:Int) (f:Bool) (p2:LZb) (d:Int) (c:Zc) (g:LZ) (h:LZa) (i j k l m:Int) (n:LI) (o p:LB) (q:LZc) (s:Bool):Option ((Int×Bool×Int×LZ×LZa×Int×Int×Int×Int×Int×LI×LB×LB×LZc)⊕((LZ×LZa×Int×Int×Int×Int×Int×LI×LB×LB×LZc))):=
 if s then
  m_Ib_120 p2 d r (c.kind == 1) g h i j k l m n o p q
 else
  if (c.kind == 5) then
   m_Ib_120 p2 d c.value f g h i j k l m n o p q
  else
   if (c.kind == 3) then
    (m_Ih (Zh.mk (Ze.mk g h) i n o j p k l m q) c.value).bind fun a=>
    m_Ib_120 p2 d r f a.b.tracks a.b.packets a.speed a.next a.wall a.clock a.busy a.due a.gone a.dropping a.shows
   else
    if (c.kind == 4) then
     if f then
      (loopM (lp_Ib_105 r f p2 d c) (0,g,h,i,j,k,l,m,n,o,p,q)).bind fun e=>m_Ib_120 p2 d e.1 e.2.1 e.2.2.1 e.2.2.2.1 e.2.2.2.2.1 e.2.2.2.2.2.1 e.2.2.2.2.2.2.1 e.2.2.2.2.2.2.2.1 e.2.2.2.2.2.2.2.2.1 e.2.2.2.2.2.2.2.2.2.1 e.2.2.2.2.2.2.2.2.2.2.1 e.2.2.2.2.2.2.2.2.2.2.2.1 e.2.2.2.2.2.2.2.2.2.2.2.2
     else
      m_Ib_120 p2 d r f g h i j (w64 (k+c.value)) l m n o p q
    else
     m_Ib_120 p2 d r f g h i j k l m n o p q
def m_Ib_121 (d:LZ) (e:LZa) (f g a b h:Int) (i:LI) (j k:LB) (c:LZc):Option (Zg):=
 some (Zg.mk 0 c a (w64 (Int.tdiv b 1000)))
def m_Ib_61 (p2:LZb) (n:Int) (o:Bool) (b:Int) (c:LZ) (d:LZa) (e f g h i:Int) (j:LI) (k l:LB) (m:LZc):Option ((Int×Bool×Int×LZ×LZa×Int×Int×Int×Int×Int×LI×LB×LB×LZc)⊕((LZ×LZa×Int×Int×Int×Int×Int×LI×LB×LB×LZc))):=
 if (decide (b < (p2.length:Int))) then
  (rd p2 b).bind fun a=>
  if (a.kind == 1) then
   m_Ib_80 n o p2 b a c d e f g h i j k l m (a.kind == 1)
  else
   m_Ib_80 n o p2 b a c d e f g h i j k l m (a.kind == 2)
 else
  some (.inr (c,d,e,f,g,h,i,j,k,l,m))
def lp_Ib_61 (p2:LZb) (s:Int×Bool×Int×LZ×LZa×Int×Int×Int×Int×Int×LI×LB×LB×LZc):Option ((Int×Bool×Int×LZ×LZa×Int×Int×Int×Int×Int×LI×LB×LB×LZc)⊕((LZ×LZa×Int×Int×Int×Int×Int×LI×LB×LB×LZc))):=m_Ib_61 p2 s.1 s.2.1 s.2.2.1 s.2.2.2.1 s.2.2.2.2.1 s.2.2.2.2.2.1 s.2.2.2.2.2.2.1 s.2.2.2.2.2.2.2.1 s.2.2.2.2.2.2.2.2.1 s.2.2.2.2.2.2.2.2.2.1 s.2.2.2.2.2.2.2.2.2.2.1 s.2.2.2.2.2.2.2.2.2.2.2.1 s.2.2.2.2.2.2.2.2.2.2.2.2.1 s.2.2.2.2.2.2.2.2.2.2.2.2.2
def m_Ib_54 (p2:LZb) (p0:Ze) (p1:Int) (a:LI) (b c:LB):Option (Zg):=
 (loopM (lp_Ib_61 p2) (100,false,0,p0.tracks,p0.packets,p1,0,0,0,0,a,b,c,([]:LZc))).bind fun e=>m_Ib_121 e.1 e.2.1 e.2.2.1 e.2.2.2.1 e.2.2.2.2.1 e.2.2.2.2.2.1 e.2.2.2.2.2.2.1 e.2.2.2.2.2.2.2.1 e.2.2.2.2.2.2.2.2.1 e.2.2.2.2.2.2.2.2.2.1 e.2.2.2.2.2.2.2.2.2.2
def m_Ib_42 (p2:LZb) (p0:Ze) (p1 a:Int) (b:LI) (c d:LB):Option ((Int×LI×LB×LB)⊕((LI×LB×LB))):=
 if (decide (a < (p0.packets.length:Int))) then
  (m_Ie p0 a).bind fun e=>
  (ck (decide (b.length+([e]:LI).length≤17592186044416))).bind fun _=>
  some (.inl ((w64 (a+1)),(b++([e]:LI)),c,d))
 else
  some (.inr (b,c,d))
def lp_Ib_42 (p2:LZb) (p0:Ze) (p1:Int) (s:Int×LI×LB×LB):Option ((Int×LI×LB×LB)⊕((LI×LB×LB))):=m_Ib_42 p2 p0 p1 s.1 s.2.1 s.2.2.1 s.2.2.2
def m_Ib_33 (p1:Int) (p2:LZb) (p0:Ze):Option (Zg):=
 (ck (decide ((0:Int)≤(p0.packets.length:Int)∧(p0.packets.length:Int)≤(140737488355328:Int)))).bind fun _=>
 (ck (decide ((0:Int)≤(p0.tracks.length:Int)∧(p0.tracks.length:Int)≤(140737488355328:Int)))).bind fun _=>
 (loopM (lp_Ib_42 p2 p0 p1) (0,([]:LI),(List.replicate (Int.toNat (p0.packets.length:Int)) (false:Bool)),(List.replicate (Int.toNat (p0.tracks.length:Int)) (false:Bool)))).bind fun e=>m_Ib_54 p2 p0 p1 e.1 e.2.1 e.2.2
def m_Ib_15 (p1:Int) (p2:LZb) (p0:Ze) (a:Int):Option ((Int)⊕((Zg)⊕((Unit)))):=
 if (decide (a < (p2.length:Int))) then
  (rd p2 a).bind fun b=>
  (m_Ic b).bind fun c=>
  if c then
   some (.inl (w64 (a+1)))
  else
   some (.inr (.inl (Zg.mk 1 ([]:LZc) 0 0)))
 else
  some (.inr (.inr ()))
def lp_Ib_15 (p1:Int) (p2:LZb) (p0:Ze) (s:Int):Option ((Int)⊕((Zg)⊕((Unit)))):=m_Ib_15 p1 p2 p0 s
def m_Ib_5 (p1:Int) (p2:LZb) (p0:Ze) (a:Bool):Option (Zg):=
 if a then
  some (Zg.mk 1 ([]:LZc) 0 0)
 else
  (loopM (lp_Ib_15 p1 p2 p0) 0).bind fun e=>match e with | .inl e=>some e | .inr e=>m_Ib_33 p1 p2 p0
def m_Ib_0 (p0:Ze) (p1:Int) (p2:LZb):Option (Zg):=
 (m_Ia p0).bind fun a=>
 if a then
  if (decide (p1 < 1)) then
   m_Ib_5 p1 p2 p0 true
  else
   if (decide (p1 > 1000)) then
    m_Ib_5 p1 p2 p0 true
   else
    m_Ib_5 p1 p2 p0 (decide ((p2.length:Int) > 500))
 else
  m_Ib_5 p1 p2 p0 true
def m_Ib (p0:Ze) (p1:Int) (p2:LZb):Option (Zg):=m_Ib_0 p0 p1 p2
def m_Se_23:Option (Bool):=
 some true
def m_Se_7 (p0:ByteArray) (a:Int):Option ((Int)⊕((Bool)⊕((Unit)))):=
 if (decide (a < (p0.size:Int))) then
  (sat p0 a).bind fun b=>
  if (decide (b < 32)) then
   some (.inr (.inl false))
  else
   if (decide (b > 126)) then
    some (.inr (.inl false))
   else
    some (.inl (w64 (a+1)))
 else
  some (.inr (.inr ()))
def lp_Se_7 (p0:ByteArray) (s:Int):Option ((Int)⊕((Bool)⊕((Unit)))):=m_Se_7 p0 s
def m_Se_0 (p0:ByteArray):Option (Bool):=
 (loopM (lp_Se_7 p0) 0).bind fun e=>match e with | .inl e=>some e | .inr e=>m_Se_23
def m_Se (p0:ByteArray):Option (Bool):=m_Se_0 p0
def m_Sk_0 (p0:Za):Option (Bool):=
 if (decide (p0.kind≥1)) then
  if (decide (p0.kind≤6)) then
   if (decide (p0.scale≥1)) then
    if (decide (p0.scale≤1000000)) then
     if (decide ((p0.name.size:Int)≤40)) then
      (m_Se p0.name).bind fun a=>
      some a
     else
      some false
    else
     some false
   else
    some false
  else
   some false
 else
  some false
def m_Sk (p0:Za):Option (Bool):=m_Sk_0 p0
def m_Sl_25 (p0:LZ):Option (Bool):=
 if (decide ((p0.length:Int)≥1)) then
  some (decide ((p0.length:Int)≤8))
 else
  some false
def m_Sl_7 (p0:LZ) (a:Int):Option ((Int)⊕((Bool)⊕((Unit)))):=
 if (decide (a < (p0.length:Int))) then
  (rd p0 a).bind fun b=>
  (m_Sk b).bind fun c=>
  if c then
   some (.inl (w64 (a+1)))
  else
   some (.inr (.inl false))
 else
  some (.inr (.inr ()))
def lp_Sl_7 (p0:LZ) (s:Int):Option ((Int)⊕((Bool)⊕((Unit)))):=m_Sl_7 p0 s
def m_Sl_0 (p0:LZ):Option (Bool):=
 (loopM (lp_Sl_7 p0) 0).bind fun e=>match e with | .inl e=>some e | .inr e=>m_Sl_25 p0
def m_Sl (p0:LZ):Option (Bool):=m_Sl_0 p0
def m_Sj_0 (p0:Int):Option (Bool):=
 if (decide (p0≥0)) then
  some (decide (p0≤1000000000))
 else
  some false
def m_Sj (p0:Int):Option (Bool):=m_Sj_0 p0
def m_Si_62 (b:Int) (p0:Ze) (d:Int) (a:Zb) (c:LI):Option ((Int×Int×LI)⊕((Bool)⊕((Unit)))):=
 (rd c a.track).bind fun _=>
 if (decide ((w64 (b+(a.data.length:Int))) > 60000)) then
  some (.inr (.inl false))
 else
  some (.inl ((w64 (b+(a.data.length:Int))),(w64 (d+1)),(c.set (0+Int.toNat a.track) a.time)))
def m_Si_74:Option (Bool):=
 some true
def m_Si_36 (p0:Ze) (d b:Int) (c:LI):Option ((Int×Int×LI)⊕((Bool)⊕((Unit)))):=
 if (decide (b < (p0.packets.length:Int))) then
  (rd p0.packets b).bind fun a=>
  if (decide (a.track < 0)) then
   some (.inr (.inl false))
  else
   if (decide (a.track≥(p0.tracks.length:Int))) then
    some (.inr (.inl false))
   else
    (m_Sj a.time).bind fun f=>
    if f then
     (m_Sj a.span).bind fun g=>
     if g then
      (rd c a.track).bind fun e=>
      if (decide (a.time < e)) then
       some (.inr (.inl false))
      else
       if (decide (e < 0)) then
        if a.key then
         m_Si_62 d p0 b a c
        else
         some (.inr (.inl false))
       else
        m_Si_62 d p0 b a c
     else
      some (.inr (.inl false))
    else
     some (.inr (.inl false))
 else
  some (.inr (.inr ()))
def lp_Si_36 (p0:Ze) (s:Int×Int×LI):Option ((Int×Int×LI)⊕((Bool)⊕((Unit)))):=m_Si_36 p0 s.1 s.2.1 s.2.2
def m_Si_29 (p0:Ze) (a:LI):Option (Bool):=
 (loopM (lp_Si_36 p0) (0,0,a)).bind fun e=>match e with | .inl e=>some e | .inr e=>m_Si_74
def m_Si_17 (p0:Ze) (c a:Int) (b:LI):Option ((Int×Int×LI)⊕((LI))):=
 if (decide (a < c)) then
  (rd b a).bind fun _=>
  some (.inl (c,(w64 (a+1)),(b.set (0+Int.toNat a) (-1))))
 else
  some (.inr b)
def lp_Si_17 (p0:Ze) (s:Int×Int×LI):Option ((Int×Int×LI)⊕((LI))):=m_Si_17 p0 s.1 s.2.1 s.2.2
def m_Si_0 (p0:Ze):Option (Bool):=
 (m_Sl p0.tracks).bind fun a=>
 if a then
  if (decide ((p0.packets.length:Int) > 400)) then
   some false
  else
   (ck (decide ((0:Int)≤(p0.tracks.length:Int)∧(p0.tracks.length:Int)≤(17592186044416:Int)))).bind fun _=>
   (loopM (lp_Si_17 p0) (((Int.toNat (p0.tracks.length:Int)):Int),0,(List.replicate (Int.toNat (p0.tracks.length:Int)) (0:Int)))).bind fun e=>m_Si_29 p0 e
 else
  some false
def m_Si (p0:Ze):Option (Bool):=m_Si_0 p0
def m_Sc_31:Option (Bool):=
 some true
def m_Sc_15 (p0:Ze) (a:Int):Option ((Int)⊕((Bool)⊕((Unit)))):=
 if (decide (a < (p0.packets.length:Int))) then
  (m_Sh p0 (w64 (a - 1)) a).bind fun b=>
  if b then
   some (.inl (w64 (a+1)))
  else
   some (.inr (.inl false))
 else
  some (.inr (.inr ()))
def lp_Sc_15 (p0:Ze) (s:Int):Option ((Int)⊕((Bool)⊕((Unit)))):=m_Sc_15 p0 s
def m_Sc_0 (p0:Ze):Option (Bool):=
 (m_Si p0).bind fun a=>
 if a then
  (loopM (lp_Sc_15 p0) 1).bind fun e=>match e with | .inl e=>some e | .inr e=>m_Sc_31
 else
  some false
def m_Sc (p0:Ze):Option (Bool):=m_Sc_0 p0
def m_Sn_12 (p0:Zc) (a:Bool):Option (Bool):=
 if a then
  some (p0.value == 0)
 else
  if (p0.kind == 3) then
   if (decide (p0.value≥0)) then
    some (decide (p0.value≤359999999))
   else
    some false
  else
   if (p0.kind == 4) then
    if (decide (p0.value≥0)) then
     some (decide (p0.value≤100000))
    else
     some false
   else
    if (p0.kind == 5) then
     if (decide (p0.value≥25)) then
      some (decide (p0.value≤400))
     else
      some false
    else
     some false
def m_Sn_0 (p0:Zc):Option (Bool):=
 if (p0.kind == 1) then
  m_Sn_12 p0 (p0.kind == 1)
 else
  m_Sn_12 p0 (p0.kind == 2)
def m_Sn (p0:Zc):Option (Bool):=m_Sn_0 p0
def m_So_0 (p0:Ze) (p1:Int):Option (Int):=
 (rd p0.packets p1).bind fun a=>
 (rd p0.tracks a.track).bind fun b=>
 (ck (decide ((b.scale:Int)≠0))).bind fun _=>
 some (w64 (Int.tdiv (w64 (a.time*1000000)) b.scale))
def m_So (p0:Ze) (p1:Int):Option (Int):=m_So_0 p0 p1
def m_Sr_18 (a:Int) (p0:Zi) (b:Int) (c:Bool):Option ((Int×Int)⊕(Zi)):=
 if c then
  (rd p0.due a).bind fun d=>
  some (.inl ((w64 (a+1)),d))
 else
  some (.inl ((w64 (a+1)),b))
def m_Sr_6 (p0:Zi) (a c:Int):Option ((Int×Int)⊕(Zi)):=
 if (decide (a < (p0.due.length:Int))) then
  (rd p0.gone a).bind fun d=>
  if d then
   m_Sr_18 a p0 c false
  else
   if (decide (c < 0)) then
    m_Sr_18 a p0 c true
   else
    (rd p0.due a).bind fun e=>
    m_Sr_18 a p0 c (decide (e < c))
 else
  some (.inr (Zi.mk p0.b p0.due p0.speed p0.wall p0.clock p0.pace p0.playing p0.busy p0.gone p0.left c p0.drop p0.shows))
def lp_Sr_6 (p0:Zi) (s:Int×Int):Option ((Int×Int)⊕(Zi)):=m_Sr_6 p0 s.1 s.2
def m_Sr_0 (p0:Zi):Option (Zi):=
 (loopM (lp_Sr_6 p0) (0,(-1))).bind fun e=>some e
def m_Sr (p0:Zi):Option (Zi):=m_Sr_0 p0
def m_Sq_0 (p0:Zi):Option (Int×Zi):=
 if (decide (p0.busy > p0.wall)) then
  some (p0.busy,p0)
 else
  some (p0.wall,p0)
def m_Sq (p0:Zi):Option (Int×Zi):=m_Sq_0 p0
def m_Sp_0 (p1:Int) (p0:Zi):Option (Int×Zi):=
 (rd p0.b.packets p1).bind fun a=>
 (ck (decide ((p0.speed:Int)≠0))).bind fun _=>
 some ((w64 ((w64 (Int.tdiv (a.data.length:Int) p0.speed))+1)),p0)
def m_Sp (p0:Zi) (p1:Int):Option (Int×Zi):=m_Sp_0 p1 p0
def m_Ss_38 (a:Int) (p0:Zi) (e:Int) (c:Zb) (b:LI) (d:Bool):Option ((Int×LI)⊕((LI))):=
 if d then
  (rd b c.track).bind fun _=>
  some (.inl ((w64 (a+1)),(b.set (0+Int.toNat c.track) a)))
 else
  some (.inl ((w64 (a+1)),b))
def m_Ss_78 (c:Int) (p0:Zi) (d:LZ) (e:LZa) (f g h i:Int) (j:Bool) (k l m:Int) (t n:LI) (o p:LB) (q:LZc) (s:Bool):Option ((Int×LZ×LZa×Int×Int×Int×Int×Bool×Int×Int×Int×LI×LB×LB×LZc)⊕((LZ×LZa×Int×Int×Int×Int×Bool×Int×Int×Int×LI×LB×LB×LZc))):=
 if s then
  (m_Sq (Zi.mk (Ze.mk d e) n f g h i j k o l m p q)).bind fun r=>
  (m_Sp r.2 c).bind fun a=>
  some (.inl ((w64 (c+1)),a.2.b.tracks,a.2.b.packets,a.2.speed,a.2.wall,a.2.clock,a.2.pace,a.2.playing,(w64 (r.1+a.1)),a.2.left,a.2.soon,a.2.due,a.2.gone,a.2.drop,a.2.shows))
 else
  some (.inl ((w64 (c+1)),d,e,f,g,h,i,j,k,l,m,n,o,p,q))
def m_Ss_76 (a:Int) (p0:Zi) (e:LZ) (f:LZa) (g h b i:Int) (j:Bool) (k l m:Int) (q:Zb) (c d:LI) (n:LB) (o:LZc) (p:LB):Option ((Int×LZ×LZa×Int×Int×Int×Int×Bool×Int×Int×Int×LI×LB×LB×LZc)⊕((LZ×LZa×Int×Int×Int×Int×Bool×Int×Int×Int×LI×LB×LB×LZc))):=
 (rd c q.track).bind fun r=>
 if (decide (a≥r)) then
  (rd d a).bind fun s=>
  m_Ss_78 a p0 e f g h b i j k l m c d p n o (decide (s < b))
 else
  m_Ss_78 a p0 e f g h b i j k l m c d p n o false
def m_Ss_82 (a:LZ) (b:LZa) (c d e f:Int) (g:Bool) (h i j:Int) (k:LI) (l m:LB) (n:LZc):Option (Zi):=
 (m_Sr (Zi.mk (Ze.mk a b) k c d e f g h l i j m n)).bind fun o=>
 some o
def m_Ss_64 (p0:Zi) (f:LI) (a:Int) (g:LZ) (h:LZa) (i j d k:Int) (l:Bool) (m n o:Int) (e:LI) (c p:LB) (q:LZc):Option ((Int×LZ×LZa×Int×Int×Int×Int×Bool×Int×Int×Int×LI×LB×LB×LZc)⊕((LZ×LZa×Int×Int×Int×Int×Bool×Int×Int×Int×LI×LB×LB×LZc))):=
 if (decide (a < (p0.b.packets.length:Int))) then
  (rd p0.b.packets a).bind fun r=>
  (rd f r.track).bind fun s=>
  if (decide (a < s)) then
   (rd c a).bind fun _=>
   m_Ss_76 a p0 g h i j d k l m n o r f e p q (c.set (0+Int.toNat a) true)
  else
   (rd e a).bind fun t=>
   (rd c a).bind fun _=>
   m_Ss_76 a p0 g h i j d k l m n o r f e p q (c.set (0+Int.toNat a) (decide (t < d)))
 else
  some (.inr (g,h,i,j,d,k,l,m,n,o,e,c,p,q))
def lp_Ss_64 (p0:Zi) (a:LI) (s:Int×LZ×LZa×Int×Int×Int×Int×Bool×Int×Int×Int×LI×LB×LB×LZc):Option ((Int×LZ×LZa×Int×Int×Int×Int×Bool×Int×Int×Int×LI×LB×LB×LZc)⊕((LZ×LZa×Int×Int×Int×Int×Bool×Int×Int×Int×LI×LB×LB×LZc))):=m_Ss_64 p0 a s.1 s.2.1 s.2.2.1 s.2.2.2.1 s.2.2.2.2.1 s.2.2.2.2.2.1 s.2.2.2.2.2.2.1 s.2.2.2.2.2.2.2.1 s.2.2.2.2.2.2.2.2.1 s.2.2.2.2.2.2.2.2.2.1 s.2.2.2.2.2.2.2.2.2.2.1 s.2.2.2.2.2.2.2.2.2.2.2.1 s.2.2.2.2.2.2.2.2.2.2.2.2.1 s.2.2.2.2.2.2.2.2.2.2.2.2.2.1 s.2.2.2.2.2.2.2.2.2.2.2.2.2.2
def m_Ss_59 (p0:Zi) (a:Int) (c:LI) (d:LB):Option (Zi):=
 (loopM (lp_Ss_64 p0 c) (0,p0.b.tracks,p0.b.packets,p0.speed,p0.wall,a,p0.pace,p0.playing,p0.busy,p0.left,p0.soon,p0.due,p0.gone,d,p0.shows)).bind fun e=>m_Ss_82 e.1 e.2.1 e.2.2.1 e.2.2.2.1 e.2.2.2.2.1 e.2.2.2.2.2.1 e.2.2.2.2.2.2.1 e.2.2.2.2.2.2.2.1 e.2.2.2.2.2.2.2.2.1 e.2.2.2.2.2.2.2.2.2.1 e.2.2.2.2.2.2.2.2.2.2.1 e.2.2.2.2.2.2.2.2.2.2.2.1 e.2.2.2.2.2.2.2.2.2.2.2.2.1 e.2.2.2.2.2.2.2.2.2.2.2.2.2
def m_Ss_47 (p0:Zi) (c:Int) (d:LI) (a:Int) (b:LB):Option ((Int×LB)⊕((LB))):=
 if (decide (a < (p0.drop.length:Int))) then
  (rd b a).bind fun _=>
  some (.inl ((w64 (a+1)),(b.set (0+Int.toNat a) false)))
 else
  some (.inr b)
def lp_Ss_47 (p0:Zi) (a:Int) (b:LI) (s:Int×LB):Option ((Int×LB)⊕((LB))):=m_Ss_47 p0 a b s.1 s.2
def m_Ss_42 (p0:Zi) (a:Int) (b:LI):Option (Zi):=
 (loopM (lp_Ss_47 p0 a b) (0,p0.drop)).bind fun e=>m_Ss_59 p0 a b e
def m_Ss_26 (p0:Zi) (a c:Int) (e:LI):Option ((Int×LI)⊕((LI))):=
 if (decide (c < (p0.b.packets.length:Int))) then
  (rd p0.b.packets c).bind fun d=>
  (rd p0.due c).bind fun f=>
  if (decide (f > a)) then
   (rd e d.track).bind fun g=>
   if (g == (p0.due.length:Int)) then
    m_Ss_38 c p0 a d e true
   else
    if (decide (f≤a)) then
     m_Ss_38 c p0 a d e d.key
    else
     m_Ss_38 c p0 a d e false
  else
   if (decide (f≤a)) then
    m_Ss_38 c p0 a d e d.key
   else
    m_Ss_38 c p0 a d e false
 else
  some (.inr e)
def lp_Ss_26 (p0:Zi) (a:Int) (s:Int×LI):Option ((Int×LI)⊕((LI))):=m_Ss_26 p0 a s.1 s.2
def m_Ss_21 (p0:Zi) (a:Int) (b:LI):Option (Zi):=
 (loopM (lp_Ss_26 p0 a) (0,b)).bind fun e=>m_Ss_42 p0 a e
def m_Ss_9 (p0:Zi) (c a d:Int) (b:LI):Option ((Int×Int×Int×LI)⊕((Int×LI))):=
 if (decide (a < c)) then
  (rd b a).bind fun _=>
  some (.inl (c,(w64 (a+1)),d,(b.set (0+Int.toNat a) (p0.due.length:Int))))
 else
  some (.inr (d,b))
def lp_Ss_9 (p0:Zi) (s:Int×Int×Int×LI):Option ((Int×Int×Int×LI)⊕((Int×LI))):=m_Ss_9 p0 s.1 s.2.1 s.2.2.1 s.2.2.2
def m_Ss_0 (p1:Int) (p0:Zi):Option (Zi):=
 (ck (decide ((0:Int)≤(p0.b.tracks.length:Int)∧(p0.b.tracks.length:Int)≤(17592186044416:Int)))).bind fun _=>
 (loopM (lp_Ss_9 p0) (((Int.toNat (p0.b.tracks.length:Int)):Int),0,(w64 (p1*1000)),(List.replicate (Int.toNat (p0.b.tracks.length:Int)) (0:Int)))).bind fun e=>m_Ss_21 p0 e.1 e.2
def m_Ss (p0:Zi) (p1:Int):Option (Zi):=m_Ss_0 p1 p0
def m_St_24 (p1:Int) (a:Int×Zi) (e:Zb) (c:LB) (f:Int):Option (Zi):=
 (rd c e.track).bind fun d=>
 (ck (decide (a.2.shows.length+([(Zf.mk a.2.wall (w64 (Int.tdiv a.2.clock 1000)) p1 d)]:LZc).length≤4398046511104))).bind fun _=>
 some (Zi.mk a.2.b a.2.due a.2.speed a.2.wall a.2.clock a.2.pace a.2.playing f a.2.gone a.2.left a.2.soon c (a.2.shows++([(Zf.mk a.2.wall (w64 (Int.tdiv a.2.clock 1000)) p1 d)]:LZc)))
def m_St_18 (p1 d:Int) (a:Int×Zi) (b:Zb) (c:LB):Option (Zi):=
 (rd c b.track).bind fun e=>
 if e then
  m_St_24 p1 a b c a.2.busy
 else
  m_St_24 p1 a b c d
def m_St_15 (p1:Int) (a:Int×Zi) (b:Zb) (c:Int) (d:Bool):Option (Zi):=
 if d then
  (rd a.2.drop b.track).bind fun _=>
  m_St_18 p1 c a b (a.2.drop.set (0+Int.toNat b.track) true)
 else
  m_St_18 p1 c a b a.2.drop
def m_St_10 (p1:Int) (e:Za) (p0:Zi) (d:Zb) (f:LB):Option (Zi):=
 (m_Sq (Zi.mk p0.b p0.due p0.speed p0.wall p0.clock p0.pace p0.playing p0.busy p0.gone p0.left p0.soon f p0.shows)).bind fun c=>
 (m_Sp c.2 p1).bind fun a=>
 if (e.kind == 3) then
  if d.key then
   m_St_15 p1 a d (w64 (c.1+a.1)) false
  else
   m_St_15 p1 a d (w64 (c.1+a.1)) (decide ((w64 (c.1+a.1)) > (w64 (a.2.wall+100))))
 else
  if (e.kind == 4) then
   if d.key then
    m_St_15 p1 a d (w64 (c.1+a.1)) false
   else
    m_St_15 p1 a d (w64 (c.1+a.1)) (decide ((w64 (c.1+a.1)) > (w64 (a.2.wall+100))))
  else
   m_St_15 p1 a d (w64 (c.1+a.1)) false
def m_St_0 (p1:Int) (p0:Zi):Option (Zi):=
 (rd p0.b.packets p1).bind fun a=>
 (rd p0.b.tracks a.track).bind fun c=>
 if a.key then
  (rd p0.drop a.track).bind fun _=>
  m_St_10 p1 c p0 a (p0.drop.set (0+Int.toNat a.track) false)
 else
  m_St_10 p1 c p0 a p0.drop
def m_St (p0:Zi) (p1:Int):Option (Zi):=m_St_0 p1 p0
def m_Su_33 (c:Int) (p0:Zi) (e:LZ) (f:LZa) (g h i j:Int) (k:Bool) (l m n:Int) (o:LI) (d p:LB) (q:LZc) (r:Bool):Option ((Int×LZ×LZa×Int×Int×Int×Int×Bool×Int×Int×Int×LI×LB×LB×LZc)⊕((LZ×LZa×Int×Int×Int×Int×Bool×Int×Int×Int×LI×LB×LB×LZc))):=
 if r then
  (rd d c).bind fun _=>
  (m_St (Zi.mk (Ze.mk e f) o g h i j k l (d.set (0+Int.toNat c) true) m n p q) c).bind fun a=>
  some (.inl ((w64 (c+1)),a.b.tracks,a.b.packets,a.speed,a.wall,a.clock,a.pace,a.playing,a.busy,a.left,a.soon,a.due,a.gone,a.drop,a.shows))
 else
  some (.inl ((w64 (c+1)),e,f,g,h,i,j,k,l,m,n,o,d,p,q))
def m_Su_39 (a:LZ) (b:LZa) (c d e f:Int) (g:Bool) (h i j:Int) (k:LI) (l m:LB) (n:LZc):Option (Zi):=
 (m_Sr (Zi.mk (Ze.mk a b) k c d e f g h l i j m n)).bind fun o=>
 some o
def m_Su_21 (p0:Zi) (a:Int) (e:LZ) (f:LZa) (g h b i:Int) (j:Bool) (k l m:Int) (c:LI) (d n:LB) (o:LZc):Option ((Int×LZ×LZa×Int×Int×Int×Int×Bool×Int×Int×Int×LI×LB×LB×LZc)⊕((LZ×LZa×Int×Int×Int×Int×Bool×Int×Int×Int×LI×LB×LB×LZc))):=
 if (decide (a < (p0.due.length:Int))) then
  (rd d a).bind fun p=>
  if p then
   m_Su_33 a p0 e f g h b i j k l m c d n o false
  else
   (rd c a).bind fun q=>
   m_Su_33 a p0 e f g h b i j k l m c d n o (decide (q≤b))
 else
  some (.inr (e,f,g,h,b,i,j,k,l,m,c,d,n,o))
def lp_Su_21 (p0:Zi) (s:Int×LZ×LZa×Int×Int×Int×Int×Bool×Int×Int×Int×LI×LB×LB×LZc):Option ((Int×LZ×LZa×Int×Int×Int×Int×Bool×Int×Int×Int×LI×LB×LB×LZc)⊕((LZ×LZa×Int×Int×Int×Int×Bool×Int×Int×Int×LI×LB×LB×LZc))):=m_Su_21 p0 s.1 s.2.1 s.2.2.1 s.2.2.2.1 s.2.2.2.2.1 s.2.2.2.2.2.1 s.2.2.2.2.2.2.1 s.2.2.2.2.2.2.2.1 s.2.2.2.2.2.2.2.2.1 s.2.2.2.2.2.2.2.2.2.1 s.2.2.2.2.2.2.2.2.2.2.1 s.2.2.2.2.2.2.2.2.2.2.2.1 s.2.2.2.2.2.2.2.2.2.2.2.2.1 s.2.2.2.2.2.2.2.2.2.2.2.2.2.1 s.2.2.2.2.2.2.2.2.2.2.2.2.2.2
def m_Su_0 (p0:Zi):Option (Zi):=
 if p0.playing then
  if (decide (p0.soon < 0)) then
   some (Zi.mk p0.b p0.due p0.speed (w64 (p0.wall+1)) (w64 (p0.clock+(w64 (10*p0.pace)))) p0.pace p0.playing p0.busy p0.gone p0.left p0.soon p0.drop p0.shows)
  else
   if (decide (p0.soon > (w64 (p0.clock+(w64 (10*p0.pace)))))) then
    some (Zi.mk p0.b p0.due p0.speed (w64 (p0.wall+1)) (w64 (p0.clock+(w64 (10*p0.pace)))) p0.pace p0.playing p0.busy p0.gone p0.left p0.soon p0.drop p0.shows)
   else
    (loopM (lp_Su_21 p0) (0,p0.b.tracks,p0.b.packets,p0.speed,(w64 (p0.wall+1)),(w64 (p0.clock+(w64 (10*p0.pace)))),p0.pace,p0.playing,p0.busy,p0.left,p0.soon,p0.due,p0.gone,p0.drop,p0.shows)).bind fun e=>m_Su_39 e.1 e.2.1 e.2.2.1 e.2.2.2.1 e.2.2.2.2.1 e.2.2.2.2.2.1 e.2.2.2.2.2.2.1 e.2.2.2.2.2.2.2.1 e.2.2.2.2.2.2.2.2.1 e.2.2.2.2.2.2.2.2.2.1 e.2.2.2.2.2.2.2.2.2.2.1 e.2.2.2.2.2.2.2.2.2.2.2.1 e.2.2.2.2.2.2.2.2.2.2.2.2.1 e.2.2.2.2.2.2.2.2.2.2.2.2.2
 else
  some (Zi.mk p0.b p0.due p0.speed (w64 (p0.wall+1)) p0.clock p0.pace p0.playing p0.busy p0.gone p0.left p0.soon p0.drop p0.shows)
def m_Su (p0:Zi):Option (Zi):=m_Su_0 p0
def m_Sd_102 (p2:LZb) (a:Int) (b:LZ) (c:LZa) (d e f g:Int) (h:Bool) (i j k:Int) (l:LI) (m n:LB) (o:LZc):Option ((Int×LZ×LZa×Int×Int×Int×Int×Bool×Int×Int×Int×LI×LB×LB×LZc)⊕((LZ×LZa×Int×Int×Int×Int×Bool×Int×Int×Int×LI×LB×LB×LZc))):=
 some (.inl ((w64 (a+1)),b,c,d,e,f,g,h,i,j,k,l,m,n,o))
def m_Sd_92 (p2:LZb) (s:Int) (r:Zc) (c:Int) (d:LZ) (e:LZa) (f g h i:Int) (j:Bool) (k l m:Int) (n:LI) (o p:LB) (q:LZc):Option ((Int×LZ×LZa×Int×Int×Int×Int×Bool×Int×Int×Int×LI×LB×LB×LZc)⊕((LZ×LZa×Int×Int×Int×Int×Bool×Int×Int×Int×LI×LB×LB×LZc))):=
 if (decide (c < r.value)) then
  (m_Su (Zi.mk (Ze.mk d e) n f g h i j k o l m p q)).bind fun a=>
  some (.inl ((w64 (c+1)),a.b.tracks,a.b.packets,a.speed,a.wall,a.clock,a.pace,a.playing,a.busy,a.left,a.soon,a.due,a.gone,a.drop,a.shows))
 else
  some (.inr (d,e,f,g,h,i,j,k,l,m,n,o,p,q))
def lp_Sd_92 (p2:LZb) (a:Int) (b:Zc) (s:Int×LZ×LZa×Int×Int×Int×Int×Bool×Int×Int×Int×LI×LB×LB×LZc):Option ((Int×LZ×LZa×Int×Int×Int×Int×Bool×Int×Int×Int×LI×LB×LB×LZc)⊕((LZ×LZa×Int×Int×Int×Int×Bool×Int×Int×Int×LI×LB×LB×LZc))):=m_Sd_92 p2 a b s.1 s.2.1 s.2.2.1 s.2.2.2.1 s.2.2.2.2.1 s.2.2.2.2.2.1 s.2.2.2.2.2.2.1 s.2.2.2.2.2.2.2.1 s.2.2.2.2.2.2.2.2.1 s.2.2.2.2.2.2.2.2.2.1 s.2.2.2.2.2.2.2.2.2.2.1 s.2.2.2.2.2.2.2.2.2.2.2.1 s.2.2.2.2.2.2.2.2.2.2.2.2.1 s.2.2.2.2.2.2.2.2.2.2.2.2.2.1 s.2.2.2.2.2.2.2.2.2.2.2.2.2.2
def m_Sd_103 (d:LZ) (e:LZa) (f a b g:Int) (h:Bool) (i j k:Int) (l:LI) (m n:LB) (c:LZc):Option (Zg):=
 some (Zg.mk 0 c a (w64 (Int.tdiv b 1000)))
def m_Sd_59 (p2:LZb) (c:Int) (f:LZ) (g:LZa) (h i j r:Int) (s:Bool) (k l m:Int) (n:LI) (o p:LB) (q:LZc):Option ((Int×LZ×LZa×Int×Int×Int×Int×Bool×Int×Int×Int×LI×LB×LB×LZc)⊕((LZ×LZa×Int×Int×Int×Int×Bool×Int×Int×Int×LI×LB×LB×LZc))):=
 if (decide (c < (p2.length:Int))) then
  (rd p2 c).bind fun d=>
  if (d.kind == 1) then
   m_Sd_102 p2 c f g h i j r true k l m n o p q
  else
   if (d.kind == 2) then
    m_Sd_102 p2 c f g h i j r false k l m n o p q
   else
    if (d.kind == 5) then
     m_Sd_102 p2 c f g h i j d.value s k l m n o p q
    else
     if (d.kind == 3) then
      (m_Ss (Zi.mk (Ze.mk f g) n h i j r s k o l m p q) d.value).bind fun a=>
      m_Sd_102 p2 c a.b.tracks a.b.packets a.speed a.wall a.clock a.pace a.playing a.busy a.left a.soon a.due a.gone a.drop a.shows
     else
      (loopM (lp_Sd_92 p2 c d) (0,f,g,h,i,j,r,s,k,l,m,n,o,p,q)).bind fun e=>m_Sd_102 p2 c e.1 e.2.1 e.2.2.1 e.2.2.2.1 e.2.2.2.2.1 e.2.2.2.2.2.1 e.2.2.2.2.2.2.1 e.2.2.2.2.2.2.2.1 e.2.2.2.2.2.2.2.2.1 e.2.2.2.2.2.2.2.2.2.1 e.2.2.2.2.2.2.2.2.2.2.1 e.2.2.2.2.2.2.2.2.2.2.2.1 e.2.2.2.2.2.2.2.2.2.2.2.2.1 e.2.2.2.2.2.2.2.2.2.2.2.2.2
 else
  some (.inr (f,g,h,i,j,r,s,k,l,m,n,o,p,q))
def lp_Sd_59 (p2:LZb) (s:Int×LZ×LZa×Int×Int×Int×Int×Bool×Int×Int×Int×LI×LB×LB×LZc):Option ((Int×LZ×LZa×Int×Int×Int×Int×Bool×Int×Int×Int×LI×LB×LB×LZc)⊕((LZ×LZa×Int×Int×Int×Int×Bool×Int×Int×Int×LI×LB×LB×LZc))):=m_Sd_59 p2 s.1 s.2.1 s.2.2.1 s.2.2.2.1 s.2.2.2.2.1 s.2.2.2.2.2.1 s.2.2.2.2.2.2.1 s.2.2.2.2.2.2.2.1 s.2.2.2.2.2.2.2.2.1 s.2.2.2.2.2.2.2.2.2.1 s.2.2.2.2.2.2.2.2.2.2.1 s.2.2.2.2.2.2.2.2.2.2.2.1 s.2.2.2.2.2.2.2.2.2.2.2.2.1 s.2.2.2.2.2.2.2.2.2.2.2.2.2.1 s.2.2.2.2.2.2.2.2.2.2.2.2.2.2
def m_Sd_52 (p2:LZb) (p0:Ze) (p1:Int) (c:LI) (d f:LB):Option (Zg):=
 (m_Sr (Zi.mk p0 c p1 0 0 100 false 0 d 0 0 f [])).bind fun a=>
 (loopM (lp_Sd_59 p2) (0,a.b.tracks,a.b.packets,a.speed,a.wall,a.clock,a.pace,a.playing,a.busy,a.left,a.soon,a.due,a.gone,a.drop,a.shows)).bind fun e=>m_Sd_103 e.1 e.2.1 e.2.2.1 e.2.2.2.1 e.2.2.2.2.1 e.2.2.2.2.2.1 e.2.2.2.2.2.2.1 e.2.2.2.2.2.2.2.1 e.2.2.2.2.2.2.2.2.1 e.2.2.2.2.2.2.2.2.2.1 e.2.2.2.2.2.2.2.2.2.2.1 e.2.2.2.2.2.2.2.2.2.2.2.1 e.2.2.2.2.2.2.2.2.2.2.2.2.1 e.2.2.2.2.2.2.2.2.2.2.2.2.2
def m_Sd_40 (p2:LZb) (p0:Ze) (p1 a:Int) (b:LI) (c d:LB):Option ((Int×LI×LB×LB)⊕((LI×LB×LB))):=
 if (decide (a < (p0.packets.length:Int))) then
  (m_So p0 a).bind fun e=>
  (ck (decide (b.length+([e]:LI).length≤17592186044416))).bind fun _=>
  some (.inl ((w64 (a+1)),(b++([e]:LI)),c,d))
 else
  some (.inr (b,c,d))
def lp_Sd_40 (p2:LZb) (p0:Ze) (p1:Int) (s:Int×LI×LB×LB):Option ((Int×LI×LB×LB)⊕((LI×LB×LB))):=m_Sd_40 p2 p0 p1 s.1 s.2.1 s.2.2.1 s.2.2.2
def m_Sd_33 (p1:Int) (p2:LZb) (p0:Ze):Option (Zg):=
 (ck (decide ((0:Int)≤(p0.packets.length:Int)∧(p0.packets.length:Int)≤(140737488355328:Int)))).bind fun _=>
 (ck (decide ((0:Int)≤(p0.tracks.length:Int)∧(p0.tracks.length:Int)≤(140737488355328:Int)))).bind fun _=>
 (loopM (lp_Sd_40 p2 p0 p1) (0,([]:LI),(List.replicate (Int.toNat (p0.packets.length:Int)) (false:Bool)),(List.replicate (Int.toNat (p0.tracks.length:Int)) (false:Bool)))).bind fun e=>m_Sd_52 p2 p0 p1 e.1 e.2.1 e.2.2
def m_Sd_15 (p1:Int) (p2:LZb) (p0:Ze) (a:Int):Option ((Int)⊕((Zg)⊕((Unit)))):=
 if (decide (a < (p2.length:Int))) then
  (rd p2 a).bind fun b=>
  (m_Sn b).bind fun c=>
  if c then
   some (.inl (w64 (a+1)))
  else
   some (.inr (.inl (Zg.mk 1 ([]:LZc) 0 0)))
 else
  some (.inr (.inr ()))
def lp_Sd_15 (p1:Int) (p2:LZb) (p0:Ze) (s:Int):Option ((Int)⊕((Zg)⊕((Unit)))):=m_Sd_15 p1 p2 p0 s
def m_Sd_5 (p1:Int) (p2:LZb) (p0:Ze) (a:Bool):Option (Zg):=
 if a then
  some (Zg.mk 1 ([]:LZc) 0 0)
 else
  (loopM (lp_Sd_15 p1 p2 p0) 0).bind fun e=>match e with | .inl e=>some e | .inr e=>m_Sd_33 p1 p2 p0
def m_Sd_0 (p0:Ze) (p1:Int) (p2:LZb):Option (Zg):=
 (m_Sc p0).bind fun a=>
 if a then
  if (decide (p1 < 1)) then
   m_Sd_5 p1 p2 p0 true
  else
   if (decide (p1 > 1000)) then
    m_Sd_5 p1 p2 p0 true
   else
    m_Sd_5 p1 p2 p0 (decide ((p2.length:Int) > 500))
 else
  m_Sd_5 p1 p2 p0 true
def m_Sd (p0:Ze) (p1:Int) (p2:LZb):Option (Zg):=m_Sd_0 p0 p1 p2
def m_Sb_0 (p0:Ze) (p1:Int):Option (Int):=
 (m_Sc p0).bind fun a=>
 if a then
  if (decide (p1 < 0)) then
   some (-1)
  else
   if (decide (p1≥(p0.packets.length:Int))) then
    some (-1)
   else
    (m_So p0 p1).bind fun b=>
    some b
 else
  some (-1)
def m_Sb (p0:Ze) (p1:Int):Option (Int):=m_Sb_0 p0 p1
def m_laws_FnPlayer_92 (a:Int) (b:Zg):Option (Bool):=
 some (b.wall == a)
def m_laws_FnPlayer_62 (k:Int) (e h:Zg) (c:Ze×Int×LZb) (i b:Int):Option ((Int×Int)⊕((Bool)⊕((Unit)))):=
 if (decide (b < (e.shows.length:Int))) then
  (rd e.shows b).bind fun a=>
  (rd h.shows b).bind fun d=>
  if ((a.wall == d.wall)&&((a.clock == d.clock)&&((a.packet == d.packet)&&((a.dropped == d.dropped)&&true)))) then
   if (decide (a.wall < i)) then
    some (.inr (.inl false))
   else
    if (decide (a.packet < 0)) then
     some (.inr (.inl false))
    else
     if (decide (a.packet≥(c.1.packets.length:Int))) then
      some (.inr (.inl false))
     else
      (m_Sb c.1 a.packet).bind fun j=>
      if (decide ((w64 (Int.tdiv j 1000)) > a.clock)) then
       some (.inr (.inl false))
      else
       (rd c.1.packets a.packet).bind fun f=>
       (rd c.1.tracks f.track).bind fun g=>
       if a.dropped then
        if f.key then
         some (.inr (.inl false))
        else
         if (g.kind != 3) then
          if (g.kind != 4) then
           some (.inr (.inl false))
          else
           some (.inl (a.wall,(w64 (b+1))))
         else
          some (.inl (a.wall,(w64 (b+1))))
       else
        some (.inl (a.wall,(w64 (b+1))))
  else
   some (.inr (.inl false))
 else
  some (.inr (.inr ()))
def lp_laws_FnPlayer_62 (a:Int) (b c:Zg) (d:Ze×Int×LZb) (s:Int×Int):Option ((Int×Int)⊕((Bool)⊕((Unit)))):=m_laws_FnPlayer_62 a b c d s.1 s.2
def m_laws_FnPlayer_55 (a c:Zg) (d:Ze×Int×LZb) (b:Int):Option (Bool):=
 (loopM (lp_laws_FnPlayer_62 b a c d) (0,0)).bind fun e=>match e with | .inl e=>some e | .inr e=>m_laws_FnPlayer_92 b a
def m_laws_FnPlayer_39 (c:Ze×Int×LZb) (e f:Zg) (b a:Int):Option ((Int×Int)⊕((Int))):=
 if (decide (a < (c.2.2.length:Int))) then
  (rd c.2.2 a).bind fun d=>
  if (d.kind == 4) then
   some (.inl ((w64 (b+d.value)),(w64 (a+1))))
  else
   some (.inl (b,(w64 (a+1))))
 else
  some (.inr b)
def lp_laws_FnPlayer_39 (a:Ze×Int×LZb) (b c:Zg) (s:Int×Int):Option ((Int×Int)⊕((Int))):=m_laws_FnPlayer_39 a b c s.1 s.2
def m_laws_FnPlayer_0 (p0:LI):Option (Bool):=
 if (decide ((p0.length:Int) > 1048576)) then
  some true
 else
  (m_Sa p0).bind fun a=>
  (m_Ib a.1 a.2.1 a.2.2).bind fun b=>
  (m_Sd a.1 a.2.1 a.2.2).bind fun c=>
  if (b.err != c.err) then
   some false
  else
   if (b.wall != c.wall) then
    some false
   else
    if (b.clock != c.clock) then
     some false
    else
     if ((b.shows.length:Int) != (c.shows.length:Int)) then
      some false
     else
      if (b.err != 0) then
       some true
      else
       (loopM (lp_laws_FnPlayer_39 a b c) (0,0)).bind fun e=>m_laws_FnPlayer_55 b c a e
def m_laws_FnPlayer (p0:LI):Option (Bool):=m_laws_FnPlayer_0 p0
end
end Go.Proofs.V

set_option linter.unusedSimpArgs false
set_option linter.unusedSectionVars false
namespace Go.Proofs.V
open Go
theorem loop_all {b:Int→Option (Int⊕(Bool⊕Unit))} (n:Nat) (q:Nat→Bool) (i0:Nat) (step:∀ i:Nat,i0≤i→i < n→b (i:Int)=some (if q i then .inl (((i+1:Nat)):Int) else .inr (.inl false)))
  (done:∀ i:Nat,n≤i→i≤n+i0→b (i:Int)=some (.inr (.inr ()))):loopM b (i0:Int)=some (if (List.range' i0 (n - i0)).all q then .inr () else .inl false):=by
 have key:∀ (d i:Nat),n - i=d→i0≤i→i≤n+i0→loopM b (i:Int)=some (if (List.range' i (n - i)).all q then .inr () else .inl false):=by
  intro d
  induction d with
  | zero=>
   intro i hd h0 h1
   rw [loopM_eq,done i (by omega) h1,hd]
   rfl
  | succ d ih=>
   intro i hd h0 h1
   rw [loopM_eq,step i h0 (by omega),show n - i=(n - (i+1))+1 by omega,List.range'_succ,List.all_cons]
   cases hq:q i with
   | true=>
    simp only [if_true,Bool.true_and]
    exact ih (i+1) (by omega) (by omega) (by omega)
   | false=>simp
 exact key _ i0 rfl (Nat.le_refl _) (by omega)
def bytesOk (s:ByteArray):Bool:=s.data.toList.all fun b=>decide (32≤b.toNat)&&decide (b.toNat≤126)
def trackOk (t:Za):Bool:=decide (1≤t.kind∧t.kind≤6∧1≤t.scale∧t.scale≤1000000∧t.name.size≤40)&&bytesOk t.name
theorem sat_eq {s:ByteArray} {i:Nat} (h:i < s.data.toList.length):sat s (i:Int)=some ((s.data.toList[i].toNat:Nat):Int):=by
 unfold sat
 rw [if_pos (by omega),Int.toNat_natCast]
 have h' : i < s.size:=by simpa using h
 rw [getElem?_pos s i h']
 rfl
theorem size_toList (s:ByteArray):s.data.toList.length=s.size:=Array.length_toList
theorem bytes_loop {s:ByteArray} {b:Int→Option (Int⊕(Bool⊕Unit))} (hs:s.size < 4611686018427387904) (h:∀ i:Int,b i=if (decide (i < (s.size:Int))) then (sat s i).bind fun x=>if (decide (x < 32)) then some (.inr (.inl false)) else if (decide (x > 126)) then some (.inr (.inl false)) else some (.inl (w64 (i+1))) else some (.inr (.inr ()))) :
  loopM b 0=some (bif bytesOk s then .inr () else .inl false):=by
 have hl:=size_toList s
 refine all_list (l:=s.data.toList) (q:=fun b=>decide (32≤b.toNat)&&decide (b.toNat≤126)) (by omega) (fun i hi=>?_) ?_
 ·rw [h,if_pos (by rw [←hl];simpa using hi),sat_eq hi]
  simp only [Option.bind_some]
  rw [w64_succ (by omega)]
  generalize s.data.toList[i].toNat=x
  by_cases h1:x < 32
  ·rw [if_pos (by simp;omega),if_neg (by simp;omega)]
  ·rw [if_neg (by simp;omega)]
   by_cases h2:x > 126
   ·rw [if_pos (by simp;omega),if_neg (by simp;omega)]
   ·rw [if_neg (by simp;omega),if_pos (by simp;omega)]
 ·rw [h,if_neg (by rw [hl];simp)]
theorem spec_track (t:Za) (h:t.name.size < 4611686018427387904):m_Sk t=some (trackOk t):=by
 simp only [m_Sk,m_Sk_0,m_Se,m_Se_0]
 rw [bytes_loop (b:=lp_Se_7 t.name) h (fun i=>rfl)]
 unfold trackOk
 by_cases h1:1≤t.kind
 ·rw [if_pos (by simpa using h1)]
  by_cases h2:t.kind≤6
  ·rw [if_pos (by simpa using h2)]
   by_cases h3:1≤t.scale
   ·rw [if_pos (by simpa using h3)]
    by_cases h4:t.scale≤1000000
    ·rw [if_pos (by simpa using h4)]
     by_cases h5:t.name.size≤40
     ·rw [if_pos (by simp;omega)]
      cases bytesOk t.name <;> simp [h1,h2,h3,h4,h5,m_Se_23]
     ·rw [if_neg (by simp;omega)];simp [h5]
    ·rw [if_neg (by simpa using h4)];simp [h4]
   ·rw [if_neg (by simpa using h3)];simp [h3]
  ·rw [if_neg (by simpa using h2)];simp [h2]
 ·rw [if_neg (by simpa using h1)];simp [h1]
theorem impl_track (t:Za) (h:t.name.size < 4611686018427387904):m_Il t=some (trackOk t):=by
 simp only [m_Il,m_Il_0]
 rw [bytes_loop (b:=lp_Il_15 t) h (fun i=>rfl)]
 unfold trackOk
 by_cases h1:1≤t.kind
 ·rw [if_neg (by simp;omega)]
  by_cases h2:t.kind≤6
  ·rw [if_neg (by simp;omega)]
   by_cases h3:1≤t.scale
   ·rw [if_neg (by simp;omega)]
    by_cases h4:t.scale≤1000000
    ·rw [if_neg (by simp;omega)]
     by_cases h5:t.name.size≤40
     ·rw [if_neg (by simp;omega)]
      cases bytesOk t.name <;> simp [h1,h2,h3,h4,h5,m_Il_33]
     ·rw [if_pos (by simp;omega)];simp [h5]
    ·rw [if_pos (by simp;omega)];simp [h4]
   ·rw [if_pos (by simp;omega)];simp [h3]
  ·rw [if_pos (by simp;omega)];simp [h2]
 ·rw [if_pos (by simp;omega)];simp [h1]
def SmT (l:List Za):Prop:=l.length≤1048576∧∀ t ∈ l,t.name.size≤1048576
def SmB (b:Ze):Prop:=SmT b.tracks∧b.packets.length≤1048576∧∀ p ∈ b.packets,p.data.length≤1048576
def tracksOk (l:List Za):Bool:=l.all trackOk&&decide (1≤l.length∧l.length≤8)
theorem spec_tracks (l:List Za) (h:SmT l):m_Sl l=some (tracksOk l):=by
 simp only [m_Sl,m_Sl_0]
 have:=all_list (l:=l) (q:=trackOk) (b:=lp_Sl_7 l) (by have:=h.1;omega) (fun i hi=>by
  have hx:=h.2 l[i] (by simp)
  have h1:=h.1
  simp only [lp_Sl_7,m_Sl_7]
  rw [if_pos (by simp;omega),rd_eq hi]
  simp only [Option.bind_some]
  rw [spec_track _ (by omega)]
  simp only [Option.bind_some]
  rw [w64_succ (by omega)]) (by simp [lp_Sl_7,m_Sl_7])
 rw [this]
 unfold tracksOk
 cases l.all trackOk with
 | false=>rfl
 | true=>
  simp only [cond_true,Option.bind_some,m_Sl_25,Bool.true_and]
  by_cases h1:1≤l.length
  ·rw [if_pos (by simp;omega)]
   by_cases h2:l.length≤8
   ·simp [h1,h2];omega
   ·simp [h1,h2];omega
  ·rw [if_neg (by simp;omega)];simp [h1]
def ticksOk (n:Int):Bool:=decide (0≤n∧n≤1000000000)
theorem spec_ticks (n:Int):m_Sj n=some (ticksOk n):=by
 simp only [m_Sj,m_Sj_0,ticksOk]
 by_cases h:0≤n
 ·rw [if_pos (by simpa using h)];simp [h]
 ·rw [if_neg (by simpa using h)];simp [h]
theorem impl_ticks (n:Int):m_Ik n=some (ticksOk n):=spec_ticks n
def pkOk (nt:Nat) (last:List Int) (p:Zb):Bool:=
 decide (0≤p.track∧p.track < nt)&&ticksOk p.time&&ticksOk p.span&&decide (last.getD p.track.toNat 0≤p.time)&&(decide (0≤last.getD p.track.toNat 0)||p.key)
def pkAll (nt:Nat):List Zb→List Int→Nat→Option Nat
 | [],_,sum=>some sum
 | p::ps,last,sum=>if pkOk nt last p then pkAll nt ps (last.set p.track.toNat p.time) (sum+p.data.length) else none
def rightOk (b:Ze):Bool:=
 tracksOk b.tracks&&decide (b.packets.length≤400)&&(match pkAll b.tracks.length b.packets (List.replicate b.tracks.length (-1)) 0 with | some n=>decide (n≤60000) | none=>false)
theorem pkAll_mono (nt:Nat):∀ (l:List Zb) (last:List Int) (s n:Nat),pkAll nt l last s=some n→s≤n
 | [],last,s,n,h=>by simp [pkAll] at h;omega
 | p::ps,last,s,n,h=>by
  simp only [pkAll] at h
  split at h
  ·have:=pkAll_mono nt ps _ _ _ h;omega
  ·simp at h
section
variable {b:Ze} (hb:SmB b) (hn:b.packets.length≤400)
include hb hn
theorem pk_step {X:Type} (i:Nat) (hi:i < b.packets.length) (last:List Int) (hl:last.length=b.tracks.length) (tk:Int→Option Bool) (htk:∀ n,tk n=some (ticksOk n)) (no:Option X) (go:Option X) :
  (if (decide (b.packets[i].track < 0)) then no else if (decide (b.packets[i].track≥(b.tracks.length:Int))) then no else
   (tk b.packets[i].time).bind fun x4=>if x4 then (tk b.packets[i].span).bind fun x6=>if x6 then (rd last b.packets[i].track).bind fun x8=>
    if (decide (b.packets[i].time < x8)) then no else if (decide (x8 < 0)) then (if b.packets[i].key then go else no) else go else no else no)=if pkOk b.tracks.length last b.packets[i] then go else no:=by
 unfold pkOk
 by_cases h1:b.packets[i].track < 0
 ·rw [if_pos (by simpa using h1),if_neg (by simp;omega)]
 ·rw [if_neg (by simpa using h1)]
  by_cases h2:b.packets[i].track≥(b.tracks.length:Int)
  ·rw [if_pos (by simpa using h2),if_neg (by simp;omega)]
  ·rw [if_neg (by simpa using h2),htk]
   simp only [Option.bind_some]
   obtain ⟨k,hk⟩:∃ k:Nat,b.packets[i].track=k:=⟨b.packets[i].track.toNat,by omega⟩
   cases h3:ticksOk b.packets[i].time with
   | false=>simp
   | true=>
    simp only [if_true]
    rw [htk]
    simp only [Option.bind_some]
    cases h4:ticksOk b.packets[i].span with
    | false=>simp
    | true=>
     simp only [if_true]
     rw [hk,rd_d 0 (by omega)]
     simp only [Option.bind_some,Int.toNat_natCast]
     by_cases h5:b.packets[i].time < last.getD k 0
     ·rw [if_pos (by simpa only [decide_eq_true_eq] using h5),if_neg (fun hh=>by simp only [Bool.and_eq_true,decide_eq_true_eq] at hh;omega)]
     ·rw [if_neg (by simpa only [decide_eq_true_eq] using h5)]
      by_cases h6:last.getD k 0 < 0
      ·rw [if_pos (by simpa only [decide_eq_true_eq] using h6)]
       cases b.packets[i].key with
       | true=>simp only [if_true];rw [if_pos (by simp only [Bool.and_eq_true,decide_eq_true_eq,Bool.or_true,and_true];omega)]
       | false=>simp only [Bool.false_eq_true,if_false];rw [if_neg (fun hh=>by simp only [Bool.and_eq_true,decide_eq_true_eq,Bool.or_false] at hh;omega)]
      ·rw [if_neg (by simpa only [decide_eq_true_eq] using h6),if_pos (by simp only [Bool.and_eq_true,decide_eq_true_eq,Bool.or_eq_true,and_true];refine ⟨⟨by omega,by omega⟩,.inl (by omega)⟩)]
theorem spec_walk:∀ (d i:Nat) (last:List Int) (sum:Nat),i+d=b.packets.length→last.length=b.tracks.length→sum≤i*1048576→sum≤60000→
  loopM (lp_Si_36 b) ((sum:Int),(i:Int),last)=some (match pkAll b.tracks.length (b.packets.drop i) last sum with | some n=>if n≤60000 then .inr () else .inl false | none=>.inl false):=by
 intro d
 induction d with
 | zero=>
  intro i last sum hi hl hs hs2
  have:i=b.packets.length:=by omega
  subst this
  rw [loopM_eq]
  simp only [lp_Si_36,m_Si_36]
  rw [if_neg (by simp),List.drop_length]
  simp [pkAll,hs2]
 | succ d ih=>
  intro i last sum hi hl hs hs2
  have hlt:i < b.packets.length:=by omega
  have hdl:=hb.2.2 b.packets[i] (by simp)
  rw [loopM_eq]
  simp only [lp_Si_36,m_Si_36]
  rw [if_pos (by simp;omega),rd_eq hlt]
  simp only [Option.bind_some]
  have hstep:=pk_step hb hn i hlt last hl m_Sj spec_ticks (some (.inr (.inl false))) (m_Si_62 (sum:Int) b (i:Int) b.packets[i] last)
  rw [hstep,List.drop_eq_getElem_cons hlt]
  simp only [pkAll]
  cases hok:pkOk b.tracks.length last b.packets[i] with
  | false=>simp
  | true=>
   simp only [if_true]
   have htr:0≤b.packets[i].track∧b.packets[i].track < b.tracks.length:=by
    simp only [pkOk,Bool.and_eq_true,decide_eq_true_eq] at hok
    exact hok.1.1.1.1
   obtain ⟨k,hk⟩:∃ k:Nat,b.packets[i].track=k:=⟨b.packets[i].track.toNat,by omega⟩
   simp only [m_Si_62]
   rw [hk,rd_d 0 (by omega)]
   simp only [Option.bind_some,Int.toNat_natCast,Nat.zero_add]
   have e1:w64 ((sum:Int)+(b.packets[i].data.length:Int))=((sum+b.packets[i].data.length:Nat):Int):=by rw [w64_id (by omega) (by omega)];omega
   rw [e1,w64_succ (by omega)]
   by_cases hbig:sum+b.packets[i].data.length > 60000
   ·rw [if_pos (by simp;omega)]
    simp only
    cases hp:pkAll b.tracks.length (b.packets.drop (i+1)) (last.set k b.packets[i].time) (sum+b.packets[i].data.length) with
    | none=>rfl
    | some n=>
     have:=pkAll_mono _ _ _ _ _ hp
     simp only
     rw [if_neg (by omega)]
   ·rw [if_neg (by simp;omega)]
    simp only
    exact ih (i+1) _ _ (by omega) (by simpa using hl) (by rw [Nat.succ_mul];omega) (by omega)
theorem impl_walk:∀ (d i:Nat) (last:List Int) (sum:Nat),i+d=b.packets.length→last.length=b.tracks.length→sum≤i*1048576→
  loopM (lp_Ij_59 b) ((sum:Int),(i:Int),last)=some (match pkAll b.tracks.length (b.packets.drop i) last sum with | some n=>.inr (n:Int) | none=>.inl false):=by
 intro d
 induction d with
 | zero=>
  intro i last sum hi hl hs
  have:i=b.packets.length:=by omega
  subst this
  rw [loopM_eq]
  simp only [lp_Ij_59,m_Ij_59]
  rw [if_neg (by simp),List.drop_length]
  simp [pkAll]
 | succ d ih=>
  intro i last sum hi hl hs
  have hlt:i < b.packets.length:=by omega
  have hdl:=hb.2.2 b.packets[i] (by simp)
  rw [loopM_eq]
  simp only [lp_Ij_59,m_Ij_59]
  rw [if_pos (by simp;omega),rd_eq hlt]
  simp only [Option.bind_some]
  have hstep:=pk_step hb hn i hlt last hl m_Ik impl_ticks (some (.inr (.inl false))) (m_Ij_77 (sum:Int) b (i:Int) b.packets[i] last)
  rw [hstep,List.drop_eq_getElem_cons hlt]
  simp only [pkAll]
  cases hok:pkOk b.tracks.length last b.packets[i] with
  | false=>simp
  | true=>
   simp only [if_true]
   have htr:0≤b.packets[i].track∧b.packets[i].track < b.tracks.length:=by
    simp only [pkOk,Bool.and_eq_true,decide_eq_true_eq] at hok
    exact hok.1.1.1.1
   obtain ⟨k,hk⟩:∃ k:Nat,b.packets[i].track=k:=⟨b.packets[i].track.toNat,by omega⟩
   simp only [m_Ij_77]
   rw [hk,rd_d 0 (by omega)]
   simp only [Option.bind_some,Int.toNat_natCast,Nat.zero_add]
   have e1:w64 ((sum:Int)+(b.packets[i].data.length:Int))=((sum+b.packets[i].data.length:Nat):Int):=by rw [w64_id (by omega) (by omega)];omega
   rw [e1,w64_succ (by omega)]
   exact ih (i+1) _ _ (by omega) (by simpa using hl) (by rw [Nat.succ_mul];omega)
end
theorem spec_right (b:Ze) (hb:SmB b):m_Si b=some (rightOk b):=by
 simp only [m_Si,m_Si_0]
 rw [spec_tracks _ hb.1]
 simp only [Option.bind_some]
 unfold rightOk
 have ht:=hb.1.1
 cases tracksOk b.tracks with
 | false=>rfl
 | true=>
  simp only [if_true,Bool.true_and]
  by_cases hn:b.packets.length≤400
  ·rw [if_neg (by simp;omega),ck_eq (by omega)]
   simp only [Option.bind_some,Int.toNat_natCast]
   rw [replicate_filled (v:=-1) b.tracks.length (by omega) (fun i l hi hl=>by
    simp only [lp_Si_17,m_Si_17]
    rw [if_pos (by simp;omega),rd_d 0 (by omega)]
    simp only [Option.bind_some]
    rw [w64_succ (by omega)]) (fun l=>by simp [lp_Si_17,m_Si_17])]
   simp only [Option.bind_some,m_Si_29]
   have:=spec_walk hb hn b.packets.length 0 (List.replicate b.tracks.length (-1)) 0 (by omega) (by simp) (by omega) (by omega)
   rw [show ((0:Nat):Int)=0 from rfl,List.drop_zero] at this
   rw [this]
   simp only [Option.bind_some]
   cases pkAll b.tracks.length b.packets (List.replicate b.tracks.length (-1)) 0 with
   | none=>simp [hn]
   | some n=>
    simp only [hn,decide_true,Bool.true_and]
    by_cases h2:n≤60000
    ·rw [if_pos h2];simp [h2,m_Si_74]
    ·rw [if_neg h2];simp [h2]
  ·rw [if_pos (by simp;omega)];simp [hn]
theorem impl_right (b:Ze) (hb:SmB b):m_Ij b=some (rightOk b):=by
 simp only [m_Ij,m_Ij_0]
 have ht:=hb.1.1
 unfold rightOk tracksOk
 by_cases h1:1≤b.tracks.length
 ·rw [if_neg (by simp;omega)]
  by_cases h8:b.tracks.length≤8
  ·rw [if_neg (by simp;omega)]
   by_cases hn:b.packets.length≤400
   ·rw [if_neg (by simp;omega)]
    have:=all_list (l:=b.tracks) (q:=trackOk) (b:=lp_Ij_15 b) (by omega) (fun i hi=>by
     have hx:=hb.1.2 b.tracks[i] (by simp)
     simp only [lp_Ij_15,m_Ij_15]
     rw [if_pos (by simp;omega),rd_eq hi]
     simp only [Option.bind_some]
     rw [impl_track _ (by omega)]
     simp only [Option.bind_some]
     rw [w64_succ (by omega)]) (by simp [lp_Ij_15,m_Ij_15])
    rw [this]
    cases b.tracks.all trackOk with
    | false=>simp
    | true=>
     simp only [cond_true,Option.bind_some,m_Ij_33,Bool.true_and]
     rw [ck_eq (by omega)]
     simp only [Option.bind_some,Int.toNat_natCast]
     rw [replicate_filled (v:=-1) b.tracks.length (by omega) (fun i l hi hl=>by
      simp only [lp_Ij_42,m_Ij_42]
      rw [if_pos (by simp;omega),rd_d 0 (by omega)]
      simp only [Option.bind_some]
      rw [w64_succ (by omega)]) (fun l=>by simp [lp_Ij_42,m_Ij_42])]
     simp only [Option.bind_some,m_Ij_54]
     have:=impl_walk hb hn b.packets.length 0 (List.replicate b.tracks.length (-1)) 0 (by omega) (by simp) (by omega)
     rw [show ((0:Nat):Int)=0 from rfl,List.drop_zero] at this
     rw [this]
     simp only [Option.bind_some]
     cases pkAll b.tracks.length b.packets (List.replicate b.tracks.length (-1)) 0 with
     | none=>simp
     | some n=>simp [hn,h1,h8,m_Ij_81];omega
   ·rw [if_pos (by simp;omega)];simp [hn]
  ·rw [if_pos (by simp;omega)];simp [h8]
 ·rw [if_pos (by simp;omega)];simp [h1]
def pkAt (b:Ze) (i:Nat):Zb:=b.packets.getD i default
def scAt (b:Ze) (t:Int):Int:=(b.tracks.getD t.toNat default).scale
def earl (b:Ze) (i j:Nat):Bool:=
 if (pkAt b i).time*scAt b (pkAt b j).track≠(pkAt b j).time*scAt b (pkAt b i).track then decide ((pkAt b i).time*scAt b (pkAt b j).track < (pkAt b j).time*scAt b (pkAt b i).track)
 else if (pkAt b i).track≠(pkAt b j).track then decide ((pkAt b i).track < (pkAt b j).track) else decide (i < j)
def goodOk (b:Ze):Bool:=rightOk b&&(List.range' 1 (b.packets.length - 1)).all fun i=>earl b (i - 1) i
theorem ord_anti (A B t u:Int) (i j:Nat) (h:i≠j):(if B≠A then decide (B < A) else if u≠t then decide (u < t) else decide (j < i)) = !(if A≠B then decide (A < B) else if t≠u then decide (t < u) else decide (i < j)):=by
 by_cases h1:A=B
 ·subst h1
  simp only [ne_eq,not_true_eq_false,if_false]
  by_cases h2:t=u
  ·subst h2
   simp only [not_true_eq_false,if_false]
   by_cases h3:i < j
   ·simp only [h3,decide_true,Bool.not_true,decide_eq_false_iff_not];omega
   ·simp only [h3,decide_false,Bool.not_false,decide_eq_true_eq];omega
  ·simp only [h2,Ne.symm h2,not_false_eq_true,if_true,eq_comm (a:=u)]
   by_cases h3:t < u
   ·simp only [h3,decide_true,Bool.not_true,decide_eq_false_iff_not];omega
   ·simp only [h3,decide_false,Bool.not_false,decide_eq_true_eq];omega
 ·have h1' : ¬ B=A:=fun e=>h1 e.symm
  simp only [ne_eq,h1,h1',not_false_eq_true,if_true]
  by_cases h3:A < B
  ·simp only [h3,decide_true,Bool.not_true,decide_eq_false_iff_not];omega
  ·simp only [h3,decide_false,Bool.not_false,decide_eq_true_eq];omega
theorem ord_bne (A B t u:Int) (i j:Nat):(if (A != B) then some (decide (A < B)) else if (t != u) then some (decide (t < u)) else some (decide ((i:Int) < (j:Int))))=some (if A≠B then decide (A < B) else if t≠u then decide (t < u) else decide (i < j)):=by
 by_cases h1:A=B
 ·subst h1
  simp only [bne_self_eq_false,Bool.false_eq_true,if_false,ne_eq,not_true_eq_false]
  by_cases h2:t=u
  ·subst h2
   simp only [bne_self_eq_false,Bool.false_eq_true,if_false,ne_eq,not_true_eq_false,Int.ofNat_lt]
  ·simp only [bne_iff_ne,ne_eq,h2,not_false_eq_true,if_true]
 ·simp only [bne_iff_ne,ne_eq,h1,not_false_eq_true,if_true]
theorem earl_anti (b:Ze) {i j:Nat} (h:i≠j):earl b j i = !(earl b i j):=ord_anti _ _ _ _ i j h
structure RightF (b:Ze):Prop where
 nt:1≤b.tracks.length∧b.tracks.length≤8
 np:b.packets.length≤400
 tr:∀ t ∈ b.tracks,trackOk t=true
 sum:∃ n,pkAll b.tracks.length b.packets (List.replicate b.tracks.length (-1)) 0=some n∧n≤60000
theorem right_facts {b:Ze} (h:rightOk b=true):RightF b:=by
 unfold rightOk tracksOk at h
 simp only [Bool.and_eq_true,decide_eq_true_eq,List.all_eq_true] at h
 obtain ⟨⟨⟨h1,h2⟩,h3⟩,h4⟩ :=h
 refine ⟨h2,h3,h1,?_⟩
 cases hp:pkAll b.tracks.length b.packets (List.replicate b.tracks.length (-1)) 0 with
 | none=>rw [hp] at h4;simp at h4
 | some n=>rw [hp] at h4;exact ⟨n,rfl,by simpa using h4⟩
theorem facts_right {b:Ze} (h:RightF b):rightOk b=true:=by
 unfold rightOk tracksOk
 obtain ⟨n,h1,h2⟩ :=h.sum
 simp only [Bool.and_eq_true,decide_eq_true_eq,List.all_eq_true]
 exact ⟨⟨⟨h.tr,h.nt⟩,h.np⟩,by rw [h1];simpa using h2⟩
theorem pkAll_range (nt:Nat):∀ (l:List Zb) (last:List Int) (s n:Nat),pkAll nt l last s=some n→∀ p ∈ l,(0≤p.track∧p.track < nt)∧(0≤p.time∧p.time≤1000000000)∧(0≤p.span∧p.span≤1000000000)
 | [],last,s,n,h,p,hp=>by simp at hp
 | q::ps,last,s,n,h,p,hp=>by
  simp only [pkAll] at h
  split at h
  ·rename_i hok
   simp only [pkOk,ticksOk,Bool.and_eq_true,decide_eq_true_eq] at hok
   rcases List.mem_cons.1 hp with rfl | hp
   ·exact ⟨hok.1.1.1.1,hok.1.1.1.2,hok.1.1.2⟩
   ·exact pkAll_range nt ps _ _ _ h p hp
  ·simp at h
theorem RightF.pk {b:Ze} (h:RightF b) {i:Nat} (hi:i < b.packets.length):(0≤(pkAt b i).track∧(pkAt b i).track < b.tracks.length)∧(0≤(pkAt b i).time∧(pkAt b i).time≤1000000000)∧(0≤(pkAt b i).span∧(pkAt b i).span≤1000000000):=by
 obtain ⟨n,h1,_⟩ :=h.sum
 refine pkAll_range _ _ _ _ _ h1 _ ?_
 unfold pkAt
 rw [List.getD_eq_getElem?_getD,List.getElem?_eq_getElem hi]
 simp
theorem RightF.sc {b:Ze} (h:RightF b) {t:Int} (h0:0≤t) (h1:t < b.tracks.length):1≤scAt b t∧scAt b t≤1000000:=by
 unfold scAt
 have hl:t.toNat < b.tracks.length:=by omega
 have:=h.tr b.tracks[t.toNat] (by simp)
 rw [List.getD_eq_getElem?_getD,List.getElem?_eq_getElem hl]
 simp only [trackOk,Bool.and_eq_true,decide_eq_true_eq] at this
 exact ⟨this.1.2.2.1,this.1.2.2.2.1⟩
theorem rd_pk {b:Ze} {i:Nat} (hi:i < b.packets.length):rd b.packets (i:Int)=some (pkAt b i):=rd_d default hi
theorem rd_tr {b:Ze} {t:Int} (h0:0≤t) (h1:t < b.tracks.length):∃ x,rd b.tracks t=some x∧x.scale=scAt b t∧x=b.tracks.getD t.toNat default:=by
 obtain ⟨k,rfl⟩:∃ k:Nat,t=k:=⟨t.toNat,by omega⟩
 refine ⟨b.tracks.getD k default,rd_d default (by omega),?_,?_⟩
 ·simp [scAt]
 ·simp
theorem mul_bound {x y:Int} (h1:0≤x) (h2:x≤1000000000) (h3:0≤y) (h4:y≤1000000):0≤x*y∧x*y≤1000000000000000:=by
 refine ⟨Int.mul_nonneg h1 h3,?_⟩
 have:x*y≤1000000000*1000000:=Int.mul_le_mul h2 h4 h3 (by omega)
 omega
theorem earl_eq {b:Ze} (h:RightF b) {i j:Nat} (hi:i < b.packets.length) (hj:j < b.packets.length) {f:Ze→Int→Int→Option Bool}
  (hf:∀ p0 p1 p2,f p0 p1 p2=(rd p0.packets p1).bind fun x0_0=>(rd p0.packets p2).bind fun x0_1=>(rd p0.tracks x0_1.track).bind fun x0_2=>(rd p0.tracks x0_0.track).bind fun x0_3=>
   if ((w64 (x0_0.time*x0_2.scale)) != (w64 (x0_1.time*x0_3.scale))) then some (decide ((w64 (x0_0.time*x0_2.scale)) < (w64 (x0_1.time*x0_3.scale))))
   else if (x0_0.track != x0_1.track) then some (decide (x0_0.track < x0_1.track)) else some (decide (p1 < p2))):f b i j=some (earl b i j):=by
 obtain ⟨a1,a2,_⟩ :=h.pk hi
 obtain ⟨b1,b2,_⟩ :=h.pk hj
 obtain ⟨x2,r2,e2,_⟩ :=rd_tr b1.1 b1.2
 obtain ⟨x3,r3,e3,_⟩ :=rd_tr a1.1 a1.2
 have s2:=h.sc b1.1 b1.2
 have s3:=h.sc a1.1 a1.2
 rw [hf,rd_pk hi]
 simp only [Option.bind_some]
 rw [rd_pk hj]
 simp only [Option.bind_some]
 rw [r2]
 simp only [Option.bind_some]
 rw [r3]
 simp only [Option.bind_some]
 rw [e2,e3]
 have m1:=mul_bound a2.1 a2.2 (y:=scAt b (pkAt b j).track) (by omega) s2.2
 have m2:=mul_bound b2.1 b2.2 (y:=scAt b (pkAt b i).track) (by omega) s3.2
 rw [w64_id (by omega) (by omega),w64_id (by omega) (by omega)]
 exact ord_bne _ _ _ _ i j
theorem spec_good (b:Ze) (hb:SmB b):m_Sc b=some (goodOk b):=by
 simp only [m_Sc,m_Sc_0]
 rw [spec_right b hb]
 simp only [Option.bind_some]
 unfold goodOk
 cases hr:rightOk b with
 | false=>rfl
 | true=>
  have h:=right_facts hr
  have hnp:=h.np
  simp only [if_true,Bool.true_and]
  have:=loop_all (b:=lp_Sc_15 b) b.packets.length (fun i=>earl b (i - 1) i) 1 (fun i h1 h2=>by
   simp only [lp_Sc_15,m_Sc_15]
   rw [if_pos (by simp;omega),show w64 ((i:Int) - 1)=((i - 1:Nat):Int) by rw [w64_id (by omega) (by omega)];omega,
    earl_eq h (f:=m_Sh) (i:=i - 1) (j:=i) (by omega) h2 (fun _ _ _=>rfl)]
   simp only [Option.bind_some]
   rw [w64_succ (by omega)]
   cases earl b (i - 1) i <;> rfl) (fun i h1 h2=>by
   simp only [lp_Sc_15,m_Sc_15]
   rw [if_neg (by simp;omega)])
  rw [show ((1:Nat):Int)=1 from rfl] at this
  rw [this]
  cases (List.range' 1 (b.packets.length - 1)).all fun i=>earl b (i - 1) i <;> rfl
theorem impl_good (b:Ze) (hb:SmB b):m_Ia b=some (goodOk b):=by
 simp only [m_Ia,m_Ia_0]
 rw [impl_right b hb]
 simp only [Option.bind_some]
 unfold goodOk
 cases hr:rightOk b with
 | false=>rfl
 | true=>
  have h:=right_facts hr
  have hnp:=h.np
  simp only [if_true,Bool.true_and]
  have:=loop_all (b:=lp_Ia_15 b) b.packets.length (fun i=>earl b (i - 1) i) 1 (fun i h1 h2=>by
   simp only [lp_Ia_15,m_Ia_15]
   rw [if_pos (by simp;omega),show w64 ((i:Int) - 1)=((i - 1:Nat):Int) by rw [w64_id (by omega) (by omega)];omega,
    earl_eq h (f:=m_If) (i:=i) (j:=i - 1) h2 (by omega) (fun _ _ _=>rfl)]
   simp only [Option.bind_some]
   rw [w64_succ (by omega),earl_anti b (i:=i - 1) (j:=i) (by omega)]
   cases earl b (i - 1) i <;> rfl) (fun i h1 h2=>by
   simp only [lp_Ia_15,m_Ia_15]
   rw [if_neg (by simp;omega)])
  rw [show ((1:Nat):Int)=1 from rfl] at this
  rw [this]
  cases (List.range' 1 (b.packets.length - 1)).all fun i=>earl b (i - 1) i <;> rfl
end Go.Proofs.V

namespace Go.Proofs.V
open Go
theorem w64_def (x:Int):w64 x=(x+9223372036854775808) % 18446744073709551616 - 9223372036854775808:=by
 unfold w64;rw [IntKind.wrap_i64]
theorem w64_a (x y:Int):w64 (w64 x+y)=w64 (x+y):=by simp only [w64_def];omega
theorem w64_b (x y:Int):w64 (x+w64 y)=w64 (x+y):=by simp only [w64_def];omega
theorem w64_w (x:Int):w64 (w64 x)=w64 x:=by simp only [w64_def];omega
structure PS where
 wall:Int
 clock:Int
 busy:Int
 gone:List Bool
 drop:List Bool
 shows:List Zf
def dueF (b:Ze) (i:Nat):Int:=(pkAt b i).time*1000000 / scAt b (pkAt b i).track
def dues (b:Ze):List Int:=(List.range b.packets.length).map (dueF b)
def trF (b:Ze) (i:Nat):Nat:=(pkAt b i).track.toNat
def kindF (b:Ze) (i:Nat):Int:=(b.tracks.getD (trF b i) default).kind
def doneF (b:Ze) (sp:Int) (s:PS) (i:Nat):Int:=w64 (mxI s.wall s.busy+Int.tdiv ((pkAt b i).data.length:Int) sp+1)
def drop1 (b:Ze) (s:PS) (i:Nat):List Bool:=if (pkAt b i).key then s.drop.set (trF b i) false else s.drop
def lateF (b:Ze) (sp:Int) (s:PS) (i:Nat):Bool:=(decide (kindF b i=3)||decide (kindF b i=4)) && !(pkAt b i).key&&decide (doneF b sp s i > w64 (s.wall+100))
def drop2 (b:Ze) (sp:Int) (s:PS) (i:Nat):List Bool:=if lateF b sp s i then (drop1 b s i).set (trF b i) true else drop1 b s i
def thr (b:Ze) (sp:Int) (s:PS) (i:Nat):PS:=
 { s with busy:=if (drop2 b sp s i).getD (trF b i) false then s.busy else doneF b sp s i,drop:=drop2 b sp s i,shows:=s.shows++[⟨s.wall,w64 (Int.tdiv s.clock 1000),i,(drop2 b sp s i).getD (trF b i) false⟩] }
def setG (s:PS) (i:Nat):PS:={ s with gone:=s.gone.set i true }
def stp (b:Ze) (sp:Int) (s:PS) (i:Nat):PS:=if s.gone.getD i false then s else if dueF b i≤s.clock then thr b sp (setG s i) i else s
def spP (b:Ze) (sp:Int) (s:PS) (pace:Int) (pl:Bool) (soon:Int):Zi:=⟨b,dues b,sp,s.wall,s.clock,pace,pl,s.busy,s.gone,0,soon,s.drop,s.shows⟩
def imP (b:Ze) (sp:Int) (s:PS) (next:Int):Zh:=⟨b,sp,dues b,s.gone,next,s.drop,s.wall,s.clock,s.busy,s.shows⟩
structure InvP (b:Ze) (C:Nat) (s:PS):Prop where
 g:s.gone.length=b.packets.length
 d:s.drop.length=b.tracks.length
 n:s.shows.length+s.gone.count false≤C
 c:C≤1000000
 w:w64 s.wall=s.wall
section
variable {b:Ze} (hr:RightF b) {sp:Int} (hsp:1≤sp)
include hr
theorem due_nn {i:Nat} (hi:i < b.packets.length):0≤dueF b i∧dueF b i≤1000000000000000:=by
 obtain ⟨h1,h2,_⟩ :=hr.pk hi
 have hs:=hr.sc h1.1 h1.2
 unfold dueF
 refine ⟨Int.ediv_nonneg (by omega) (by omega),?_⟩
 have:=Int.ediv_le_self (a:=(pkAt b i).time*1000000) (scAt b (pkAt b i).track) (by omega)
 omega
theorem spec_due {i:Nat} (hi:i < b.packets.length):m_So b i=some (dueF b i):=by
 obtain ⟨h1,h2,_⟩ :=hr.pk hi
 have hs:=hr.sc h1.1 h1.2
 obtain ⟨x,r,e,_⟩ :=rd_tr h1.1 h1.2
 simp only [m_So,m_So_0]
 rw [rd_pk hi]
 simp only [Option.bind_some]
 rw [r]
 simp only [Option.bind_some]
 rw [e,ck_eq (by omega)]
 simp only [Option.bind_some]
 have h3:=due_nn hr hi
 rw [w64_id (x:=(pkAt b i).time*1000000) (by omega) (by omega),Int.tdiv_eq_ediv_of_nonneg (by omega)]
 unfold dueF at h3 ⊢
 rw [w64_id (by omega) (by omega)]
theorem impl_due {i:Nat} (hi:i < b.packets.length):m_Ie b i=some (dueF b i):=spec_due hr hi
theorem dues_len:(dues b).length=b.packets.length:=by simp [dues]
theorem rd_due {i:Nat} (hi:i < b.packets.length):rd (dues b) (i:Int)=some (dueF b i):=by
 rw [rd_eq (by simpa [dues] using hi)]
 simp [dues]
include hsp
theorem spec_from (p:Zi):m_Sq p=some (mxI p.wall p.busy,p):=by
 simp only [m_Sq,m_Sq_0,mxI]
 by_cases h:p.busy > p.wall
 ·rw [if_pos (by simpa using h),if_pos h]
 ·rw [if_neg (by simpa using h),if_neg h]
theorem spec_cost (p:Zi) (hb:p.b=b) (hs:p.speed=sp) {i:Nat} (hi:i < b.packets.length) :
  m_Sp p i=some (w64 (w64 (Int.tdiv ((pkAt b i).data.length:Int) sp)+1),p):=by
 simp only [m_Sp,m_Sp_0]
 rw [hb,hs,rd_pk hi]
 simp only [Option.bind_some]
 rw [ck_eq (by omega)]
 simp only [Option.bind_some]
theorem impl_done (p:Zh) (hb:p.b=b) (hs:p.speed=sp) {i:Nat} (hi:i < b.packets.length) :
  m_Ig p i=some (w64 (mxI p.wall p.busy+Int.tdiv ((pkAt b i).data.length:Int) sp+1),p):=by
 simp only [m_Ig,m_Ig_0]
 rw [hb,hs,rd_pk hi]
 simp only [Option.bind_some]
 rw [ck_eq (by omega)]
 simp only [Option.bind_some]
 rw [w64_b,w64_a]
theorem done_sp (m q:Int):w64 (m+w64 (w64 q+1))=w64 (m+q+1):=by
 rw [w64_a,w64_b,←Int.add_assoc]
theorem rd_nat {α:Type} (z:α) {l:List α} {t:Int} (h0:0≤t) (h1:t.toNat < l.length):rd l t=some (l.getD t.toNat z):=by
 obtain ⟨k,rfl⟩:∃ k:Nat,t=k:=⟨t.toNat,by omega⟩
 rw [rd_d z (by simpa using h1)];simp
theorem d1_len (s:PS) (i:Nat):(drop1 b s i).length=s.drop.length:=by unfold drop1;split <;> simp
theorem d2_len (s:PS) (i:Nat):(drop2 b sp s i).length=s.drop.length:=by
 unfold drop2;split
 ·rw [List.length_set,d1_len hr hsp]
 ·rw [d1_len hr hsp]
theorem spec_thr {C:Nat} (s:PS) (hI:InvP b C s) (pace:Int) (pl:Bool) (soon:Int) {i:Nat} (hi:i < b.packets.length) :
  m_St (spP b sp s pace pl soon) i=some (spP b sp (thr b sp s i) pace pl soon):=by
 obtain ⟨h1,h2,_⟩ :=hr.pk hi
 obtain ⟨x,r,e,ex⟩ :=rd_tr h1.1 h1.2
 have hg:=hI.g
 have hd:=hI.d
 have hn:=hI.n
 have hc:=hI.c
 simp only [m_St,m_St_0,spP]
 rw [rd_pk hi]
 simp only [Option.bind_some]
 rw [r]
 simp only [Option.bind_some]
 have hk:x.kind=kindF b i:=by rw [ex];rfl
 have e24:∀ (busy:Int) (l:List Bool),l=drop2 b sp s i→busy=(if (drop2 b sp s i).getD (trF b i) false then s.busy else doneF b sp s i)→∀ c:Int,
   m_St_24 i (c,(⟨b,dues b,sp,s.wall,s.clock,pace,pl,s.busy,s.gone,0,soon,drop1 b s i,s.shows⟩:Zi)) (pkAt b i) l busy=some (spP b sp (thr b sp s i) pace pl soon):=by
  intro busy l hl hbusy c
  subst hl hbusy
  simp only [m_St_24]
  rw [rd_nat hr hsp false h1.1 (by rw [d2_len hr hsp];omega)]
  simp only [Option.bind_some]
  rw [ck_eq (by simp;omega)]
  rfl
 have e18:∀ (l:List Bool),l=drop2 b sp s i→∀ c:Int,
   m_St_18 i (doneF b sp s i) (c,(⟨b,dues b,sp,s.wall,s.clock,pace,pl,s.busy,s.gone,0,soon,drop1 b s i,s.shows⟩:Zi)) (pkAt b i) l=some (spP b sp (thr b sp s i) pace pl soon):=by
  intro l hl c
  subst hl
  simp only [m_St_18]
  rw [rd_nat hr hsp false h1.1 (by rw [d2_len hr hsp];omega)]
  simp only [Option.bind_some]
  have hh:(pkAt b i).track.toNat=trF b i:=rfl
  rw [hh]
  cases hq:(drop2 b sp s i).getD (trF b i) false with
  | true=>exact e24 _ _ rfl (by rw [hq];rfl) c
  | false=>exact e24 _ _ rfl (by rw [hq];rfl) c
 have e15:∀ (l:Bool),l=lateF b sp s i→∀ c:Int,
   m_St_15 i (c,(⟨b,dues b,sp,s.wall,s.clock,pace,pl,s.busy,s.gone,0,soon,drop1 b s i,s.shows⟩:Zi)) (pkAt b i) (doneF b sp s i) l=some (spP b sp (thr b sp s i) pace pl soon):=by
  intro l hl c
  subst hl
  simp only [m_St_15]
  have hh:(pkAt b i).track.toNat=trF b i:=rfl
  cases hq:lateF b sp s i with
  | true=>
   rw [if_pos rfl,rd_nat hr hsp false h1.1 (by rw [d1_len hr hsp];omega)]
   simp only [Option.bind_some]
   exact e18 _ (by unfold drop2;rw [hq,Nat.zero_add,hh];rfl) c
  | false=>
   rw [if_neg (by simp)]
   exact e18 _ (by unfold drop2;rw [hq];rfl) c
 have e10:m_St_10 i x (⟨b,dues b,sp,s.wall,s.clock,pace,pl,s.busy,s.gone,0,soon,s.drop,s.shows⟩:Zi) (pkAt b i) (drop1 b s i)=some (spP b sp (thr b sp s i) pace pl soon):=by
  simp only [m_St_10]
  rw [spec_from hr hsp]
  simp only [Option.bind_some]
  rw [spec_cost hr hsp _ rfl rfl hi]
  simp only [Option.bind_some]
  rw [done_sp hr hsp,hk]
  have hdn:w64 (mxI s.wall s.busy+Int.tdiv ((pkAt b i).data.length:Int) sp+1)=doneF b sp s i:=rfl
  rw [hdn]
  by_cases k3:kindF b i=3
  ·rw [if_pos (by simpa using k3)]
   cases hkey:(pkAt b i).key with
   | true=>rw [if_pos rfl];exact e15 _ (by simp [lateF,hkey]) _
   | false=>rw [if_neg (by simp)];exact e15 _ (by simp [lateF,hkey,k3]) _
  ·rw [if_neg (by simpa using k3)]
   by_cases k4:kindF b i=4
   ·rw [if_pos (by simpa using k4)]
    cases hkey:(pkAt b i).key with
    | true=>rw [if_pos rfl];exact e15 _ (by simp [lateF,hkey]) _
    | false=>rw [if_neg (by simp)];exact e15 _ (by simp [lateF,hkey,k4]) _
   ·rw [if_neg (by simpa using k4)]
    exact e15 _ (by simp [lateF,k3,k4]) _
 have hh:(pkAt b i).track.toNat=trF b i:=rfl
 cases hkey:(pkAt b i).key with
 | true=>
  rw [if_pos rfl,rd_nat hr hsp false h1.1 (by omega)]
  simp only [Option.bind_some]
  have:s.drop.set (0+Int.toNat (pkAt b i).track) false=drop1 b s i:=by unfold drop1;rw [hkey,Nat.zero_add];rfl
  rw [this]
  exact e10
 | false=>
  rw [if_neg (by simp)]
  have:s.drop=drop1 b s i:=by unfold drop1;rw [hkey];rfl
  have e10':=e10
  rw [←this] at e10'
  exact e10'
theorem count_set {l:List Bool} {i:Nat} (hi:i < l.length) (h:l.getD i false=false):(l.set i true).count false+1=l.count false:=by
 induction l generalizing i with
 | nil=>simp at hi
 | cons a l ih=>
  cases i with
  | zero=>
   simp only [List.getD_cons_zero] at h
   subst h
   simp
  | succ i=>
   simp only [List.getD_cons_succ] at h
   have:=ih (by simpa using hi) h
   simp only [List.set_cons_succ,List.count_cons]
   omega
theorem inv_setG {C:Nat} {s:PS} (hI:InvP b C s) {i:Nat} (hi:i < b.packets.length) (h:s.gone.getD i false=false):InvP b C (setG s i)∧(setG s i).shows.length+(setG s i).gone.count false+1≤C:=by
 have h1:=count_set hr hsp (by rw [hI.g];exact hi) h
 have h2:=hI.n
 have h3:(setG s i).shows.length=s.shows.length:=rfl
 have h4:(setG s i).gone.count false=(s.gone.set i true).count false:=rfl
 exact ⟨⟨by have:=hI.g;simpa [setG] using this,hI.d,by omega,hI.c,hI.w⟩,by omega⟩
theorem inv_thr {C:Nat} {s:PS} (hI:InvP b C s) (i:Nat) (hn:s.shows.length+s.gone.count false+1≤C):InvP b C (thr b sp s i):=by
 refine ⟨hI.g,?_,?_,hI.c,hI.w⟩
 ·show (drop2 b sp s i).length=_
  rw [d2_len hr hsp];exact hI.d
 ·show (s.shows++[_]).length+s.gone.count false≤C
  simp only [List.length_append,List.length_singleton]
  omega
theorem inv_stp {C:Nat} {s:PS} (hI:InvP b C s) {i:Nat} (hi:i < b.packets.length):InvP b C (stp b sp s i):=by
 unfold stp
 cases h:s.gone.getD i false with
 | true=>exact hI
 | false=>
  simp only [Bool.false_eq_true,if_false]
  split
  ·obtain ⟨h1,h2⟩ :=inv_setG hr hsp hI hi h
   exact inv_thr hr hsp h1 i h2
  ·exact hI
def soonG (b:Ze) (gone:List Bool) (soon:Int) (i:Nat):Int:=if !gone.getD i false&&(decide (soon < 0)||decide (dueF b i < soon)) then dueF b i else soon
def SoonOk (b:Ze) (gone:List Bool) (k:Nat) (soon:Int):Prop:=∀ i,i < k→gone.getD i false=false→0≤soon∧soon≤dueF b i
theorem soon_step {gone:List Bool} {soon:Int} {i:Nat} (hi:i < b.packets.length) (h:SoonOk b gone i soon):SoonOk b gone (i+1) (soonG b gone soon i):=by
 have hd:=due_nn hr hi
 intro j hj hg
 unfold soonG
 by_cases he:j=i
 ·subst he
  rw [hg]
  simp only [Bool.not_false,Bool.true_and,Bool.or_eq_true,decide_eq_true_eq]
  split
  ·omega
  ·omega
 ·have:=h j (by omega) hg
  split
  ·rename_i hh
   simp only [Bool.and_eq_true,Bool.or_eq_true,decide_eq_true_eq] at hh
   omega
  ·exact this
theorem spec_look (s:PS) (hg:s.gone.length=b.packets.length) (pace:Int) (pl:Bool) (soon:Int) :
  ∃ soon',m_Sr (spP b sp s pace pl soon)=some (spP b sp s pace pl soon')∧SoonOk b s.gone b.packets.length soon':=by
 have hnp:=hr.np
 have:=fold_range (n:=b.packets.length) (σ:=Int) (fun soon i=>((i:Int),soon)) (g:=soonG b s.gone) (I:=fun i soon=>SoonOk b s.gone i soon) (b:=lp_Sr_6 (spP b sp s pace pl soon))
  (e1:=fun soon=>spP b sp s pace pl soon) (fun i so hi hI=>⟨?_,soon_step hr hsp hi hI⟩) (fun so hI=>?_) (-1) (fun i hi=>absurd hi (by omega))
 ·refine ⟨_,?_,this.2⟩
  have h1:=this.1
  rw [show ((0:Nat):Int)=0 from rfl] at h1
  simp only [m_Sr,m_Sr_0]
  rw [h1]
  rfl
 ·dsimp only [lp_Sr_6,m_Sr_6,spP]
  rw [if_pos (by rw [dues_len hr];simpa using hi),rd_d false (by omega)]
  simp only [Option.bind_some]
  unfold soonG
  cases hq:s.gone.getD i false with
  | true=>
   dsimp only [m_Sr_18]
   simp only [if_true,Bool.false_eq_true,if_false,Bool.not_true,Bool.false_and]
   rw [w64_succ (by omega)]
  | false=>
   simp only [Bool.false_eq_true,if_false,Bool.not_false,Bool.true_and]
   by_cases h1:so < 0
   ·rw [if_pos (by simpa using h1),if_pos (by simp [h1])]
    simp only [m_Sr_18,if_true]
    rw [rd_due hr hi]
    simp only [Option.bind_some]
    rw [w64_succ (by omega)]
   ·rw [if_neg (by simpa using h1),rd_due hr hi]
    simp only [Option.bind_some,m_Sr_18]
    by_cases h2:dueF b i < so
    ·rw [if_pos (by simpa using h2),if_pos (by simp [h2])]
     rw [rd_due hr hi]
     simp only [Option.bind_some]
     rw [w64_succ (by omega)]
    ·rw [if_neg (by simpa using h2),if_neg (by simp [h1,h2])]
     rw [w64_succ (by omega)]
 ·dsimp only [lp_Sr_6,m_Sr_6,spP]
  rw [if_neg (by rw [dues_len hr];simp)]
def tickF (b:Ze) (sp:Int) (s:PS):PS:=(List.range b.packets.length).foldl (stp b sp) s
theorem spec_tickL {C:Nat} (s:PS) (hI:InvP b C s) (p0:Zi) (hp:p0.due=dues b) (pace:Int) (pl:Bool) (soon:Int) :
  loopM (lp_Su_21 p0) (0,b.tracks,b.packets,sp,s.wall,s.clock,pace,pl,s.busy,0,soon,dues b,s.gone,s.drop,s.shows)
   = some (b.tracks,b.packets,sp,(tickF b sp s).wall,(tickF b sp s).clock,pace,pl,(tickF b sp s).busy,0,soon,dues b,(tickF b sp s).gone,(tickF b sp s).drop,(tickF b sp s).shows)∧InvP b C (tickF b sp s):=by
 have hnp:=hr.np
 refine fold_range (n:=b.packets.length) (σ:=PS) (fun s i=>((i:Int),b.tracks,b.packets,sp,s.wall,s.clock,pace,pl,s.busy,0,soon,dues b,s.gone,s.drop,s.shows)) (g:=stp b sp) (I:=fun i s=>InvP b C s) (b:=lp_Su_21 p0)
  (e1:=fun s=>(b.tracks,b.packets,sp,s.wall,s.clock,pace,pl,s.busy,0,soon,dues b,s.gone,s.drop,s.shows)) (fun i s hi hI=>⟨?_,inv_stp hr hsp hI hi⟩) (fun s hI=>?_) s hI
 ·have hg:=hI.g
  dsimp only [lp_Su_21,m_Su_21]
  rw [if_pos (by rw [hp,dues_len hr];simpa using hi),rd_d false (by omega)]
  simp only [Option.bind_some]
  unfold stp
  cases hq:s.gone.getD i false with
  | true=>
   simp only [if_true,m_Su_33,Bool.false_eq_true,if_false]
   rw [w64_succ (by omega)]
  | false=>
   simp only [Bool.false_eq_true,if_false]
   rw [rd_due hr hi]
   simp only [Option.bind_some,m_Su_33]
   by_cases h1:dueF b i≤s.clock
   ·rw [if_pos (by simpa using h1),if_pos h1,rd_d false (by omega)]
    simp only [Option.bind_some]
    have:=spec_thr hr hsp (setG s i) (inv_setG hr hsp hI hi hq).1 pace pl soon hi
    simp only [spP,setG] at this
    simp only [Nat.zero_add,Int.toNat_natCast]
    rw [this]
    simp only [Option.bind_some]
    rw [w64_succ (by omega)]
    rfl
   ·rw [if_neg (by simpa using h1),if_neg h1]
    rw [w64_succ (by omega)]
 ·dsimp only [lp_Su_21,m_Su_21]
  rw [if_neg (by rw [hp,dues_len hr];simp)]
theorem stp_id {s:PS} {i:Nat} (h:s.gone.getD i false=true∨s.clock < dueF b i):stp b sp s i=s:=by
 unfold stp
 rcases h with h | h
 ·rw [h];rfl
 ·rw [if_neg (show ¬ dueF b i≤s.clock by omega)];simp
theorem fold_id {s:PS} {l:List Nat} (h:∀ i ∈ l,s.gone.getD i false=true∨s.clock < dueF b i):l.foldl (stp b sp) s=s:=by
 induction l with
 | nil=>rfl
 | cons a l ih=>
  rw [List.foldl_cons,stp_id hr hsp (h a (by simp))]
  exact ih (fun i hi=>h i (by simp [hi]))
def onF (s:PS) (pace:Int):PS:={ s with wall:=w64 (s.wall+1),clock:=w64 (s.clock+w64 (10*pace)) }
def tkF (b:Ze) (sp pace:Int) (s:PS):PS:=tickF b sp (onF s pace)
theorem inv_on {C:Nat} {s:PS} (hI:InvP b C s) (pace:Int):InvP b C (onF s pace):=⟨hI.g,hI.d,hI.n,hI.c,w64_w _⟩
theorem inv_tick {C:Nat} {s:PS} (hI:InvP b C s):InvP b C (tickF b sp s):=(spec_tickL hr hsp s hI (spP b sp s 0 false 0) rfl 0 false 0).2
theorem spec_tick {C:Nat} (s:PS) (hI:InvP b C s) (pace:Int) (soon:Int) (hs:SoonOk b s.gone b.packets.length soon) :
  ∃ soon',m_Su (spP b sp s pace true soon)=some (spP b sp (tkF b sp pace s) pace true soon')∧SoonOk b (tkF b sp pace s).gone b.packets.length soon':=by
 dsimp only [m_Su,m_Su_0,spP]
 rw [if_pos rfl]
 by_cases h1:soon < 0∨soon > (onF s pace).clock
 ·have he:tkF b sp pace s=onF s pace:=by
   unfold tkF tickF
   refine fold_id hr hsp (fun i hi=>?_)
   cases hq:(onF s pace).gone.getD i false with
   | true=>exact .inl rfl
   | false=>
    have:=hs i (by simpa using hi) hq
    exact .inr (by omega)
  refine ⟨soon,?_,?_⟩
  ·rw [he]
   by_cases h2:soon < 0
   ·rw [if_pos (by simpa using h2)];rfl
   ·rw [if_neg (by simpa using h2)]
    have h3:soon > w64 (s.clock+w64 (10*pace)):=h1.elim (fun h=>absurd h h2) (fun h=>h)
    rw [if_pos (by simpa using h3)];rfl
  ·rw [he];exact hs
 ·have h2 : ¬ soon < 0:=fun h=>h1 (.inl h)
  have h3 : ¬ soon > w64 (s.clock+w64 (10*pace)):=fun h=>h1 (.inr h)
  rw [if_neg (by simpa using h2),if_neg (by simpa using h3)]
  have:=(spec_tickL hr hsp (onF s pace) (inv_on hr hsp hI pace) (spP b sp s pace true soon) rfl pace true soon).1
  simp only [onF,spP] at this
  rw [this]
  simp only [Option.bind_some,m_Su_39]
  obtain ⟨so,h4,h5⟩ :=spec_look hr hsp (tkF b sp pace s) (inv_tick hr hsp (inv_on hr hsp hI pace)).g pace true soon
  refine ⟨so,?_,h5⟩
  simp only [spP,tkF,onF] at h4 ⊢
  rw [h4]
  rfl
end
end Go.Proofs.V

namespace Go.Proofs.V
open Go
theorem ediv_mono {a c s t K:Int} (hs:0 < s) (ht:0 < t) (hK:0≤K) (h:a*t≤c*s):a*K / s≤c*K / t:=by
 rw [Int.le_ediv_iff_mul_le ht]
 have h1:a*K / s*s≤a*K:=Int.ediv_mul_le _ (by omega)
 have h2:a*K / s*t*s≤c*K*s:=by
  have e1:a*K / s*t*s=a*K / s*s*t:=by rw [Int.mul_right_comm]
  have e2:a*K / s*s*t≤a*K*t:=Int.mul_le_mul_of_nonneg_right h1 (by omega)
  have e3:a*K*t=a*t*K:=by rw [Int.mul_right_comm]
  have e4:a*t*K≤c*s*K:=Int.mul_le_mul_of_nonneg_right h hK
  have e5:c*s*K=c*K*s:=by rw [Int.mul_right_comm]
  omega
 exact Int.le_of_mul_le_mul_right h2 hs
section
variable {b:Ze} (hgood:goodOk b=true)
include hgood
theorem good_right:RightF b:=by
 unfold goodOk at hgood
 simp only [Bool.and_eq_true] at hgood
 exact right_facts hgood.1
theorem earl_ok {i:Nat} (h0:1≤i) (hi:i < b.packets.length):earl b (i - 1) i=true:=by
 unfold goodOk at hgood
 simp only [Bool.and_eq_true,List.all_eq_true] at hgood
 exact hgood.2 i (by simp [List.mem_range'_1];omega)
theorem due_step {i:Nat} (hi:i+1 < b.packets.length):dueF b i≤dueF b (i+1):=by
 have hr:=good_right hgood
 have he:=earl_ok hgood (i:=i+1) (by omega) hi
 obtain ⟨a1,a2,_⟩ :=hr.pk (i:=i) (by omega)
 obtain ⟨b1,b2,_⟩ :=hr.pk (i:=i+1) hi
 have s1:=hr.sc a1.1 a1.2
 have s2:=hr.sc b1.1 b1.2
 unfold dueF
 refine ediv_mono (by omega) (by omega) (by omega) ?_
 unfold earl at he
 simp only [Nat.add_sub_cancel] at he
 split at he
 ·simp only [decide_eq_true_eq] at he;omega
 ·rename_i hh
  have:(pkAt b i).time*scAt b (pkAt b (i+1)).track=(pkAt b (i+1)).time*scAt b (pkAt b i).track:=Decidable.not_not.1 hh
  omega
theorem due_mono {i j:Nat} (hij:i≤j) (hj:j < b.packets.length):dueF b i≤dueF b j:=by
 induction j with
 | zero=>
  have:i=0:=by omega
  subst this;exact Int.le_refl _
 | succ j ih=>
  by_cases h:i=j+1
  ·subst h;exact Int.le_refl _
  ·have:=ih (by omega) (by omega)
   have:=due_step hgood hj
   omega
end
section
variable {b:Ze} (hgood:goodOk b=true) {sp:Int} (hsp:1≤sp)
include hgood hsp
theorem impl_thr {C:Nat} (s:PS) (hI:InvP b C s) {i:Nat} (hi:i < b.packets.length) (hq:s.gone.getD i false=false) (hdue:dueF b i≤s.clock) :
  m_Ii_2 b.tracks b.packets sp i s.wall s.clock s.busy (dues b) s.gone s.drop s.shows
   = some (.inl (b.tracks,b.packets,sp,((i+1:Nat):Int),s.wall,s.clock,(thr b sp (setG s i) i).busy,dues b,s.gone.set i true,(thr b sp (setG s i) i).drop,(thr b sp (setG s i) i).shows)):=by
 have hr:=good_right hgood
 obtain ⟨h1,h2,_⟩ :=hr.pk hi
 obtain ⟨x,r,e,ex⟩ :=rd_tr h1.1 h1.2
 have hg:=hI.g
 have hd:=hI.d
 have hn:=hI.n
 have hc:=hI.c
 have hnp:=hr.np
 dsimp only [m_Ii_2]
 rw [if_pos (by rw [dues_len hr];simpa using hi),rd_d false (by omega)]
 simp only [Option.bind_some]
 rw [hq,if_neg (by simp),rd_due hr hi]
 simp only [Option.bind_some]
 rw [if_neg (by simp;omega),rd_pk hi]
 simp only [Option.bind_some,Nat.zero_add,Int.toNat_natCast]
 have hk:x.kind=kindF b i:=by rw [ex];rfl
 have hh:(pkAt b i).track.toNat=trF b i:=rfl
 have e47:∀ (busy:Int) (l:List Bool),l=drop2 b sp (setG s i) i→busy=(if (drop2 b sp (setG s i) i).getD (trF b i) false then s.busy else doneF b sp s i)→
   m_Ii_47 i (pkAt b i) b.tracks b.packets sp i s.wall s.clock busy (dues b) (s.gone.set i true) l s.shows=some (.inl (b.tracks,b.packets,sp,((i+1:Nat):Int),s.wall,s.clock,(thr b sp (setG s i) i).busy,dues b,s.gone.set i true,(thr b sp (setG s i) i).drop,(thr b sp (setG s i) i).shows)):=by
  intro busy l hl hbusy
  subst hl hbusy
  dsimp only [m_Ii_47]
  rw [rd_nat hr hsp false h1.1 (by rw [d2_len hr hsp];simp only [setG];omega)]
  simp only [Option.bind_some]
  rw [ck_eq (by simp;omega)]
  simp only [Option.bind_some,m_Ii_49]
  rw [w64_succ (by omega)]
  rfl
 have e41:∀ (l:List Bool),l=drop2 b sp (setG s i) i→∀ c:Int,
   m_Ii_41 i (c,(⟨b,sp,dues b,s.gone.set i true,i,drop1 b s i,s.wall,s.clock,s.busy,s.shows⟩:Zh)) (pkAt b i) l=some (.inl (b.tracks,b.packets,sp,((i+1:Nat):Int),s.wall,s.clock,(thr b sp (setG s i) i).busy,dues b,s.gone.set i true,(thr b sp (setG s i) i).drop,(thr b sp (setG s i) i).shows)):=by
  intro l hl c
  subst hl
  dsimp only [m_Ii_41]
  rw [rd_nat hr hsp false h1.1 (by rw [d2_len hr hsp];simp only [setG];omega)]
  simp only [Option.bind_some]
  rw [hh]
  cases hq:(drop2 b sp (setG s i) i).getD (trF b i) false with
  | true=>exact e47 _ _ rfl (by rw [hq];rfl)
  | false=>
   rw [if_neg (by simp),impl_done hr hsp _ rfl rfl hi]
   exact e47 _ _ rfl (by rw [hq];rfl)
 have e38:∀ (l:Bool),l=lateF b sp s i→∀ c:Int,
   m_Ii_38 i (c,(⟨b,sp,dues b,s.gone.set i true,i,drop1 b s i,s.wall,s.clock,s.busy,s.shows⟩:Zh)) (pkAt b i) l=some (.inl (b.tracks,b.packets,sp,((i+1:Nat):Int),s.wall,s.clock,(thr b sp (setG s i) i).busy,dues b,s.gone.set i true,(thr b sp (setG s i) i).drop,(thr b sp (setG s i) i).shows)):=by
  intro l hl c
  subst hl
  dsimp only [m_Ii_38]
  have hl2:lateF b sp (setG s i) i=lateF b sp s i:=rfl
  have hd2:drop1 b (setG s i) i=drop1 b s i:=rfl
  cases hq:lateF b sp s i with
  | true=>
   rw [if_pos rfl,rd_nat hr hsp false h1.1 (by rw [d1_len hr hsp];omega)]
   simp only [Option.bind_some]
   exact e41 _ (by unfold drop2;rw [hl2,hq,Nat.zero_add,hh];rfl) c
  | false=>
   rw [if_neg (by simp)]
   exact e41 _ (by unfold drop2;rw [hl2,hq];rfl) c
 have e31:m_Ii_31 i b.tracks b.packets sp s.wall s.clock s.busy (pkAt b i) (dues b) s.shows (s.gone.set i true) (drop1 b s i)=some (.inl (b.tracks,b.packets,sp,((i+1:Nat):Int),s.wall,s.clock,(thr b sp (setG s i) i).busy,dues b,s.gone.set i true,(thr b sp (setG s i) i).drop,(thr b sp (setG s i) i).shows)):=by
  dsimp only [m_Ii_31]
  rw [r]
  simp only [Option.bind_some]
  rw [impl_done hr hsp _ rfl rfl hi]
  simp only [Option.bind_some]
  have hdn:w64 (mxI s.wall s.busy+Int.tdiv ((pkAt b i).data.length:Int) sp+1)=doneF b sp s i:=rfl
  rw [hdn,hk]
  by_cases hlate:doneF b sp s i > w64 (s.wall+100)
  ·rw [if_pos (by simpa using hlate)]
   cases hkey:(pkAt b i).key with
   | true=>rw [if_pos rfl];exact e38 _ (by simp [lateF,hkey]) _
   | false=>
    rw [if_neg (by simp)]
    by_cases k3:kindF b i=3
    ·rw [if_pos (by simpa using k3)]
     exact e38 _ (by simp [lateF,hkey,k3];omega) _
    ·rw [if_neg (by simpa using k3)]
     have:lateF b sp s i=(kindF b i == 4):=by
      simp only [lateF,hkey,k3,hlate,decide_false,decide_true,Bool.false_or,Bool.not_false,Bool.and_true]
      by_cases k4:kindF b i=4
      ·simp [k4]
      ·simp [k4]
     exact e38 _ this.symm _
  ·rw [if_neg (by simpa using hlate)]
   exact e38 _ (by simp [lateF,hlate]) _
 cases hkey:(pkAt b i).key with
 | true=>
  rw [if_pos rfl,rd_nat hr hsp false h1.1 (by omega)]
  simp only [Option.bind_some]
  have:s.drop.set (Int.toNat (pkAt b i).track) false=drop1 b s i:=by unfold drop1;rw [hkey];rfl
  rw [this]
  exact e31
 | false=>
  rw [if_neg (by simp)]
  have:s.drop=drop1 b s i:=by unfold drop1;rw [hkey];rfl
  have e31':=e31
  rw [←this] at e31'
  exact e31'
theorem stp_keep (s:PS) (i:Nat):(stp b sp s i).wall=s.wall∧(stp b sp s i).clock=s.clock:=by
 unfold stp;split
 ·exact ⟨rfl,rfl⟩
 ·split <;> exact ⟨rfl,rfl⟩
theorem getD_set (l:List Bool) (i j:Nat) (h:l.getD j false=true):(l.set i true).getD j false=true:=by
 rw [List.getD_eq_getElem?_getD] at h ⊢
 rw [List.getElem?_set]
 by_cases hij:i=j
 ·subst hij
  by_cases hl:i < l.length
  ·simp [hl]
  ·rw [List.getElem?_eq_none (by omega)] at h;simp at h
 ·rw [if_neg hij];exact h
theorem impl_show_loop {C:Nat} : ∀ (d i:Nat) (s:PS),i+d=b.packets.length→InvP b C s→(∀ j,j < i→s.gone.getD j false=true)→
  ∃ nx:Nat,nx≤b.packets.length∧loopM lp_Ii_2 (b.tracks,b.packets,sp,(i:Int),s.wall,s.clock,s.busy,dues b,s.gone,s.drop,s.shows)=some (imP b sp ((List.range' i d).foldl (stp b sp) s) nx)
   ∧∀ j,j < nx→((List.range' i d).foldl (stp b sp) s).gone.getD j false=true:=by
 have hr:=good_right hgood
 have hnp:=hr.np
 intro d
 induction d with
 | zero=>
  intro i s hi hI hgone
  refine ⟨i,by omega,?_,hgone⟩
  rw [loopM_eq]
  dsimp only [lp_Ii_2,m_Ii_2]
  rw [if_neg (by rw [dues_len hr];simp;omega)]
  rfl
 | succ d ih=>
  intro i s hi hI hgone
  have hlt:i < b.packets.length:=by omega
  have hg:=hI.g
  rw [List.range'_succ,List.foldl_cons]
  cases hq:s.gone.getD i false with
  | true=>
   have hst:stp b sp s i=s:=stp_id hr hsp (.inl hq)
   rw [hst,loopM_eq]
   dsimp only [lp_Ii_2,m_Ii_2]
   rw [if_pos (by rw [dues_len hr];simpa using hlt),rd_d false (by omega)]
   simp only [Option.bind_some]
   rw [hq,if_pos rfl]
   dsimp only [m_Ii_49]
   rw [w64_succ (by omega)]
   exact ih (i+1) s (by omega) hI (fun j hj=>by
    by_cases hji:j=i
    ·subst hji;exact hq
    ·exact hgone j (by omega))
  | false=>
   by_cases hdue:dueF b i≤s.clock
   ·have hst:stp b sp s i=thr b sp (setG s i) i:=by unfold stp;rw [hq,if_neg (by simp),if_pos hdue]
    have h1:=impl_thr hgood hsp s hI hlt hq hdue
    rw [loopM_eq]
    dsimp only [lp_Ii_2]
    rw [h1,hst]
    obtain ⟨i1,i2⟩ :=inv_setG hr hsp hI hlt hq
    exact ih (i+1) (thr b sp (setG s i) i) (by omega) (inv_thr hr hsp i1 i i2) (fun j hj=>by
     show (s.gone.set i true).getD j false=true
     by_cases hji:j=i
     ·subst hji
      rw [List.getD_eq_getElem?_getD,List.getElem?_set_self (by omega)];rfl
     ·exact getD_set hgood hsp _ _ _ (hgone j (by omega)))
   ·have hst:stp b sp s i=s:=stp_id hr hsp (.inr (by omega))
    have hall:(List.range' (i+1) d).foldl (stp b sp) s=s:=fold_id hr hsp (fun j hj=>by
     rw [List.mem_range'_1] at hj
     have:=due_mono hgood (i:=i) (j:=j) (by omega) (by omega)
     exact .inr (by omega))
    rw [hst,hall]
    refine ⟨i,by omega,?_,hgone⟩
    rw [loopM_eq]
    dsimp only [lp_Ii_2,m_Ii_2]
    rw [if_pos (by rw [dues_len hr];simpa using hlt),rd_d false (by omega)]
    simp only [Option.bind_some]
    rw [hq,if_neg (by simp),rd_due hr hlt]
    simp only [Option.bind_some]
    rw [if_pos (by simp;omega)]
    rfl
theorem impl_tick {C:Nat} (s:PS) (hI:InvP b C s) (pace:Int) (nx:Nat) (hnx:nx≤b.packets.length) (hgone:∀ j,j < nx→s.gone.getD j false=true) :
  ∃ nx' : Nat,nx'≤b.packets.length∧m_Ii (imP b sp (onF s pace) nx)=some (imP b sp (tkF b sp pace s) nx')∧∀ j,j < nx'→(tkF b sp pace s).gone.getD j false=true:=by
 have hr:=good_right hgood
 have hsplit:tkF b sp pace s=(List.range' nx (b.packets.length - nx)).foldl (stp b sp) (onF s pace):=by
  unfold tkF tickF
  rw [List.range_eq_range',show b.packets.length=nx+(b.packets.length - nx) by omega,←List.range'_append_1,List.foldl_append,fold_id hr hsp (l:=List.range' 0 nx) (fun j hj=>.inl (by
   rw [List.mem_range'_1] at hj;exact hgone j (by omega)))]
  simp
 obtain ⟨n2,h1,h2,h3⟩ :=impl_show_loop hgood hsp (b.packets.length - nx) nx (onF s pace) (by omega) (inv_on hr hsp hI pace) hgone
 refine ⟨n2,h1,?_,?_⟩
 ·dsimp only [m_Ii,m_Ii_0,imP]
  rw [h2,hsplit]
  rfl
 ·rw [hsplit];exact h3
end
end Go.Proofs.V

namespace Go.Proofs.V
open Go
theorem filled {α τ ε:Type} {n:Nat} {v:α} {b:τ→Option (τ⊕ε)} (mk:Nat→List α→τ) (e:List α→ε)
  (step:∀ (i:Nat) (l:List α),i < n→l.length=n→b (mk i l)=some (.inl (mk (i+1) (l.set i v)))) (done:∀ l:List α,l.length=n→b (mk n l)=some (.inr (e l)))
  (l0:List α) (h0:l0.length=n):loopM b (mk 0 l0)=some (e (List.replicate n v)):=by
 obtain ⟨r,h1,h2⟩ :=loopM_inv (b:=b) mk n (fun i (l:List α)=>l.length=n∧∀ j,j < i→l[j]? = some v) (fun r=>r=e (List.replicate n v)) (fun i l hi hI=>.inl ⟨l.set i v,step i l hi hI.1,by simpa using hI.1,fun j hj=>by
   rw [List.getElem?_set]
   by_cases hij:i=j
   ·subst hij;rw [if_pos rfl,if_pos (by omega)]
   ·rw [if_neg hij];exact hI.2 j (by omega)⟩) (fun l hI=>⟨_,done l hI.1,by
   congr 1
   apply List.ext_getElem?
   intro j
   rw [List.getElem?_replicate]
   by_cases hj:j < n
   ·rw [if_pos hj];exact hI.2 j hj
   ·rw [if_neg hj];exact List.getElem?_eq_none (by omega)⟩) (s:=l0) ⟨h0,fun j hj=>absurd hj (by omega)⟩
 rw [h1,h2]
def tickN (b:Ze) (sp pace:Int):Nat→PS→PS
 | 0,s=>s
 | k+1,s=>tkF b sp pace (tickN b sp pace k s)
abbrev spT (b:Ze) (sp:Int) (s:PS) (pace:Int) (pl:Bool) (soon:Int):List Za×List Zb×Int×Int×Int×Int×Bool×Int×Int×Int×List Int×List Bool×List Bool×List Zf:=
 (b.tracks,b.packets,sp,s.wall,s.clock,pace,pl,s.busy,0,soon,dues b,s.gone,s.drop,s.shows)
abbrev imT (b:Ze) (sp:Int) (s:PS) (nx:Int):List Za×List Zb×Int×Int×Int×Int×Int×List Int×List Bool×List Bool×List Zf:=
 (b.tracks,b.packets,sp,nx,s.wall,s.clock,s.busy,dues b,s.gone,s.drop,s.shows)
def GoneTo (s:PS) (nx:Nat):Prop:=∀ j,j < nx→s.gone.getD j false=true
section
variable {b:Ze} (hgood:goodOk b=true) {sp:Int} (hsp:1≤sp)
include hgood hsp
theorem spec_wait_on {C:Nat} (p2:List Zc) (i0:Int) (x:Zc) (v:Nat) (hx:x.value=v) (hv:v≤100000) (s:PS) (hI:InvP b C s) (pace soon:Int) (hs:SoonOk b s.gone b.packets.length soon) :
  ∃ soon',loopM (lp_Sd_92 p2 i0 x) (0,spT b sp s pace true soon)=some (spT b sp (tickN b sp pace v s) pace true soon')∧InvP b C (tickN b sp pace v s)∧SoonOk b (tickN b sp pace v s).gone b.packets.length soon':=by
 have hr:=good_right hgood
 obtain ⟨e,h1,so,h2,h3,h4⟩ :=loopM_inv (b:=lp_Sd_92 p2 i0 x) (fun i (y:PS×Int)=>((i:Int),spT b sp y.1 pace true y.2)) v
  (fun i y=>y.1=tickN b sp pace i s∧InvP b C y.1∧SoonOk b y.1.gone b.packets.length y.2)
  (fun e=>∃ so,e=spT b sp (tickN b sp pace v s) pace true so∧InvP b C (tickN b sp pace v s)∧SoonOk b (tickN b sp pace v s).gone b.packets.length so)
  (fun i y hi hJ=>.inl (by
   obtain ⟨s',so⟩ :=y
   obtain ⟨j1,j2,j3⟩ :=hJ
   obtain ⟨so',k1,k2⟩ :=spec_tick hr hsp s' j2 pace so j3
   refine ⟨(tkF b sp pace s',so'),?_,?_,inv_tick hr hsp (inv_on hr hsp j2 pace),k2⟩
   ·dsimp only [lp_Sd_92,m_Sd_92,spT]
    rw [if_pos (by rw [hx];simpa using hi)]
    simp only [spP] at k1
    rw [k1]
    simp only [Option.bind_some]
    rw [w64_succ (by omega)]
   ·show tkF b sp pace s' = tkF b sp pace (tickN b sp pace i s)
    rw [←j1]))
  (fun y hJ=>by
   obtain ⟨s',so⟩ :=y
   obtain ⟨j1,j2,j3⟩ :=hJ
   refine ⟨_,?_,so,rfl,by rw [←j1];exact j2,by rw [←j1];exact j3⟩
   dsimp only [lp_Sd_92,m_Sd_92,spT]
   rw [if_neg (by rw [hx];simp)]
   simp only at j1
   rw [j1]) (s:=(s,soon)) ⟨rfl,hI,hs⟩
 exact ⟨so,by rw [←h2];exact h1,h3,h4⟩
theorem spec_wait_off {C:Nat} (p2:List Zc) (i0:Int) (x:Zc) (v:Nat) (hx:x.value=v) (hv:v≤100000) (s:PS) (hI:InvP b C s) (pace soon:Int) :
  loopM (lp_Sd_92 p2 i0 x) (0,spT b sp s pace false soon)=some (spT b sp { s with wall:=w64 (s.wall+v) } pace false soon):=by
 have h:=loopM_fun (b:=lp_Sd_92 p2 i0 x) (fun i (w:Int)=>((i:Int),spT b sp { s with wall:=w } pace false soon)) v (fun i=>w64 (s.wall+(i:Nat)))
  (e:=spT b sp { s with wall:=w64 (s.wall+v) } pace false soon) (fun i hi=>by
   dsimp only [lp_Sd_92,m_Sd_92,spT,m_Su,m_Su_0]
   rw [if_pos (by rw [hx];simpa using hi),if_neg (by simp)]
   simp only [Option.bind_some]
   rw [w64_succ (by omega),w64_a,show s.wall+(i:Int)+1=s.wall+((i+1:Nat):Int) by omega]) (by
   dsimp only [lp_Sd_92,m_Sd_92,spT]
   rw [if_neg (by rw [hx];simp)])
 have hw:w64 (s.wall+((0:Nat):Int))=s.wall:=by rw [show s.wall+((0:Nat):Int)=s.wall by omega];exact hI.w
 rw [hw] at h
 exact h
theorem impl_wait_on {C:Nat} (p2:List Zc) (i0:Int) (x:Zc) (v:Nat) (hx:x.value=v) (hv:v≤100000) (s:PS) (hI:InvP b C s) (pace:Int) (nx:Nat) (hn:nx≤b.packets.length) (hg:GoneTo s nx) :
  ∃ nx' : Nat,nx'≤b.packets.length∧loopM (lp_Ib_105 pace true p2 i0 x) (0,imT b sp s nx)=some (pace,true,imT b sp (tickN b sp pace v s) nx')∧GoneTo (tickN b sp pace v s) nx':=by
 have hr:=good_right hgood
 obtain ⟨e,h1,n2,h2,h3,h4⟩ :=loopM_inv (b:=lp_Ib_105 pace true p2 i0 x) (fun i (y:PS×Nat)=>((i:Int),imT b sp y.1 y.2)) v
  (fun i y=>y.1=tickN b sp pace i s∧InvP b C y.1∧y.2≤b.packets.length∧GoneTo y.1 y.2)
  (fun e=>∃ n2:Nat,e=(pace,true,imT b sp (tickN b sp pace v s) n2)∧n2≤b.packets.length∧GoneTo (tickN b sp pace v s) n2)
  (fun i y hi hJ=>.inl (by
   obtain ⟨s',n1⟩ :=y
   obtain ⟨j1,j2,j3,j4⟩ :=hJ
   obtain ⟨n2,k0,k1,k2⟩ :=impl_tick hgood hsp s' j2 pace n1 j3 j4
   refine ⟨(tkF b sp pace s',n2),?_,?_,inv_tick hr hsp (inv_on hr hsp j2 pace),k0,k2⟩
   ·dsimp only [lp_Ib_105,m_Ib_105,imT]
    rw [if_pos (by rw [hx];simpa using hi)]
    simp only [imP,onF] at k1
    rw [k1]
    simp only [Option.bind_some]
    rw [w64_succ (by omega)]
   ·show tkF b sp pace s' = tkF b sp pace (tickN b sp pace i s)
    rw [←j1]))
  (fun y hJ=>by
   obtain ⟨s',n1⟩ :=y
   obtain ⟨j1,j2,j3,j4⟩ :=hJ
   refine ⟨_,?_,n1,rfl,j3,by rw [←j1];exact j4⟩
   dsimp only [lp_Ib_105,m_Ib_105,imT]
   rw [if_neg (by rw [hx];simp)]
   simp only at j1
   rw [j1]) (s:=(s,nx)) ⟨rfl,hI,hn,hg⟩
 exact ⟨n2,h3,by rw [←h2];exact h1,h4⟩
end
def upd (b:Ze) (ck v0:Int) (t i:Nat) (v:Int):Int:=if trF b i=t∧((ck < dueF b i∧v=v0)∨(dueF b i≤ck∧(pkAt b i).key=true)) then i else v
def FF (b:Ze) (ck v0:Int) (t:Nat):Nat→Int
 | 0=>v0
 | i+1=>upd b ck v0 t i (FF b ck v0 t i)
theorem FF_rel (b:Ze) (ck:Int) (N:Nat) (t:Nat):∀ i,i≤N→(FF b ck N t i=N∧FF b ck (-1) t i = -1)∨(FF b ck N t i=FF b ck (-1) t i∧0≤FF b ck (-1) t i∧FF b ck (-1) t i < N)
 | 0,_=>.inl ⟨rfl,rfl⟩
 | i+1,h=>by
  have ih:=FF_rel b ck N t i (by omega)
  simp only [FF,upd]
  by_cases h1:trF b i=t
  ·by_cases h2:dueF b i≤ck
   ·have h3 : ¬ ck < dueF b i:=by omega
    by_cases h4:(pkAt b i).key=true
    ·rw [if_pos ⟨h1,.inr ⟨h2,h4⟩⟩,if_pos ⟨h1,.inr ⟨h2,h4⟩⟩]
     exact .inr ⟨rfl,by omega,by omega⟩
    ·rw [if_neg (by simp [h1,h2,h3,h4]),if_neg (by simp [h1,h2,h3,h4])]
     exact ih
   ·have h3:ck < dueF b i:=by omega
    rcases ih with ⟨e1,e2⟩ | ⟨e1,e2,e3⟩
    ·rw [if_pos ⟨h1,.inl ⟨h3,e1⟩⟩,if_pos ⟨h1,.inl ⟨h3,e2⟩⟩]
     exact .inr ⟨rfl,by omega,by omega⟩
    ·rw [if_neg (fun hh=>by rcases hh.2 with hh | hh <;> omega),if_neg (fun hh=>by rcases hh.2 with hh | hh <;> omega)]
     exact .inr ⟨e1,e2,e3⟩
  ·rw [if_neg (fun hh=>h1 hh.1),if_neg (fun hh=>h1 hh.1)]
   exact ih
theorem FF_up (b:Ze) (ck:Int) (t i:Nat):∀ k,0≤FF b ck (-1) t i→0≤FF b ck (-1) t (i+k)
 | 0,h=>h
 | k+1,h=>by
  have ih:=FF_up b ck t i k h
  show 0≤upd b ck (-1) t (i+k) _
  unfold upd
  split
  ·omega
  ·exact ih
theorem FF_key (b:Ze) (ck:Int) {t j:Nat} (h1:trF b j=t) (h2:(pkAt b j).key=true):0≤FF b ck (-1) t (j+1):=by
 simp only [FF,upd]
 by_cases h3:dueF b j≤ck
 ·rw [if_pos ⟨h1,.inr ⟨h3,h2⟩⟩];omega
 ·rcases FF_rel b ck (j+1) t j (by omega) with ⟨_,e⟩ | ⟨_,e,_⟩
  ·rw [if_pos ⟨h1,.inl ⟨by omega,e⟩⟩];omega
  ·split
   ·omega
   ·exact e
theorem pkAll_key (nt:Nat):∀ (l:List Zb) (last:List Int) (s n:Nat),last.length=nt→pkAll nt l last s=some n→∀ (i:Nat) (h:i < l.length),0≤last.getD l[i].track.toNat 0∨∃ (j:Nat) (h' : j < l.length),j≤i∧l[j].track.toNat=l[i].track.toNat∧l[j].key=true
 | [],last,s,n,hl,h,i,hi=>by simp at hi
 | p::ps,last,s,n,hl,h,i,hi=>by
  simp only [pkAll] at h
  split at h
  ·rename_i hok
   simp only [pkOk,ticksOk,Bool.and_eq_true,decide_eq_true_eq,Bool.or_eq_true] at hok
   cases i with
   | zero=>
    rcases hok.2 with h1 | h1
    ·exact .inl h1
    ·exact .inr ⟨0,hi,Nat.le_refl _,rfl,h1⟩
   | succ i=>
    have hi' : i < ps.length:=by simpa using hi
    simp only [List.getElem_cons_succ]
    rcases pkAll_key nt ps (last.set p.track.toNat p.time) _ n (by simpa using hl) h i hi' with h1 | ⟨j,h',h1,h2,h3⟩
    ·by_cases he:p.track.toNat=ps[i].track.toNat
     ·rcases hok.2 with h4 | h4
      ·exact .inl (by rw [←he];exact h4)
      ·exact .inr ⟨0,by simp,by omega,he,h4⟩
     ·left
      rw [List.getD_eq_getElem?_getD,List.getElem?_set,if_neg he,←List.getD_eq_getElem?_getD] at h1
      exact h1
    ·exact .inr ⟨j+1,by simpa using h',by omega,by simpa using h2,by simpa using h3⟩
  ·simp at h
section
variable {b:Ze} (hr:RightF b)
include hr
theorem key_ahead {i:Nat} (hi:i < b.packets.length):∃ j,j≤i∧trF b j=trF b i∧(pkAt b j).key=true:=by
 obtain ⟨n,h1,_⟩ :=hr.sum
 have hg:∀ k (hk:k < b.packets.length),pkAt b k=b.packets[k]:=fun k hk=>by
  unfold pkAt;rw [List.getD_eq_getElem?_getD,List.getElem?_eq_getElem hk];rfl
 rcases pkAll_key _ _ _ _ _ (by simp) h1 i hi with h | ⟨j,h',h2,h3,h4⟩
 ·rw [List.getD_eq_getElem?_getD,List.getElem?_replicate] at h
  split at h <;> simp at h
  have:=(hr.pk hi).1
  rw [hg i hi] at this
  omega
 ·exact ⟨j,h2,by unfold trF;rw [hg i hi,hg j h'];exact h3,by rw [hg j h'];exact h4⟩
theorem FF_same (ck:Int) {i:Nat} (hi:i < b.packets.length):FF b ck b.packets.length (trF b i) b.packets.length=FF b ck (-1) (trF b i) b.packets.length:=by
 obtain ⟨j,h1,h2,h3⟩ :=key_ahead hr hi
 have h4:=FF_up b ck (trF b i) (j+1) (b.packets.length - (j+1)) (FF_key b ck h2 h3)
 rw [show j+1+(b.packets.length - (j+1))=b.packets.length by omega] at h4
 rcases FF_rel b ck b.packets.length (trF b i) b.packets.length (Nat.le_refl _) with ⟨_,e⟩ | ⟨e,_,_⟩
 ·omega
 ·exact e
end
end Go.Proofs.V

namespace Go.Proofs.V
open Go
def skF (b:Ze) (sp:Int) (s:PS) (i:Nat):PS:=
 { s with gone:=s.gone.set i (decide ((i:Int) < FF b s.clock (-1) (trF b i) b.packets.length)||decide (dueF b i < s.clock)),busy:=if !decide ((i:Int) < FF b s.clock (-1) (trF b i) b.packets.length)&&decide (dueF b i < s.clock) then doneF b sp s i else s.busy }
def atF (b:Ze) (s:PS) (ms:Int):PS:={ s with clock:=w64 (ms*1000),drop:=List.replicate b.tracks.length false }
def seekF (b:Ze) (sp:Int) (s:PS) (ms:Int):PS:=(List.range b.packets.length).foldl (skF b sp) (atF b s ms)
section
variable {b:Ze} (hr:RightF b) {sp:Int} (hsp:1≤sp)
include hr hsp
theorem tr_lt {i:Nat} (hi:i < b.packets.length):trF b i < b.tracks.length∧(pkAt b i).track=(trF b i:Int):=by
 have:=(hr.pk hi).1
 unfold trF
 omega
structure InvS (b:Ze) (C:Nat) (s:PS):Prop where
 g:s.gone.length=b.packets.length
 d:s.drop.length=b.tracks.length
 n:s.shows.length≤C
 c:C+b.packets.length≤1000000
 w:w64 s.wall=s.wall
theorem inv_sk {C:Nat} {s:PS} (h:InvS b C s) (i:Nat):InvS b C (skF b sp s i):=⟨by simpa [skF] using h.g,h.d,h.n,h.c,h.w⟩
theorem invS_P {C:Nat} {s:PS} (h:InvS b C s):InvP b (C+b.packets.length) s:=
 ⟨h.g,h.d,by have h1:=h.n;have h2:=h.g;have h3:=List.count_le_length (a:=false) (l:=s.gone);omega,h.c,h.w⟩
theorem inv_at {C:Nat} {s:PS} (h:InvP b C s) (hc:C+b.packets.length≤1000000) (ms:Int):InvS b C (atF b s ms):=⟨h.g,by simp [atF],by have:=h.n;show s.shows.length≤C;omega,hc,h.w⟩
theorem spec_first (p0:Zi) (hb:p0.b=b) (hd:p0.due=dues b) (ck:Int) :
  ∃ l:List Int,loopM (lp_Ss_26 p0 ck) (0,List.replicate b.tracks.length (b.packets.length:Int))=some l∧l.length=b.tracks.length∧∀ t,t < b.tracks.length→l.getD t 0=FF b ck b.packets.length t b.packets.length:=by
 have hnp:=hr.np
 refine loopM_inv (b:=lp_Ss_26 p0 ck) (fun i (l:List Int)=>((i:Int),l)) b.packets.length (fun i l=>l.length=b.tracks.length∧∀ t,t < b.tracks.length→l.getD t 0=FF b ck b.packets.length t i)
  (fun l=>l.length=b.tracks.length∧∀ t,t < b.tracks.length→l.getD t 0=FF b ck b.packets.length t b.packets.length) (fun i l hi hI=>.inl ?_) (fun l hI=>⟨l,?_,hI⟩) (s:=List.replicate b.tracks.length (b.packets.length:Int)) ⟨by simp,fun t ht=>by
   rw [List.getD_eq_getElem?_getD,List.getElem?_replicate,if_pos ht];rfl⟩
 ·obtain ⟨htr,etr⟩ :=tr_lt hr hsp hi
  obtain ⟨hl,hv⟩ :=hI
  have hn1:∀ t,t≠trF b i→FF b ck b.packets.length t (i+1)=FF b ck b.packets.length t i:=fun t ht=>by
   simp only [FF,upd];rw [if_neg (fun hh=>ht hh.1.symm)]
  have no:∀ hcond : ¬ ((ck < dueF b i∧FF b ck b.packets.length (trF b i) i=b.packets.length)∨(dueF b i≤ck∧(pkAt b i).key=true)),
    l.length=b.tracks.length∧∀ t,t < b.tracks.length→l.getD t 0=FF b ck b.packets.length t (i+1):=fun hcond=>⟨hl,fun t ht=>by
   by_cases he:t=trF b i
   ·subst he
    rw [hv _ ht];simp only [FF,upd];rw [if_neg (fun hh=>hcond hh.2)]
   ·rw [hn1 t he,hv t ht]⟩
  have yes:∀ hcond:((ck < dueF b i∧FF b ck b.packets.length (trF b i) i=b.packets.length)∨(dueF b i≤ck∧(pkAt b i).key=true)),
    (l.set (trF b i) (i:Int)).length=b.tracks.length∧∀ t,t < b.tracks.length→(l.set (trF b i) (i:Int)).getD t 0=FF b ck b.packets.length t (i+1):=fun hcond=>⟨by simpa using hl,fun t ht=>by
   by_cases he:t=trF b i
   ·subst he
    rw [List.getD_eq_getElem?_getD,List.getElem?_set_self (by omega)];simp only [FF,upd];rw [if_pos ⟨trivial,hcond⟩];rfl
   ·rw [hn1 t he,List.getD_eq_getElem?_getD,List.getElem?_set,if_neg (fun h=>he h.symm),←List.getD_eq_getElem?_getD,hv t ht]⟩
  have eno:m_Ss_38 i p0 ck (pkAt b i) l false=some (.inl (((i+1:Nat):Int),l)):=by
   dsimp only [m_Ss_38]
   rw [if_neg (by simp),w64_succ (by omega)]
  have eyes:m_Ss_38 i p0 ck (pkAt b i) l true=some (.inl (((i+1:Nat):Int),l.set (trF b i) (i:Int))):=by
   dsimp only [m_Ss_38]
   rw [if_pos rfl,etr,rd_d 0 (by omega)]
   simp only [Option.bind_some]
   rw [w64_succ (by omega),Nat.zero_add,Int.toNat_natCast]
  dsimp only [lp_Ss_26,m_Ss_26]
  rw [hb,hd,if_pos (by simpa using hi),rd_pk hi]
  simp only [Option.bind_some]
  rw [rd_due hr hi]
  simp only [Option.bind_some]
  by_cases h1:dueF b i > ck
  ·rw [if_pos (by simpa using h1)]
   have e1:rd l (pkAt b i).track=some (FF b ck b.packets.length (trF b i) i):=by rw [etr,rd_d 0 (by omega),hv _ htr]
   rw [e1]
   simp only [Option.bind_some]
   rw [dues_len hr]
   by_cases h2:FF b ck b.packets.length (trF b i) i=b.packets.length
   ·rw [if_pos (by rw [h2];simp),eyes]
    exact ⟨_,rfl,yes (.inl ⟨h1,h2⟩)⟩
   ·rw [if_neg (by simpa using h2),if_neg (by simp;omega),eno]
    exact ⟨_,rfl,no (fun hh=>hh.elim (fun hh=>by exact h2 hh.2) (fun hh=>by omega))⟩
  ·rw [if_neg (by simpa using h1),if_pos (by simp;omega)]
   cases hk:(pkAt b i).key with
   | true=>rw [eyes];exact ⟨_,rfl,yes (.inr ⟨by omega,hk⟩)⟩
   | false=>rw [eno];exact ⟨_,rfl,no (fun hh=>hh.elim (fun hh=>by omega) (fun hh=>by rw [hk] at hh;exact absurd hh.2 (by simp)))⟩
 ·dsimp only [lp_Ss_26,m_Ss_26]
  rw [hb,if_neg (by simp)]
theorem spec_seek_loop {C:Nat} (p0:Zi) (hb:p0.b=b) (fl:List Int) (hl:fl.length=b.tracks.length) (ck:Int) (hv:∀ t,t < b.tracks.length→fl.getD t 0=FF b ck b.packets.length t b.packets.length) (s:PS) (hI:InvS b C s) (hck:s.clock=ck) (pace:Int) (pl:Bool) (soon:Int) :
  loopM (lp_Ss_64 p0 fl) (0,spT b sp s pace pl soon)=some (spT b sp ((List.range b.packets.length).foldl (skF b sp) s) pace pl soon)∧InvS b C ((List.range b.packets.length).foldl (skF b sp) s)∧((List.range b.packets.length).foldl (skF b sp) s).clock=ck:=by
 have hnp:=hr.np
 refine fold_range (n:=b.packets.length) (σ:=PS) (fun s i=>((i:Int),spT b sp s pace pl soon)) (g:=skF b sp) (I:=fun i s=>InvS b C s∧s.clock=ck) (b:=lp_Ss_64 p0 fl)
  (e1:=fun s=>spT b sp s pace pl soon) (fun i s hi hJ=>⟨?_,inv_sk hr hsp hJ.1 i,hJ.2⟩) (fun s hJ=>?_) s ⟨hI,hck⟩
 ·obtain ⟨hJ,hc⟩ :=hJ
  obtain ⟨htr,etr⟩ :=tr_lt hr hsp hi
  have hg:=hJ.g
  have e1:rd fl (pkAt b i).track=some (FF b s.clock (-1) (trF b i) b.packets.length):=by rw [etr,rd_d 0 (by omega),hv _ htr,hc,FF_same hr ck hi]
  dsimp only [lp_Ss_64,m_Ss_64,spT]
  rw [hb,if_pos (by simpa using hi),rd_pk hi]
  simp only [Option.bind_some]
  rw [e1]
  simp only [Option.bind_some]
  unfold skF
  generalize hf:FF b s.clock (-1) (trF b i) b.packets.length=f at e1
  by_cases h1:(i:Int) < f
  ·rw [if_pos (by simpa using h1),rd_d false (by omega)]
   simp only [Option.bind_some,Nat.zero_add,Int.toNat_natCast,h1,decide_true,Bool.true_or,Bool.not_true,Bool.false_and]
   dsimp only [m_Ss_76]
   rw [e1]
   simp only [Option.bind_some]
   rw [if_neg (by simp;omega)]
   dsimp only [m_Ss_78]
   rw [if_neg (by simp),w64_succ (by omega)]
   rfl
  ·rw [if_neg (by simpa using h1),rd_due hr hi]
   simp only [Option.bind_some]
   rw [rd_d false (by omega)]
   simp only [Option.bind_some,Nat.zero_add,Int.toNat_natCast,h1,decide_false,Bool.false_or,Bool.not_false,Bool.true_and]
   dsimp only [m_Ss_76]
   rw [e1]
   simp only [Option.bind_some]
   rw [if_pos (by simp;omega),rd_due hr hi]
   simp only [Option.bind_some]
   dsimp only [m_Ss_78]
   by_cases h2:dueF b i < s.clock
   ·simp only [h2,decide_true,if_true]
    rw [spec_from hr hsp]
    simp only [Option.bind_some]
    rw [spec_cost hr hsp _ rfl rfl hi]
    simp only [Option.bind_some]
    rw [w64_succ (by omega),done_sp hr hsp]
    rfl
   ·simp only [h2,decide_false,Bool.false_eq_true,if_false]
    rw [w64_succ (by omega)]
 ·dsimp only [lp_Ss_64,m_Ss_64]
  rw [hb,if_neg (by simp)]
theorem spec_seek {C:Nat} (s:PS) (hI:InvP b C s) (hC:C+b.packets.length≤1000000) (pace:Int) (pl:Bool) (soon:Int) (ms:Int) :
  ∃ soon',m_Ss (spP b sp s pace pl soon) ms=some (spP b sp (seekF b sp s ms) pace pl soon')∧InvP b (C+b.packets.length) (seekF b sp s ms)∧SoonOk b (seekF b sp s ms).gone b.packets.length soon':=by
 have hnp:=hr.np
 have hnt:=hr.nt
 obtain ⟨l,h1,h2,h3⟩ :=spec_first hr hsp (spP b sp s pace pl soon) rfl rfl (w64 (ms*1000))
 obtain ⟨h4,h5,h6⟩ :=spec_seek_loop hr hsp (spP b sp s pace pl soon) rfl l h2 (w64 (ms*1000)) h3 (atF b s ms) (inv_at hr hsp hI hC ms) rfl pace pl soon
 obtain ⟨so,h7,h8⟩ :=spec_look hr hsp (seekF b sp s ms) h5.g pace pl soon
 refine ⟨so,?_,invS_P hr hsp h5,h8⟩
 dsimp only [m_Ss,m_Ss_0]
 have e0:(spP b sp s pace pl soon).b=b:=rfl
 rw [e0,ck_eq (by omega)]
 simp only [Option.bind_some,Int.toNat_natCast]
 have f1:=filled (n:=b.tracks.length) (v:=(b.packets.length:Int)) (b:=lp_Ss_9 (spP b sp s pace pl soon)) (fun i l=>((b.tracks.length:Int),(i:Int),w64 (ms*1000),l)) (fun l=>(w64 (ms*1000),l)) (fun i l hi hl=>by
  dsimp only [lp_Ss_9,m_Ss_9,spP]
  rw [if_pos (by simpa using hi),rd_d 0 (by omega)]
  simp only [Option.bind_some,Nat.zero_add,Int.toNat_natCast]
  rw [w64_succ (by omega),dues_len hr]) (fun l hl=>by
  dsimp only [lp_Ss_9,m_Ss_9,spP]
  rw [if_neg (by simp)]) (List.replicate b.tracks.length 0) (by simp)
 have f1' : loopM (lp_Ss_9 (spP b sp s pace pl soon)) ((b.tracks.length:Int),0,w64 (ms*1000),List.replicate b.tracks.length 0)=some (w64 (ms*1000),List.replicate b.tracks.length (b.packets.length:Int)):=f1
 rw [f1']
 simp only [Option.bind_some]
 dsimp only [m_Ss_21]
 rw [h1]
 simp only [Option.bind_some]
 dsimp only [m_Ss_42]
 have f2:=filled (n:=b.tracks.length) (v:=false) (b:=lp_Ss_47 (spP b sp s pace pl soon) (w64 (ms*1000)) l) (fun i l=>((i:Int),l)) (fun l=>l) (fun i l hi hl=>by
  dsimp only [lp_Ss_47,m_Ss_47,spP]
  rw [if_pos (by rw [hI.d];simpa using hi),rd_d false (by omega)]
  simp only [Option.bind_some,Nat.zero_add,Int.toNat_natCast]
  rw [w64_succ (by omega)]) (fun l hl=>by
  dsimp only [lp_Ss_47,m_Ss_47,spP]
  rw [if_neg (by rw [hI.d];simp)]) s.drop hI.d
 have f2' : loopM (lp_Ss_47 (spP b sp s pace pl soon) (w64 (ms*1000)) l) (0,(spP b sp s pace pl soon).drop)=some (List.replicate b.tracks.length false):=f2
 rw [f2']
 simp only [Option.bind_some]
 dsimp only [m_Ss_59]
 have h4' : loopM (lp_Ss_64 (spP b sp s pace pl soon) l) (0,(spP b sp s pace pl soon).b.tracks,(spP b sp s pace pl soon).b.packets,(spP b sp s pace pl soon).speed,(spP b sp s pace pl soon).wall,w64 (ms*1000),(spP b sp s pace pl soon).pace,(spP b sp s pace pl soon).playing,(spP b sp s pace pl soon).busy,(spP b sp s pace pl soon).left,(spP b sp s pace pl soon).soon,(spP b sp s pace pl soon).due,(spP b sp s pace pl soon).gone,List.replicate b.tracks.length false,(spP b sp s pace pl soon).shows)=some (spT b sp (seekF b sp s ms) pace pl soon):=h4
 rw [h4']
 simp only [Option.bind_some]
 dsimp only [m_Ss_82]
 have h7' : m_Sr (Zi.mk (Ze.mk b.tracks b.packets) (dues b) sp (seekF b sp s ms).wall (seekF b sp s ms).clock pace pl (seekF b sp s ms).busy (seekF b sp s ms).gone 0 soon (seekF b sp s ms).drop (seekF b sp s ms).shows)=some (spP b sp (seekF b sp s ms) pace pl so):=h7
 rw [h7']
 rfl
theorem impl_first (p0:Zh) (hb:p0.b=b) (hd:p0.due=dues b) (ck n9:Int) (t:Nat) (ht:t < b.tracks.length) (dl:List Bool) (l0:List Int) (hl0:l0.length=b.tracks.length) :
  ∃ l:List Int,loopM (lp_Ih_26 (t:Int) n9 p0 ck dl) (0,l0.set t (-1))=some l∧l.length=b.tracks.length∧l.getD t 0=FF b ck (-1) t b.packets.length∧∀ u,u≠t→l.getD u 0=l0.getD u 0:=by
 have hnp:=hr.np
 refine loopM_inv (b:=lp_Ih_26 (t:Int) n9 p0 ck dl) (fun i (l:List Int)=>((i:Int),l)) b.packets.length (fun i l=>l.length=b.tracks.length∧l.getD t 0=FF b ck (-1) t i∧∀ u,u≠t→l.getD u 0=l0.getD u 0)
  (fun l=>l.length=b.tracks.length∧l.getD t 0=FF b ck (-1) t b.packets.length∧∀ u,u≠t→l.getD u 0=l0.getD u 0) (fun i l hi hI=>.inl ?_) (fun l hI=>⟨l,?_,hI⟩) (s:=l0.set t (-1)) ⟨by simpa using hl0,by
   rw [List.getD_eq_getElem?_getD,List.getElem?_set_self (by omega)];rfl,fun u hu=>by
   rw [List.getD_eq_getElem?_getD,List.getElem?_set,if_neg (fun h=>hu h.symm),←List.getD_eq_getElem?_getD]⟩
 ·obtain ⟨htr,etr⟩ :=tr_lt hr hsp hi
  obtain ⟨hl,hv,hu⟩ :=hI
  have no:∀ hcond : ¬ (trF b i=t∧((ck < dueF b i∧FF b ck (-1) t i = -1)∨(dueF b i≤ck∧(pkAt b i).key=true))),
    l.length=b.tracks.length∧l.getD t 0=FF b ck (-1) t (i+1)∧∀ u,u≠t→l.getD u 0=l0.getD u 0:=fun hcond=>⟨hl,by rw [hv];simp only [FF,upd];rw [if_neg hcond],hu⟩
  have yes:∀ hcond:(trF b i=t∧((ck < dueF b i∧FF b ck (-1) t i = -1)∨(dueF b i≤ck∧(pkAt b i).key=true))),
    (l.set t (i:Int)).length=b.tracks.length∧(l.set t (i:Int)).getD t 0=FF b ck (-1) t (i+1)∧∀ u,u≠t→(l.set t (i:Int)).getD u 0=l0.getD u 0:=fun hcond=>⟨by simpa using hl,by
   rw [List.getD_eq_getElem?_getD,List.getElem?_set_self (by omega)];simp only [FF,upd];rw [if_pos hcond];rfl,fun u hne=>by
   rw [List.getD_eq_getElem?_getD,List.getElem?_set,if_neg (fun h=>hne h.symm),←List.getD_eq_getElem?_getD,hu u hne]⟩
  have eno:m_Ih_38 t i n9 p0 ck l dl false=some (.inl (((i+1:Nat):Int),l)):=by
   dsimp only [m_Ih_38]
   rw [if_neg (by simp),w64_succ (by omega)]
  have eyes:m_Ih_38 t i n9 p0 ck l dl true=some (.inl (((i+1:Nat):Int),l.set t (i:Int))):=by
   dsimp only [m_Ih_38]
   rw [if_pos rfl,rd_d 0 (by omega)]
   simp only [Option.bind_some]
   rw [w64_succ (by omega),Nat.zero_add,Int.toNat_natCast]
  have e1:rd l (t:Int)=some (FF b ck (-1) t i):=by rw [rd_d 0 (by omega),hv]
  have hneg:FF b ck (-1) t i < 0↔FF b ck (-1) t i = -1:=by
   rcases FF_rel b ck b.packets.length t i (by omega) with ⟨_,e⟩ | ⟨_,e,_⟩
   ·rw [e];omega
   ·omega
  dsimp only [lp_Ih_26,m_Ih_26]
  rw [hb,hd,if_pos (by simpa using hi),rd_pk hi]
  simp only [Option.bind_some]
  rw [etr]
  by_cases ht2:trF b i=t
  ·rw [if_pos (by rw [ht2];simp)]
   cases hk:(pkAt b i).key with
   | true=>
    rw [if_pos rfl,rd_due hr hi]
    simp only [Option.bind_some]
    by_cases h1:dueF b i≤ck
    ·rw [if_pos (by simpa using h1),eyes]
     exact ⟨_,rfl,yes ⟨ht2,.inr ⟨h1,hk⟩⟩⟩
    ·rw [if_neg (by simpa using h1),e1]
     simp only [Option.bind_some]
     by_cases h2:FF b ck (-1) t i < 0
     ·have h3:decide (dueF b i > ck)=true:=by simp;omega
      rw [if_pos (by simpa using h2),h3,eyes]
      exact ⟨_,rfl,yes ⟨ht2,.inl ⟨by omega,hneg.1 h2⟩⟩⟩
     ·rw [if_neg (by simpa using h2),eno]
      exact ⟨_,rfl,no (fun hh=>hh.2.elim (fun hh=>by exact h2 (hneg.2 hh.2)) (fun hh=>by exact h1 hh.1))⟩
   | false=>
    rw [if_neg (by simp),e1]
    simp only [Option.bind_some]
    by_cases h2:FF b ck (-1) t i < 0
    ·rw [if_pos (by simpa using h2),rd_due hr hi]
     simp only [Option.bind_some]
     by_cases h3:dueF b i > ck
     ·rw [show decide (dueF b i > ck)=true by simpa using h3,eyes]
      exact ⟨_,rfl,yes ⟨ht2,.inl ⟨by omega,hneg.1 h2⟩⟩⟩
     ·rw [show decide (dueF b i > ck)=false by simpa using h3,eno]
      exact ⟨_,rfl,no (fun hh=>hh.2.elim (fun hh=>by omega) (fun hh=>by rw [hk] at hh;exact absurd hh.2 (by simp)))⟩
    ·rw [if_neg (by simpa using h2),eno]
     exact ⟨_,rfl,no (fun hh=>hh.2.elim (fun hh=>by exact h2 (hneg.2 hh.2)) (fun hh=>by rw [hk] at hh;exact absurd hh.2 (by simp)))⟩
  ·rw [if_neg (by simp;omega),eno]
   exact ⟨_,rfl,no (fun hh=>ht2 hh.1)⟩
 ·dsimp only [lp_Ih_26,m_Ih_26]
  rw [hb,if_neg (by simp)]
theorem impl_firsts (p0:Zh) (hb:p0.b=b) (hd:p0.due=dues b) (ck:Int) (d0:List Bool) (hd0:d0.length=b.tracks.length) :
  ∃ l:List Int,loopM (lp_Ih_9 p0) ((b.tracks.length:Int),0,ck,List.replicate b.tracks.length 0,d0)=some (ck,l,List.replicate b.tracks.length false)∧l.length=b.tracks.length∧∀ t,t < b.tracks.length→l.getD t 0=FF b ck (-1) t b.packets.length:=by
 have hnt:=hr.nt
 obtain ⟨e,h1,l,h2,h3,h4⟩ :=loopM_inv (b:=lp_Ih_9 p0) (fun t (y:List Int×List Bool)=>((b.tracks.length:Int),(t:Int),ck,y.1,y.2)) b.tracks.length
  (fun t y=>y.1.length=b.tracks.length∧y.2.length=b.tracks.length∧∀ u,u < t→y.1.getD u 0=FF b ck (-1) u b.packets.length∧y.2[u]? = some false)
  (fun e=>∃ l:List Int,e=(ck,l,List.replicate b.tracks.length false)∧l.length=b.tracks.length∧∀ t,t < b.tracks.length→l.getD t 0=FF b ck (-1) t b.packets.length)
  (fun t y ht hI=>.inl (by
   obtain ⟨l,dl⟩ :=y
   obtain ⟨i1,i2,i3⟩ :=hI
   simp only at i1 i2 i3
   obtain ⟨l',k1,k2,k3,k4⟩ :=impl_first hr hsp p0 hb hd ck (b.tracks.length:Int) t ht dl l i1
   refine ⟨(l',dl.set t false),?_,k2,by simpa using i2,fun u hu=>?_⟩
   ·dsimp only [lp_Ih_9,m_Ih_9]
    rw [if_pos (by simpa using ht),rd_d 0 (by omega)]
    simp only [Option.bind_some,Nat.zero_add,Int.toNat_natCast]
    rw [k1]
    simp only [Option.bind_some]
    dsimp only [m_Ih_42]
    rw [rd_d false (by omega)]
    simp only [Option.bind_some,Nat.zero_add,Int.toNat_natCast]
    rw [w64_succ (by omega)]
   ·simp only
    by_cases he:u=t
    ·subst he
     exact ⟨k3,by rw [List.getElem?_set_self (by omega)]⟩
    ·obtain ⟨i4,i5⟩ :=i3 u (by omega)
     exact ⟨by rw [k4 u he,i4],by rw [List.getElem?_set,if_neg (fun h=>he h.symm)];exact i5⟩))
  (fun y hI=>by
   obtain ⟨l,dl⟩ :=y
   obtain ⟨i1,i2,i3⟩ :=hI
   simp only at i1 i2 i3
   have:dl=List.replicate b.tracks.length false:=by
    apply List.ext_getElem?
    intro j
    rw [List.getElem?_replicate]
    by_cases hj:j < b.tracks.length
    ·rw [if_pos hj];exact (i3 j hj).2
    ·rw [if_neg hj];exact List.getElem?_eq_none (by omega)
   refine ⟨_,?_,l,rfl,i1,fun t ht=>(i3 t ht).1⟩
   dsimp only [lp_Ih_9,m_Ih_9]
   rw [if_neg (by simp),this]) (s:=(List.replicate b.tracks.length 0,d0)) ⟨by simp,hd0,fun u hu=>absurd hu (by omega)⟩
 exact ⟨l,by rw [←h2];exact h1,h3,h4⟩
theorem impl_seek_loop {C:Nat} (p0:Zh) (hb:p0.b=b) (fl:List Int) (hl:fl.length=b.tracks.length) (ck:Int) (hv:∀ t,t < b.tracks.length→fl.getD t 0=FF b ck (-1) t b.packets.length) (s:PS) (hI:InvS b C s) (hck:s.clock=ck) (nx:Int) :
  loopM (lp_Ih_49 p0 fl) (0,imT b sp s nx)=some (imT b sp ((List.range b.packets.length).foldl (skF b sp) s) nx)∧InvS b C ((List.range b.packets.length).foldl (skF b sp) s)∧((List.range b.packets.length).foldl (skF b sp) s).clock=ck:=by
 have hnp:=hr.np
 refine fold_range (n:=b.packets.length) (σ:=PS) (fun s i=>((i:Int),imT b sp s nx)) (g:=skF b sp) (I:=fun i s=>InvS b C s∧s.clock=ck) (b:=lp_Ih_49 p0 fl)
  (e1:=fun s=>imT b sp s nx) (fun i s hi hJ=>⟨?_,inv_sk hr hsp hJ.1 i,hJ.2⟩) (fun s hJ=>?_) s ⟨hI,hck⟩
 ·obtain ⟨hJ,hc⟩ :=hJ
  obtain ⟨htr,etr⟩ :=tr_lt hr hsp hi
  have hg:=hJ.g
  have e1:rd fl (pkAt b i).track=some (FF b s.clock (-1) (trF b i) b.packets.length):=by rw [etr,rd_d 0 (by omega),hv _ htr,hc]
  dsimp only [lp_Ih_49,m_Ih_49,imT]
  rw [hb,if_pos (by simpa using hi),rd_pk hi]
  simp only [Option.bind_some]
  rw [e1]
  simp only [Option.bind_some]
  rw [rd_d false (by omega)]
  simp only [Option.bind_some,Nat.zero_add,Int.toNat_natCast]
  unfold skF
  generalize hf:FF b s.clock (-1) (trF b i) b.packets.length=f
  by_cases h1:(i:Int) < f
  ·rw [if_pos (by simpa using h1)]
   dsimp only [m_Ih_63]
   rw [if_neg (by simp),w64_succ (by omega)]
   simp only [h1,decide_true,Bool.true_or,Bool.not_true,Bool.false_and,Bool.false_eq_true,if_false]
  ·rw [if_neg (by simpa using h1),rd_due hr hi]
   simp only [Option.bind_some]
   dsimp only [m_Ih_63]
   simp only [h1,decide_false,Bool.false_or,Bool.not_false,Bool.true_and]
   by_cases h2:dueF b i < s.clock
   ·simp only [h2,decide_true,if_true]
    rw [rd_d false (by simp;omega)]
    simp only [Option.bind_some,Nat.zero_add,Int.toNat_natCast,List.set_set]
    rw [impl_done hr hsp _ rfl rfl hi]
    simp only [Option.bind_some]
    rw [w64_succ (by omega)]
    rfl
   ·simp only [h2,decide_false,Bool.false_eq_true,if_false]
    rw [w64_succ (by omega)]
 ·dsimp only [lp_Ih_49,m_Ih_49]
  rw [hb,if_neg (by simp)]
theorem impl_seek {C:Nat} (s:PS) (hI:InvP b C s) (hC:C+b.packets.length≤1000000) (nx ms:Int) :
  m_Ih (imP b sp s nx) ms=some (imP b sp (seekF b sp s ms) 0):=by
 have hnp:=hr.np
 have hnt:=hr.nt
 obtain ⟨l,h1,h2,h3⟩ :=impl_firsts hr hsp (imP b sp s nx) rfl rfl (w64 (ms*1000)) s.drop hI.d
 obtain ⟨h4,h5,h6⟩ :=impl_seek_loop hr hsp (imP b sp s nx) rfl l h2 (w64 (ms*1000)) h3 (atF b s ms) (inv_at hr hsp hI hC ms) rfl nx
 dsimp only [m_Ih,m_Ih_0]
 have e0:(imP b sp s nx).b=b:=rfl
 have e1:(imP b sp s nx).dropping=s.drop:=rfl
 rw [e0,e1,ck_eq (by omega),Int.mul_comm 1000 ms]
 simp only [Option.bind_some,Int.toNat_natCast]
 rw [h1]
 simp only [Option.bind_some]
 dsimp only [m_Ih_44]
 have h4' : loopM (lp_Ih_49 (imP b sp s nx) l) (0,(imP b sp s nx).b.tracks,(imP b sp s nx).b.packets,(imP b sp s nx).speed,(imP b sp s nx).next,(imP b sp s nx).wall,w64 (ms*1000),(imP b sp s nx).busy,(imP b sp s nx).due,(imP b sp s nx).gone,List.replicate b.tracks.length false,(imP b sp s nx).shows)=some (imT b sp (seekF b sp s ms) nx):=h4
 rw [h4']
 rfl
end
end Go.Proofs.V

namespace Go.Proofs.V
open Go
def actOk (a:Zc):Bool:=
 if a.kind == 1||a.kind == 2 then a.value == 0 else if a.kind == 3 then decide (0≤a.value)&&decide (a.value≤359999999) else if a.kind == 4 then decide (0≤a.value)&&decide (a.value≤100000)
 else if a.kind == 5 then decide (25≤a.value)&&decide (a.value≤400) else false
theorem act_12 (a:Zc):m_Sn_12 a false=some (if a.kind == 3 then decide (0≤a.value)&&decide (a.value≤359999999) else if a.kind == 4 then decide (0≤a.value)&&decide (a.value≤100000)
 else if a.kind == 5 then decide (25≤a.value)&&decide (a.value≤400) else false):=by
 unfold m_Sn_12
 simp only [Bool.false_eq_true,if_false]
 cases h3:(a.kind == 3) with
 | true=>simp only [if_true];by_cases h:0≤a.value <;> simp [h]
 | false=>
  simp only [Bool.false_eq_true,if_false]
  cases h4:(a.kind == 4) with
  | true=>simp only [if_true];by_cases h:0≤a.value <;> simp [h]
  | false=>
   simp only [Bool.false_eq_true,if_false]
   cases h5:(a.kind == 5) with
   | true=>simp only [if_true];by_cases h:25≤a.value <;> simp [h]
   | false=>simp only [Bool.false_eq_true,if_false]
theorem spec_act (a:Zc):m_Sn a=some (actOk a):=by
 unfold m_Sn m_Sn_0 actOk
 cases h1:(a.kind == 1) with
 | true=>rfl
 | false=>
  rw [if_neg (by simp)]
  cases h2:(a.kind == 2) with
  | true=>rfl
  | false=>
   rw [act_12]
   rfl
theorem impl_in (lo hi:Int) (a:Zc):m_Id lo hi a=some ((decide (lo≤a.value)&&decide (a.value≤hi)),a):=by
 simp only [m_Id,m_Id_0]
 by_cases h:lo≤a.value
 ·rw [if_pos (by simpa using h)];simp [h]
 ·rw [if_neg (by simpa using h)];simp [h]
theorem impl_act (a:Zc):m_Ic a=some (actOk a):=by
 have h14:∀ q,m_Ic_14 a q=m_Sn_12 a q:=by
  intro q
  cases q with
  | true=>rfl
  | false=>
   rw [act_12]
   simp only [m_Ic_14,impl_in,Option.bind_some,Bool.false_eq_true,if_false]
   cases h3:(a.kind == 3) with
   | true=>simp only [if_true]
   | false=>
    simp only [Bool.false_eq_true,if_false]
    cases h4:(a.kind == 4) with
    | true=>simp only [if_true]
    | false=>
     simp only [Bool.false_eq_true,if_false]
     cases h5:(a.kind == 5) with
     | true=>simp only [if_true]
     | false=>simp only [Bool.false_eq_true,if_false]
 have:=spec_act a
 unfold m_Sn m_Sn_0 at this
 unfold m_Ic m_Ic_0
 rw [h14,h14]
 exact this
structure PA where
 s:PS
 pace:Int
 pl:Bool
def actF (b:Ze) (sp:Int) (x:PA) (a:Zc):PA:=
 if a.kind=1 then { x with pl:=true } else if a.kind=2 then { x with pl:=false } else if a.kind=5 then { x with pace:=a.value }
 else if a.kind=3 then { x with s:=seekF b sp x.s a.value } else if x.pl then { x with s:=tickN b sp x.pace a.value.toNat x.s } else { x with s:={ x.s with wall:=w64 (x.s.wall+a.value) } }
section
variable {b:Ze} (hgood:goodOk b=true) {sp:Int} (hsp:1≤sp)
include hgood hsp
theorem invP_le {C D:Nat} {s:PS} (h:InvP b C s) (hCD:C≤D) (hD:D≤1000000):InvP b D s:=⟨h.g,h.d,by have:=h.n;omega,hD,h.w⟩
theorem spec_main {C:Nat} (p2:List Zc) (i:Nat) (hi:i < p2.length) (hn:p2.length≤500) (hok:actOk p2[i]=true) (x:PA) (hI:InvP b C x.s) (hC:C+b.packets.length≤1000000) (soon:Int) (hs:SoonOk b x.s.gone b.packets.length soon) :
  ∃ soon',lp_Sd_59 p2 ((i:Int),spT b sp x.s x.pace x.pl soon)=some (.inl (((i+1:Nat):Int),spT b sp (actF b sp x p2[i]).s (actF b sp x p2[i]).pace (actF b sp x p2[i]).pl soon'))
   ∧InvP b (C+b.packets.length) (actF b sp x p2[i]).s∧SoonOk b (actF b sp x p2[i]).s.gone b.packets.length soon':=by
 have hr:=good_right hgood
 have hup:=invP_le hgood hsp hI (Nat.le_add_right C b.packets.length) hC
 dsimp only [lp_Sd_59,m_Sd_59,spT]
 rw [if_pos (by simpa using hi),rd_eq hi]
 simp only [Option.bind_some]
 generalize p2[i]=a at hok
 unfold actF
 dsimp only [m_Sd_102]
 rw [w64_succ (by omega)]
 by_cases h1:a.kind=1
 ·rw [if_pos (by simpa using h1),if_pos h1]
  exact ⟨soon,rfl,hup,hs⟩
 ·rw [if_neg (by simpa using h1),if_neg h1]
  by_cases h2:a.kind=2
  ·rw [if_pos (by simpa using h2),if_pos h2]
   exact ⟨soon,rfl,hup,hs⟩
  ·rw [if_neg (by simpa using h2),if_neg h2]
   by_cases h5:a.kind=5
   ·rw [if_pos (by simpa using h5),if_pos h5]
    exact ⟨soon,rfl,hup,hs⟩
   ·rw [if_neg (by simpa using h5),if_neg h5]
    by_cases h3:a.kind=3
    ·rw [if_pos (by simpa using h3),if_pos h3]
     obtain ⟨so,k1,k2,k3⟩ :=spec_seek hr hsp x.s hI hC x.pace x.pl soon a.value
     simp only [spP] at k1
     rw [k1]
     exact ⟨so,rfl,k2,k3⟩
    ·rw [if_neg (by simpa using h3),if_neg h3]
     have hv:a.kind=4∧0≤a.value∧a.value≤100000:=by
      unfold actOk at hok
      rw [if_neg (by simp [h1,h2]),if_neg (by simpa using h3)] at hok
      by_cases h4:a.kind=4
      ·rw [if_pos (by simpa using h4)] at hok
       simpa [h4] using hok
      ·rw [if_neg (by simpa using h4),if_neg (by simpa using h5)] at hok
       simp at hok
     obtain ⟨v,hv4⟩:∃ v:Nat,a.value=v:=⟨a.value.toNat,by omega⟩
     obtain ⟨s,pace,pl⟩ :=x
     simp only at hI hup hs ⊢
     cases pl with
     | true=>
      obtain ⟨so,k1,k2,k3⟩ :=spec_wait_on hgood hsp p2 i a v hv4 (by omega) s hI pace soon hs
      have e:a.value.toNat=v:=by omega
      rw [k1,if_pos rfl,e]
      exact ⟨so,rfl,invP_le hgood hsp k2 (Nat.le_add_right _ _) hC,k3⟩
     | false=>
      have k1:=spec_wait_off hgood hsp p2 i a v hv4 (by omega) s hI pace soon
      rw [k1,if_neg (by simp),hv4]
      exact ⟨soon,rfl,⟨hup.g,hup.d,hup.n,hup.c,w64_w _⟩,hs⟩
theorem impl_main {C:Nat} (p2:List Zc) (i:Nat) (hi:i < p2.length) (hn:p2.length≤500) (hok:actOk p2[i]=true) (x:PA) (hI:InvP b C x.s) (hC:C+b.packets.length≤1000000) (nx:Nat) (hnx:nx≤b.packets.length) (hg:GoneTo x.s nx) :
  ∃ nx' : Nat,lp_Ib_61 p2 (x.pace,x.pl,(i:Int),imT b sp x.s nx)=some (.inl ((actF b sp x p2[i]).pace,(actF b sp x p2[i]).pl,((i+1:Nat):Int),imT b sp (actF b sp x p2[i]).s nx'))
   ∧nx'≤b.packets.length∧GoneTo (actF b sp x p2[i]).s nx':=by
 have hr:=good_right hgood
 dsimp only [lp_Ib_61,m_Ib_61,imT]
 rw [if_pos (by simpa using hi),rd_eq hi]
 simp only [Option.bind_some]
 generalize p2[i]=a at hok
 unfold actF
 dsimp only [m_Ib_80,m_Ib_120]
 rw [w64_succ (by omega)]
 by_cases h1:a.kind=1
 ·have e1:(a.kind == 1)=true:=by simpa using h1
  rw [e1,if_pos rfl,if_pos rfl,if_pos h1]
  exact ⟨nx,rfl,hnx,hg⟩
 ·have e1:(a.kind == 1)=false:=by simpa using h1
  rw [e1,if_neg (by simp),if_neg h1]
  by_cases h2:a.kind=2
  ·have e2:(a.kind == 2)=true:=by simpa using h2
   rw [e2,if_pos rfl,if_pos h2]
   exact ⟨nx,rfl,hnx,hg⟩
  ·have e2:(a.kind == 2)=false:=by simpa using h2
   rw [e2,if_neg (by simp),if_neg h2]
   by_cases h5:a.kind=5
   ·rw [if_pos (by simpa using h5),if_pos h5]
    exact ⟨nx,rfl,hnx,hg⟩
   ·rw [if_neg (by simpa using h5),if_neg h5]
    by_cases h3:a.kind=3
    ·rw [if_pos (by simpa using h3),if_pos h3]
     have k1:=impl_seek hr hsp x.s hI hC nx a.value
     simp only [imP] at k1
     rw [k1]
     exact ⟨0,rfl,Nat.zero_le _,fun j hj=>absurd hj (by omega)⟩
    ·rw [if_neg (by simpa using h3),if_neg h3]
     have hv:a.kind=4∧0≤a.value∧a.value≤100000:=by
      unfold actOk at hok
      rw [if_neg (by simp [h1,h2]),if_neg (by simpa using h3)] at hok
      by_cases h4:a.kind=4
      ·rw [if_pos (by simpa using h4)] at hok
       simpa [h4] using hok
      ·rw [if_neg (by simpa using h4),if_neg (by simpa using h5)] at hok
       simp at hok
     rw [if_pos (by simpa using hv.1)]
     obtain ⟨v,hv4⟩:∃ v:Nat,a.value=v:=⟨a.value.toNat,by omega⟩
     obtain ⟨s,pace,pl⟩ :=x
     simp only at hI hg ⊢
     cases pl with
     | true=>
      obtain ⟨n2,k0,k1,k2⟩ :=impl_wait_on hgood hsp p2 i a v hv4 (by omega) s hI pace nx hnx hg
      have e:a.value.toNat=v:=by omega
      rw [if_pos rfl,if_pos rfl,k1,e]
      exact ⟨n2,rfl,k0,k2⟩
     | false=>
      rw [if_neg (by simp),if_neg (by simp)]
      exact ⟨nx,rfl,hnx,hg⟩
def initF (b:Ze):PA:=⟨⟨0,0,0,List.replicate b.packets.length false,List.replicate b.tracks.length false,[]⟩,100,false⟩
def runF (b:Ze) (sp:Int) (l:List Zc):PA:=l.foldl (actF b sp) (initF b)
theorem inv_init:InvP b (400*1) (initF b).s:=by
 have hr:=good_right hgood
 have hnp:=hr.np
 refine ⟨by simp [initF],by simp [initF],?_,by omega,by simp [initF];exact w64_id (by omega) (by omega)⟩
 have:=List.count_le_length (a:=false) (l:=List.replicate b.packets.length false)
 simp only [List.length_replicate] at this
 show 0+(List.replicate b.packets.length false).count false≤400
 omega
theorem run_succ (p2:List Zc) (i:Nat) (hi:i < p2.length):runF b sp (p2.take (i+1))=actF b sp (runF b sp (p2.take i)) p2[i]:=by
 unfold runF
 rw [List.take_succ_eq_append_getElem hi,List.foldl_append]
 rfl
theorem spec_run (p2:List Zc) (hn:p2.length≤500) (hok:∀ a ∈ p2,actOk a=true) (soon:Int) (hs:SoonOk b (initF b).s.gone b.packets.length soon) :
  ∃ so,loopM (lp_Sd_59 p2) (0,spT b sp (initF b).s 100 false soon)=some (spT b sp (runF b sp p2).s (runF b sp p2).pace (runF b sp p2).pl so)∧InvP b (400*(p2.length+1)) (runF b sp p2).s:=by
 have hr:=good_right hgood
 have hnp:=hr.np
 obtain ⟨e,h1,so,h2,h3⟩ :=loopM_inv (b:=lp_Sd_59 p2) (fun i (y:PA×Int)=>((i:Int),spT b sp y.1.s y.1.pace y.1.pl y.2)) p2.length
  (fun i y=>y.1=runF b sp (p2.take i)∧InvP b (400*(i+1)) y.1.s∧SoonOk b y.1.s.gone b.packets.length y.2)
  (fun e=>∃ so,e=spT b sp (runF b sp p2).s (runF b sp p2).pace (runF b sp p2).pl so∧InvP b (400*(p2.length+1)) (runF b sp p2).s)
  (fun i y hi hJ=>.inl (by
   obtain ⟨x,so⟩ :=y
   obtain ⟨j1,j2,j3⟩ :=hJ
   obtain ⟨so',k1,k2,k3⟩ :=spec_main hgood hsp p2 i hi hn (hok _ (by simp)) x j2 (by omega) so j3
   exact ⟨(actF b sp x p2[i],so'),k1,by rw [run_succ hgood hsp p2 i hi,←j1],invP_le hgood hsp k2 (by omega) (by omega),k3⟩))
  (fun y hJ=>by
   obtain ⟨x,so⟩ :=y
   obtain ⟨j1,j2,j3⟩ :=hJ
   rw [List.take_length] at j1
   simp only at j1
   subst j1
   refine ⟨_,?_,so,rfl,j2⟩
   dsimp only [lp_Sd_59,m_Sd_59]
   rw [if_neg (by simp)]) (s:=(initF b,soon)) ⟨rfl,inv_init hgood hsp,hs⟩
 exact ⟨so,by rw [←h2];exact h1,h3⟩
theorem impl_run (p2:List Zc) (hn:p2.length≤500) (hok:∀ a ∈ p2,actOk a=true) :
  ∃ nx:Nat,loopM (lp_Ib_61 p2) (100,false,0,imT b sp (initF b).s 0)=some (imT b sp (runF b sp p2).s nx):=by
 have hr:=good_right hgood
 have hnp:=hr.np
 obtain ⟨e,h1,nx,h2⟩ :=loopM_inv (b:=lp_Ib_61 p2) (fun i (y:PA×Nat)=>(y.1.pace,y.1.pl,(i:Int),imT b sp y.1.s y.2)) p2.length
  (fun i y=>y.1=runF b sp (p2.take i)∧InvP b (400*(i+1)) y.1.s∧y.2≤b.packets.length∧GoneTo y.1.s y.2)
  (fun e=>∃ nx:Nat,e=imT b sp (runF b sp p2).s nx)
  (fun i y hi hJ=>.inl (by
   obtain ⟨x,nx⟩ :=y
   obtain ⟨j1,j2,j3,j4⟩ :=hJ
   obtain ⟨n2,k1,k2,k3⟩ :=impl_main hgood hsp p2 i hi hn (hok _ (by simp)) x j2 (by omega) nx j3 j4
   obtain ⟨so,_,hso⟩ :=spec_look hr hsp x.s j2.g 0 false 0
   obtain ⟨so',_,k5,_⟩ :=spec_main hgood hsp p2 i hi hn (hok _ (by simp)) x j2 (by omega) so hso
   exact ⟨(actF b sp x p2[i],n2),k1,by rw [run_succ hgood hsp p2 i hi,←j1],invP_le hgood hsp k5 (by omega) (by omega),k2,k3⟩))
  (fun y hJ=>by
   obtain ⟨x,nx⟩ :=y
   obtain ⟨j1,j2,j3,j4⟩ :=hJ
   rw [List.take_length] at j1
   simp only at j1
   subst j1
   refine ⟨_,?_,nx,rfl⟩
   dsimp only [lp_Ib_61,m_Ib_61]
   rw [if_neg (by simp)]) (s:=(initF b,0)) ⟨rfl,inv_init hgood hsp,Nat.zero_le _,fun j hj=>absurd hj (by omega)⟩
 exact ⟨nx,by rw [←h2];exact h1⟩
def playedF (b:Ze) (sp:Int) (p2:List Zc):Zg:=⟨0,(runF b sp p2).s.shows,(runF b sp p2).s.wall,w64 (Int.tdiv (runF b sp p2).s.clock 1000)⟩
theorem dues_spec (p2:List Zc):loopM (lp_Sd_40 p2 b sp) (0,([]:List Int),List.replicate b.packets.length false,List.replicate b.tracks.length false)=some (dues b,List.replicate b.packets.length false,List.replicate b.tracks.length false):=by
 have hr:=good_right hgood
 have hnp:=hr.np
 have h:=loopM_fun (b:=lp_Sd_40 p2 b sp) (fun i (l:List Int)=>((i:Int),l,List.replicate b.packets.length false,List.replicate b.tracks.length false)) b.packets.length (fun i=>(List.range i).map (dueF b))
  (e:=(dues b,List.replicate b.packets.length false,List.replicate b.tracks.length false)) (fun i hi=>by
   dsimp only [lp_Sd_40,m_Sd_40]
   rw [if_pos (by simpa using hi),spec_due hr hi]
   simp only [Option.bind_some]
   rw [ck_eq (by simp;omega)]
   simp only [Option.bind_some]
   rw [w64_succ (by omega),List.range_succ,List.map_append]
   rfl) (by
   dsimp only [lp_Sd_40,m_Sd_40]
   rw [if_neg (by simp)]
   rfl)
 exact h
theorem dues_impl (p2:List Zc):loopM (lp_Ib_42 p2 b sp) (0,([]:List Int),List.replicate b.packets.length false,List.replicate b.tracks.length false)=some (dues b,List.replicate b.packets.length false,List.replicate b.tracks.length false):=by
 have hr:=good_right hgood
 have hnp:=hr.np
 have h:=loopM_fun (b:=lp_Ib_42 p2 b sp) (fun i (l:List Int)=>((i:Int),l,List.replicate b.packets.length false,List.replicate b.tracks.length false)) b.packets.length (fun i=>(List.range i).map (dueF b))
  (e:=(dues b,List.replicate b.packets.length false,List.replicate b.tracks.length false)) (fun i hi=>by
   dsimp only [lp_Ib_42,m_Ib_42]
   rw [if_pos (by simpa using hi),impl_due hr hi]
   simp only [Option.bind_some]
   rw [ck_eq (by simp;omega)]
   simp only [Option.bind_some]
   rw [w64_succ (by omega),List.range_succ,List.map_append]
   rfl) (by
   dsimp only [lp_Ib_42,m_Ib_42]
   rw [if_neg (by simp)]
   rfl)
 exact h
theorem spec_33 (p2:List Zc) (hn:p2.length≤500) (hok:∀ a ∈ p2,actOk a=true):m_Sd_33 sp p2 b=some (playedF b sp p2):=by
 have hr:=good_right hgood
 have hnp:=hr.np
 have hnt:=hr.nt
 obtain ⟨so,l1,l2⟩ :=spec_look hr hsp (initF b).s (inv_init hgood hsp).g 100 false 0
 obtain ⟨so2,r1,r2⟩ :=spec_run hgood hsp p2 hn hok so l2
 dsimp only [m_Sd_33]
 rw [ck_eq (by omega)]
 simp only [Option.bind_some]
 rw [ck_eq (by omega)]
 simp only [Option.bind_some,Int.toNat_natCast]
 rw [dues_spec hgood hsp]
 simp only [Option.bind_some]
 dsimp only [m_Sd_52]
 have l1' : m_Sr (Zi.mk b (dues b) sp 0 0 100 false 0 (List.replicate b.packets.length false) 0 0 (List.replicate b.tracks.length false) [])=some (spP b sp (initF b).s 100 false so):=l1
 rw [l1']
 simp only [Option.bind_some]
 have r1' : loopM (lp_Sd_59 p2) (0,(spP b sp (initF b).s 100 false so).b.tracks,(spP b sp (initF b).s 100 false so).b.packets,(spP b sp (initF b).s 100 false so).speed,(spP b sp (initF b).s 100 false so).wall,(spP b sp (initF b).s 100 false so).clock,(spP b sp (initF b).s 100 false so).pace,(spP b sp (initF b).s 100 false so).playing,(spP b sp (initF b).s 100 false so).busy,(spP b sp (initF b).s 100 false so).left,(spP b sp (initF b).s 100 false so).soon,(spP b sp (initF b).s 100 false so).due,(spP b sp (initF b).s 100 false so).gone,(spP b sp (initF b).s 100 false so).drop,(spP b sp (initF b).s 100 false so).shows)=some (spT b sp (runF b sp p2).s (runF b sp p2).pace (runF b sp p2).pl so2):=r1
 rw [r1']
 rfl
theorem impl_33 (p2:List Zc) (hn:p2.length≤500) (hok:∀ a ∈ p2,actOk a=true):m_Ib_33 sp p2 b=some (playedF b sp p2):=by
 have hr:=good_right hgood
 have hnp:=hr.np
 have hnt:=hr.nt
 obtain ⟨nx,r1⟩ :=impl_run hgood hsp p2 hn hok
 dsimp only [m_Ib_33]
 rw [ck_eq (by omega)]
 simp only [Option.bind_some]
 rw [ck_eq (by omega)]
 simp only [Option.bind_some,Int.toNat_natCast]
 rw [dues_impl hgood hsp]
 simp only [Option.bind_some]
 dsimp only [m_Ib_54]
 have r1' : loopM (lp_Ib_61 p2) (100,false,0,b.tracks,b.packets,sp,0,0,0,0,dues b,List.replicate b.packets.length false,List.replicate b.tracks.length false,([]:List Zf))=some (imT b sp (runF b sp p2).s nx):=r1
 rw [r1']
 rfl
end
theorem core_RunPlayer (b:Ze) (sp:Int) (p2:List Zc) (hb:SmB b) (hp:p2.length≤1048576) :
  ∃ w:Zg,m_Sd b sp p2=some w∧m_Ib b sp p2=some w∧w.shows.length≤1048576:=by
 have bad:∃ w:Zg,m_Sd_5 sp p2 b true=some w∧m_Ib_5 sp p2 b true=some w∧w.shows.length≤1048576:=⟨⟨1,[],0,0⟩,rfl,rfl,by simp⟩
 simp only [m_Sd,m_Sd_0,m_Ib,m_Ib_0]
 rw [spec_good b hb,impl_good b hb]
 simp only [Option.bind_some]
 cases hg:goodOk b with
 | false=>exact bad
 | true=>
  simp only [if_true]
  cases hq1:decide (sp < 1) with
  | true=>simp only [if_true];exact bad
  | false=>
   have h1:=of_decide_eq_false hq1
   simp only [Bool.false_eq_true,if_false]
   cases hq2:decide (sp > 1000) with
   | true=>simp only [if_true];exact bad
   | false=>
    have h2:=of_decide_eq_false hq2
    simp only [Bool.false_eq_true,if_false]
    by_cases h3:(p2.length:Int) > 500
    ·rw [show decide ((p2.length:Int) > 500)=true by simpa using h3];exact bad
    ·rw [show decide ((p2.length:Int) > 500)=false by simpa using h3]
     have hs:=all_fold (l:=p2) (σ:=Unit) (fun _ i=>(i:Int)) (q:=actOk) (g:=fun _ _=>()) (I:=fun _ _=>True) (b:=lp_Sd_15 sp p2 b) (e0:=.inl (Zg.mk 1 ([]:List Zf) 0 0)) (e1:=fun _=>.inr ())
      (fun i s h _=>by
       have e:lp_Sd_15 sp p2 b (i:Int)=if actOk p2[i] then some (.inl (((i+1:Nat):Int))) else some (.inr (.inl (Zg.mk 1 ([]:List Zf) 0 0))):=by
        dsimp only [lp_Sd_15,m_Sd_15]
        rw [if_pos (by simpa using h),rd_eq h]
        simp only [Option.bind_some]
        rw [spec_act]
        simp only [Option.bind_some]
        rw [w64_succ (by omega)]
       exact ⟨fun hq=>⟨by rw [e,hq];rfl,trivial⟩,fun hq=>by rw [e,hq];rfl⟩)
      (fun _ _=>by dsimp only [lp_Sd_15,m_Sd_15];rw [if_neg (by simp)]) () trivial
     have hm:=all_fold (l:=p2) (σ:=Unit) (fun _ i=>(i:Int)) (q:=actOk) (g:=fun _ _=>()) (I:=fun _ _=>True) (b:=lp_Ib_15 sp p2 b) (e0:=.inl (Zg.mk 1 ([]:List Zf) 0 0)) (e1:=fun _=>.inr ())
      (fun i s h _=>by
       have e:lp_Ib_15 sp p2 b (i:Int)=if actOk p2[i] then some (.inl (((i+1:Nat):Int))) else some (.inr (.inl (Zg.mk 1 ([]:List Zf) 0 0))):=by
        dsimp only [lp_Ib_15,m_Ib_15]
        rw [if_pos (by simpa using h),rd_eq h]
        simp only [Option.bind_some]
        rw [impl_act]
        simp only [Option.bind_some]
        rw [w64_succ (by omega)]
       exact ⟨fun hq=>⟨by rw [e,hq];rfl,trivial⟩,fun hq=>by rw [e,hq];rfl⟩)
      (fun _ _=>by dsimp only [lp_Ib_15,m_Ib_15];rw [if_neg (by simp)]) () trivial
     have hs' : loopM (lp_Sd_15 sp p2 b) 0=some (bif p2.all actOk then .inr () else .inl (Zg.mk 1 ([]:List Zf) 0 0)):=hs
     have hm' : loopM (lp_Ib_15 sp p2 b) 0=some (bif p2.all actOk then .inr () else .inl (Zg.mk 1 ([]:List Zf) 0 0)):=hm
     dsimp only [m_Sd_5,m_Ib_5]
     rw [if_neg (by simp),if_neg (by simp),hs',hm']
     cases ha:p2.all actOk with
     | false=>exact ⟨⟨1,[],0,0⟩,rfl,rfl,by simp⟩
     | true=>
      simp only [cond_true,Option.bind_some]
      have hall:∀ a ∈ p2,actOk a=true:=by simpa [List.all_eq_true] using ha
      refine ⟨playedF b sp p2,spec_33 hg (by omega) p2 (by omega) hall,impl_33 hg (by omega) p2 (by omega) hall,?_⟩
      obtain ⟨so,_,l2⟩ :=spec_look (good_right hg) (sp:=sp) (by omega) (initF b).s (inv_init hg (sp:=sp) (by omega)).g 100 false 0
      obtain ⟨so2,_,r2⟩ :=spec_run hg (sp:=sp) (by omega) p2 (by omega) hall so l2
      have:=r2.n
      show (runF b sp p2).s.shows.length≤1048576
      omega
end Go.Proofs.V

namespace Go.Proofs.V
open Go
theorem u64_255 {x:Int} (h0:0≤x) (h1:x < 18446744073709551616):0≤andI .u64 x 255∧andI .u64 x 255≤255:=by
 unfold andI
 rw [show IntKind.wrap .u64 ((BitVec.ofInt IntKind.u64.bits x &&& BitVec.ofInt IntKind.u64.bits 255).toNat:Int)=wr .u64 ((BitVec.ofInt IntKind.u64.bits x &&& BitVec.ofInt IntKind.u64.bits 255).toNat:Int) from rfl,wu64_eq]
 have h2:(BitVec.ofInt IntKind.u64.bits x &&& BitVec.ofInt IntKind.u64.bits 255).toNat≤255:=by
  rw [BitVec.toNat_and]
  have:(BitVec.ofInt IntKind.u64.bits 255).toNat=255:=by decide
  rw [this]
  exact Nat.and_le_right
 omega
def CurAt (k:Nat) (c:List Int) (a:Int):Prop:=(∀ x ∈ c,0≤x∧x≤255)∧0≤a∧a≤k
theorem CurAt.le {k n:Nat} {c:List Int} {a:Int} (h:CurAt k c a) (hn:k≤n):CurAt n c a:=⟨h.1,h.2.1,by have:=h.2.2;omega⟩
def Drawn {α:Type} (o:Option (α×Zd)) (k:Nat) (P:α→Prop):Prop:=∃ v co a s,o=some (v,⟨co,a,s⟩)∧P v∧CurAt k co a
theorem wu64_lt (x:Int):0≤wr .u64 x∧wr .u64 x < 18446744073709551616:=by rw [wu64_eq];omega
theorem shr_lt {x:Int} (h:0≤x∧x < 18446744073709551616):0≤shrI .u64 x 40∧shrI .u64 x 40 < 18446744073709551616:=by
 unfold shrI
 have:(2:Int) ^ min (Int.toNat 40) IntKind.u64.bits=1099511627776:=by decide
 rw [this,Int.fdiv_eq_ediv_of_nonneg _ (by omega)]
 omega
theorem next_ok {k:Nat} {co:List Int} {a s:Int} (h:CurAt k co a) (hk:k < 1000000000000):Drawn (m_Sz ⟨co,a,s⟩) (k+1) fun v=>0≤v∧v≤255:=by
 have h1:=h.2.1
 have h2:=h.2.2
 have hw:w64 (a+1)=a+1:=w64_id (by omega) (by omega)
 have go:∀ x:Int,0≤x→x≤255→Drawn (m_Sz_10 ⟨co,a,s⟩ x) (k+1) fun v=>0≤v∧v≤255:=by
  intro x h0 h255
  dsimp only [m_Sz_10]
  rw [hw]
  split
  ·exact ⟨_,_,_,_,rfl,⟨h0,h255⟩,h.1,by omega,by omega⟩
  ·refine ⟨_,_,_,_,rfl,?_,h.1,by omega,by omega⟩
   have h3:=u64_255 (shr_lt (wu64_lt (wr .u64 (wr .u64 (s*6364136223846793005)+wr .u64 x)+1442695040888963407))).1 (shr_lt (wu64_lt _)).2
   dsimp only
   rw [w64_id (by omega) (by omega)]
   exact h3
 dsimp only [m_Sz,m_Sz_0]
 by_cases hq:a < (co.length:Int)
 ·rw [if_pos (by simpa using hq),rd_eq' (i:=a.toNat) (by omega) (by omega)]
  simp only [Option.bind_some]
  have h3:=h.1 co[a.toNat] (by simp)
  rw [w64_id (by omega) (by omega)]
  exact go _ h3.1 h3.2
 ·rw [if_neg (by simpa using hq)]
  exact go 0 (by omega) (by omega)
theorem pick_ok {k:Nat} {co:List Int} {a s:Int} (h:CurAt k co a) (hk:k < 1000000000) (p:Int):Drawn (m_Sbb ⟨co,a,s⟩ p) (k+3) fun v=>0≤v∧(v < p∨(p≤1∧v=0)):=by
 dsimp only [m_Sbb,m_Sbb_0]
 by_cases h1:p≤1
 ·rw [if_pos (by simpa using h1)]
  exact ⟨_,_,_,_,rfl,⟨by omega,.inr ⟨h1,rfl⟩⟩,h.le (by omega)⟩
 ·rw [if_neg (by simpa using h1)]
  have e24:∀ (v:Int) (c:List Int) (b z:Int),0≤v→CurAt (k+3) c b→Drawn (m_Sbb_24 p v c b z) (k+3) fun v=>0≤v∧(v < p∨(p≤1∧v=0)):=by
   intro v c b z hv hc
   dsimp only [m_Sbb_24]
   rw [ck_eq (by omega)]
   simp only [Option.bind_some]
   refine ⟨_,_,_,_,rfl,?_,hc⟩
   rw [Int.tmod_eq_emod_of_nonneg hv]
   exact ⟨Int.emod_nonneg _ (by omega),.inl (Int.emod_lt_of_pos _ (by omega))⟩
  have e18:∀ (v:Int) (c:List Int) (b z:Int),0≤v→v≤1000000→CurAt (k+2) c b→Drawn (m_Sbb_18 p v c b z) (k+3) fun v=>0≤v∧(v < p∨(p≤1∧v=0)):=by
   intro v c b z hv hv2 hc
   dsimp only [m_Sbb_18]
   split
   ·obtain ⟨x,c2,b2,z2,e,hx,hc2⟩ :=next_ok (s:=z) hc (by omega)
    rw [e]
    simp only [Option.bind_some]
    refine e24 _ _ _ _ ?_ hc2
    rw [w64_id (x:=v*256) (by omega) (by omega),w64_id (by omega) (by omega)]
    omega
   ·exact e24 _ _ _ _ hv (hc.le (by omega))
  obtain ⟨x,c2,b2,z2,e,hx,hc2⟩ :=next_ok (s:=s) h (by omega)
  rw [e]
  simp only [Option.bind_some]
  split
  ·obtain ⟨y,c3,b3,z3,e,hy,hc3⟩ :=next_ok (s:=z2) hc2 (by omega)
   rw [e]
   simp only [Option.bind_some]
   have:w64 (w64 (x*256)+y)=x*256+y:=by rw [w64_id (x:=x*256) (by omega) (by omega),w64_id (by omega) (by omega)]
   rw [this]
   exact e18 _ _ _ _ (by omega) (by omega) hc3
  ·exact e18 _ _ _ _ (by omega) (by omega) (hc2.le (by omega))
theorem pick_in {k:Nat} {co:List Int} {a s:Int} (h:CurAt k co a) (hk:k < 1000000000) {p:Int} (hp:1≤p):Drawn (m_Sbb ⟨co,a,s⟩ p) (k+3) fun v=>0≤v∧v < p:=by
 obtain ⟨v,c,b,z,e,h1,h2⟩ :=pick_ok (s:=s) h hk p
 exact ⟨v,c,b,z,e,⟨h1.1,by omega⟩,h2⟩
theorem one_ok {k:Nat} {co:List Int} {a s:Int} (h:CurAt k co a) (hk:k < 1000000000) (p:Int):Drawn (m_Sba ⟨co,a,s⟩ p) (k+3) fun _=>True:=by
 dsimp only [m_Sba,m_Sba_0]
 obtain ⟨v,c,b,z,e,h1,h2⟩ :=pick_ok (s:=s) h hk p
 rw [e]
 exact ⟨_,_,_,_,rfl,trivial,h2⟩
theorem rd_mem {α:Type} {l:List α} {x:Int} (h0:0≤x) (h1:x < (l.length:Int)):∃ y,rd l x=some y∧y ∈ l:=by
 obtain ⟨i,rfl⟩:∃ i:Nat,x=i:=⟨x.toNat,by omega⟩
 exact ⟨_,rd_eq (by omega),by simp⟩
theorem bytes_ok {k:Nat} {co:List Int} {a s:Int} (h:CurAt k co a) (n:Int) (h0:0≤n) (h1:n≤1000) (hk:k < 100000000):Drawn (m_Sx ⟨co,a,s⟩ n) (k+1000) fun l=>l.length=n.toNat:=by
 dsimp only [m_Sx,m_Sx_0]
 rw [ck_eq (by omega)]
 simp only [Option.bind_some]
 obtain ⟨e,h2,h3⟩ :=loopM_inv (b:=lp_Sx_9) (fun i (y:List Int×Int×Int×List Int)=>(((Int.toNat n):Int),(i:Int),y)) n.toNat
  (fun i y=>CurAt (k+i) y.1 y.2.1∧y.2.2.2.length=n.toNat) (fun y=>CurAt (k+1000) y.1 y.2.1∧y.2.2.2.length=n.toNat)
  (fun i y hi hI=>.inl (by
   obtain ⟨c,b,z,l⟩ :=y
   obtain ⟨x,c2,b2,z2,e,hx,hc2⟩ :=next_ok (s:=z) hI.1 (by omega)
   dsimp only [lp_Sx_9,m_Sx_9]
   rw [if_pos (by simp;omega),e]
   simp only [Option.bind_some]
   rw [rd_eq (by have:=hI.2;simp only at this;omega)]
   simp only [Option.bind_some]
   rw [w64_succ (by omega)]
   exact ⟨(c2,b2,z2,_),rfl,hc2,by simpa using hI.2⟩))
  (fun y hI=>by
   obtain ⟨c,b,z,l⟩ :=y
   refine ⟨_,?_,hI.1.le (by omega),hI.2⟩
   dsimp only [lp_Sx_9,m_Sx_9]
   rw [if_neg (by simp)]) (s:=(co,a,s,List.replicate n.toNat 0)) ⟨h.le (by omega),by simp⟩
 have h2' : loopM lp_Sx_9 (((Int.toNat n):Int),0,co,a,s,List.replicate n.toNat 0)=some e:=h2
 rw [h2']
 exact ⟨_,_,_,_,rfl,h3.2,h3.1⟩
theorem text_ok {k:Nat} {co:List Int} {a s:Int} (h:CurAt k co a) (n:Int) (h0:0≤n) (h1:n≤300) (hk:k < 100000000):Drawn (m_Sbc ⟨co,a,s⟩ n) (k+1000) fun l=>l.length=n.toNat∧∀ x ∈ l,0≤x∧x≤255:=by
 dsimp only [m_Sbc,m_Sbc_0]
 rw [ck_eq (by omega)]
 simp only [Option.bind_some]
 obtain ⟨e,h2,h3⟩ :=loopM_inv (b:=lp_Sbc_9) (fun i (y:List Int×Int×Int×List Int)=>(((Int.toNat n):Int),(i:Int),y)) n.toNat
  (fun i y=>CurAt (k+3*i) y.1 y.2.1∧y.2.2.2.length=n.toNat∧∀ x ∈ y.2.2.2,0≤x∧x≤255) (fun y=>CurAt (k+1000) y.1 y.2.1∧y.2.2.2.length=n.toNat∧∀ x ∈ y.2.2.2,0≤x∧x≤255)
  (fun i y hi hI=>.inl (by
   obtain ⟨c,b,z,l⟩ :=y
   obtain ⟨x,c2,b2,z2,e,hx,hc2⟩ :=pick_in (s:=z) hI.1 (by omega) (p:=95) (by omega)
   dsimp only [lp_Sbc_9,m_Sbc_9]
   rw [if_pos (by simp;omega),e]
   simp only [Option.bind_some]
   rw [rd_eq (by have:=hI.2.1;simp only at this;omega)]
   simp only [Option.bind_some]
   rw [w64_succ (by omega),w64_id (x:=32+x) (by omega) (by omega),wu8_id (by omega) (by omega)]
   refine ⟨(c2,b2,z2,_),rfl,hc2,by simpa using hI.2.1,fun y hy=>?_⟩
   rcases List.mem_or_eq_of_mem_set hy with h | h
   ·exact hI.2.2 y h
   ·omega))
  (fun y hI=>by
   obtain ⟨c,b,z,l⟩ :=y
   refine ⟨_,?_,hI.1.le (by omega),hI.2⟩
   dsimp only [lp_Sbc_9,m_Sbc_9]
   rw [if_neg (by simp)]) (s:=(co,a,s,List.replicate n.toNat 0)) ⟨h.le (by omega),by simp,fun x hx=>by
    have:=List.eq_of_mem_replicate hx;omega⟩
 have h2' : loopM lp_Sbc_9 (((Int.toNat n):Int),0,co,a,s,List.replicate n.toNat 0)=some e:=h2
 rw [h2']
 exact ⟨_,_,_,_,rfl,h3.2,h3.1⟩
theorem bytesOf_of:∀ l:List Int,(∀ x ∈ l,0≤x∧x≤255)→∃ bs,bytesOf (l.map (rI .u8))=some bs∧bs.length=l.length
 | [],_=>⟨[],rfl,rfl⟩
 | x::l,h=>by
  obtain ⟨bs,h1,h2⟩ :=bytesOf_of l fun y hy=>h y (by simp [hy])
  have hx:=h x (by simp)
  refine ⟨UInt8.ofNat x.toNat::bs,?_,by simp [h2]⟩
  show (if 0≤x∧x≤255 then (bytesOf (l.map (rI .u8))).map (UInt8.ofNat x.toNat :: ·) else none)=_
  rw [if_pos hx,h1];rfl
theorem bstr_of {l:List Int} (h:∀ x ∈ l,0≤x∧x≤255):∃ s,bstr l=some s∧s.size=l.length:=by
 obtain ⟨bs,h1,h2⟩ :=bytesOf_of l h
 refine ⟨⟨bs.toArray⟩,by unfold bstr;rw [h1];rfl,by rw [←h2];rfl⟩
structure BoxOk (n:Nat) (b:Ze):Prop where
 t0:1≤b.tracks.length
 t1:b.tracks.length≤8
 nm:∀ t ∈ b.tracks,t.name.size≤40
 np:b.packets.length≤n
 pk:∀ p ∈ b.packets,(0≤p.track∧p.track < b.tracks.length)∧p.data.length≤1000
theorem BoxOk.le {n m:Nat} {b:Ze} (h:BoxOk n b) (hm:n≤m):BoxOk m b:=⟨h.t0,h.t1,h.nm,by have:=h.np;omega,h.pk⟩
theorem BoxOk.sm {n:Nat} {b:Ze} (h:BoxOk n b) (hn:n≤1048576):SmB b:=⟨⟨by have:=h.t1;omega,fun t ht=>by have:=h.nm t ht;omega⟩,by have:=h.np;omega,fun p hp=>by have:=(h.pk p hp).2;omega⟩
section
variable {n:Nat} {b:Ze} (hb:BoxOk n b) (hn:n≤1000)
include hb hn
theorem early_ok {x y:Int} (hx:0≤x∧x < b.packets.length) (hy:0≤y∧y < b.packets.length):∃ r,m_Sh b x y=some r:=by
 dsimp only [m_Sh,m_Sh_0]
 obtain ⟨p,e1,m1⟩ :=rd_mem hx.1 hx.2
 obtain ⟨q,e2,m2⟩ :=rd_mem hy.1 hy.2
 rw [e1,e2]
 simp only [Option.bind_some]
 obtain ⟨t,e3,_⟩ :=rd_mem (hb.pk q m2).1.1 (hb.pk q m2).1.2
 obtain ⟨u,e4,_⟩ :=rd_mem (hb.pk p m1).1.1 (hb.pk p m1).1.2
 rw [e3,e4]
 simp only [Option.bind_some]
 split
 ·exact ⟨_,rfl⟩
 ·split <;> exact ⟨_,rfl⟩
def InR (b:Ze) (l:List Int):Prop:=l.length=b.packets.length∧∀ x ∈ l,0≤x∧x < b.packets.length
omit hb hn in
theorem InR.set {b:Ze} {l:List Int} (h:InR b l) {x:Int} (hx:0≤x∧x < b.packets.length) (i:Nat):InR b (l.set i x):=⟨by simpa using h.1,fun y hy=>by
 rcases List.mem_or_eq_of_mem_set hy with h1 | h1
 ·exact h.2 y h1
 ·rw [h1];exact hx⟩
theorem sink_ok (ts:List Za) (i0:Nat) (hi0:i0 < b.packets.length) (l:List Int) (hl:InR b l):∃ l',loopM (lp_Sm_42 i0 b ts) ((i0:Int),l)=some l'∧InR b l':=by
 obtain ⟨e,h2,h3⟩ :=loopM_inv (b:=lp_Sm_42 i0 b ts) (fun i (y:List Int)=>(((i0 - i:Nat):Int),y)) i0 (fun i y=>InR b y) (fun y=>InR b y)
  (fun i y hi hI=>by
   have hlen:=hI.1
   have hnp:=hb.np
   dsimp only [lp_Sm_42,m_Sm_42]
   rw [if_pos (by simp;omega)]
   obtain ⟨x,e1,m1⟩ :=rd_mem (l:=y) (x:=((i0 - i:Nat):Int)) (by omega) (by omega)
   have hw:w64 (((i0 - i:Nat):Int) - 1)=((i0 - (i+1):Nat):Int):=by rw [w64_id (by omega) (by omega)];omega
   obtain ⟨z,e2,m2⟩ :=rd_mem (l:=y) (x:=((i0 - (i+1):Nat):Int)) (by omega) (by omega)
   rw [e1,hw,e2]
   simp only [Option.bind_some]
   obtain ⟨r,e3⟩ :=early_ok hb hn (hI.2 x m1) (hI.2 z m2)
   rw [e3]
   simp only [Option.bind_some]
   cases r with
   | true=>
    rw [if_pos rfl]
    obtain ⟨w,e4,_⟩ :=rd_mem (l:=y.set (0+Int.toNat ((i0 - i:Nat):Int)) z) (x:=((i0 - (i+1):Nat):Int)) (by omega) (by rw [List.length_set];omega)
    rw [e4]
    exact .inl ⟨_,rfl,(hI.set (hI.2 z m2) _).set (hI.2 x m1) _⟩
   | false=>exact .inr ⟨_,rfl,hI⟩)
  (fun y hI=>by
   refine ⟨_,?_,hI⟩
   dsimp only [lp_Sm_42,m_Sm_42]
   rw [if_neg (by simp)]) (s:=l) hl
 exact ⟨e,by simpa using h2,h3⟩
theorem sort_ok (ts:List Za) (l:List Int) (hl:InR b l):∃ l',loopM (lp_Sm_30 b ts) (1,l)=some l'∧InR b l':=by
 have hnp:=hb.np
 obtain ⟨e,h2,h3⟩ :=loopM_inv (b:=lp_Sm_30 b ts) (fun i (y:List Int)=>(((i+1:Nat):Int),y)) (b.packets.length - 1) (fun i y=>InR b y) (fun y=>InR b y)
  (fun i y hi hI=>.inl (by
   have hlen:=hI.1
   dsimp only [lp_Sm_30,m_Sm_30]
   rw [if_pos (by rw [hlen];simp;omega)]
   obtain ⟨l',e1,h1⟩ :=sink_ok hb hn ts (i+1) (by omega) y hI
   rw [e1]
   simp only [Option.bind_some,m_Sm_56]
   rw [w64_succ (by omega)]
   exact ⟨_,rfl,h1⟩))
  (fun y hI=>by
   refine ⟨_,?_,hI⟩
   have hlen:=hI.1
   dsimp only [lp_Sm_30,m_Sm_30]
   rw [if_neg (by rw [hlen];simp;omega)]) (s:=l) hl
 exact ⟨e,h2,h3⟩
theorem woven_ok:∃ b',m_Sm b=some b'∧BoxOk n b':=by
 have hnp:=hb.np
 have ht1:=hb.t1
 dsimp only [m_Sm,m_Sm_0]
 rw [ck_eq (by simp;omega)]
 simp only [Option.bind_some]
 rw [ck_eq (by omega)]
 simp only [Option.bind_some,List.nil_append]
 obtain ⟨e,h2,h3,h4⟩ :=loopM_inv (b:=lp_Sm_13 b) (fun i (y:List Int×List Za)=>(((Int.toNat (b.packets.length:Int)):Int),(i:Int),y)) b.packets.length
  (fun i y=>InR b y.1∧y.2=b.tracks) (fun y=>InR b y.1∧y.2=b.tracks)
  (fun i y hi hI=>.inl (by
   obtain ⟨l,ts⟩ :=y
   have hlen:=hI.1.1
   simp only at hlen
   dsimp only [lp_Sm_13,m_Sm_13]
   rw [if_pos (by simpa using hi)]
   rw [rd_eq (by omega)]
   simp only [Option.bind_some]
   rw [w64_succ (by omega)]
   exact ⟨(_,ts),rfl,hI.1.set (by omega) _,hI.2⟩))
  (fun y hI=>by
   obtain ⟨l,ts⟩ :=y
   refine ⟨_,?_,hI⟩
   dsimp only [lp_Sm_13,m_Sm_13]
   rw [if_neg (by simp)]) (s:=(List.replicate b.packets.length 0,b.tracks)) ⟨⟨by simp,fun x hx=>by
    rw [List.mem_replicate] at hx;omega⟩,rfl⟩
 have h2' : loopM (lp_Sm_13 b) (((Int.toNat (b.packets.length:Int)):Int),0,List.replicate (Int.toNat (b.packets.length:Int)) 0,b.tracks)=some e:=h2
 rw [h2']
 simp only [Option.bind_some]
 rw [h4]
 dsimp only [m_Sm_25]
 obtain ⟨l',e1,h5⟩ :=sort_ok hb hn b.tracks e.1 h3
 rw [e1]
 simp only [Option.bind_some]
 dsimp only [m_Sm_57]
 obtain ⟨o,h6,h7,h8⟩ :=loopM_inv (b:=lp_Sm_62 l' b b.tracks) (fun i (y:List Zb)=>((i:Int),y)) b.packets.length
  (fun i y=>y.length=i∧∀ p ∈ y,(0≤p.track∧p.track < b.tracks.length)∧p.data.length≤1000) (fun y=>y.length=b.packets.length∧∀ p ∈ y,(0≤p.track∧p.track < b.tracks.length)∧p.data.length≤1000)
  (fun i y hi hI=>.inl (by
   have hlen:=h5.1
   dsimp only [lp_Sm_62,m_Sm_62]
   rw [if_pos (by rw [hlen];simpa using hi)]
   obtain ⟨x,e3,m3⟩ :=rd_mem (l:=l') (x:=(i:Int)) (by omega) (by omega)
   rw [e3]
   simp only [Option.bind_some]
   obtain ⟨p,e4,m4⟩ :=rd_mem (l:=b.packets) (h5.2 x m3).1 (h5.2 x m3).2
   rw [e4]
   simp only [Option.bind_some]
   have hp:=hb.pk p m4
   dsimp only [m_Sf,m_Sf_0]
   rw [ck_eq (by simp;omega)]
   simp only [Option.bind_some]
   rw [ck_eq (by simp;omega)]
   simp only [Option.bind_some]
   rw [w64_succ (by omega)]
   refine ⟨_,rfl,by simp;omega,fun q hq=>?_⟩
   rw [List.mem_append,List.mem_singleton] at hq
   rcases hq with h | h
   ·exact hI.2 q h
   ·rw [h];simpa using hp))
  (fun y hI=>by
   have hlen:=h5.1
   refine ⟨_,?_,hI⟩
   dsimp only [lp_Sm_62,m_Sm_62]
   rw [if_neg (by rw [hlen];simp)]) (s:=([]:List Zb)) ⟨rfl,fun p hp=>by simp at hp⟩
 have h6' : loopM (lp_Sm_62 l' b b.tracks) (0,([]:List Zb))=some o:=h6
 rw [h6']
 exact ⟨_,rfl,hb.t0,hb.t1,hb.nm,by show o.length≤n;omega,h8⟩
end
end Go.Proofs.V

namespace Go.Proofs.V
open Go
theorem getD_same {α:Type} {l:List α} (z:α) {i:Nat} (h:i < l.length):l.getD i z ∈ l:=by
 rw [List.getD_eq_getElem?_getD,List.getElem?_eq_getElem h];simp
section
variable {N:Nat} {ts:List Za} (h0:1≤ts.length) (h1:ts.length≤8)
include h0 h1
theorem box44_ok {k:Nat} {co:List Int} {a s:Int} (h:CurAt k co a) (hk:k < 1000000000) (p1:Int) (i0:Nat) (hi0:i0 < 1000) (x1:Int×Zd) (hx1:0≤x1.1∧x1.1 < ts.length) (x2:Int) (x4:Int×Zd)
  (l4:List Int) (hl4:l4.length=ts.length) (l5:List Bool) (hl5:l5.length=ts.length) (l6:List Zb) (hl6:l6.length=i0) (hp6:∀ p ∈ l6,(0≤p.track∧p.track < ts.length)∧p.data.length≤1000) (kb:Bool) (dt:List Int) (hd:dt.length≤1000) :
  ∃ c2 a2 s2 m4 m5 m6,m_Sw_44 p1 i0 x1 x2 x4 l4 l5 ts l6 co a s kb dt=some (.inl (((i0+1:Nat):Int),c2,a2,s2,m4,m5,m6))∧CurAt (k+3) c2 a2∧m4.length=ts.length∧m5.length=ts.length∧m6.length=i0+1∧∀ p ∈ m6,(0≤p.track∧p.track < ts.length)∧p.data.length≤1000:=by
 dsimp only [m_Sw_44]
 obtain ⟨y1,e1,_⟩ :=rd_mem (l:=l5) hx1.1 (by omega)
 obtain ⟨y2,e2,_⟩ :=rd_mem (l:=l4) hx1.1 (by omega)
 obtain ⟨y3,e3,_⟩ :=rd_mem (l:=ts) hx1.1 (by omega)
 rw [e1,e2,e3]
 simp only [Option.bind_some]
 obtain ⟨v,c2,a2,s2,e,hv,hc⟩ :=pick_ok (s:=s) h hk 60
 rw [e]
 simp only [Option.bind_some]
 rw [ck_eq (by simp;omega)]
 simp only [Option.bind_some]
 rw [w64_succ (by omega)]
 refine ⟨_,_,_,_,_,_,rfl,hc,by simpa using hl4,by simpa using hl5,by simp;omega,fun p hp=>?_⟩
 rw [List.mem_append,List.mem_singleton] at hp
 rcases hp with hp | hp
 ·exact hp6 p hp
 ·rw [hp];exact ⟨hx1,hd⟩
theorem boxp_ok {k:Nat} {co:List Int} {a s:Int} (h:CurAt k co a) (hk:k < 10000000) (p1:Int) (hp0:p1≤100) (hnm:∀ t ∈ ts,t.name.size≤40):Drawn (m_Sw_23 p1 co a s ts) (k+200000) (BoxOk 100):=by
 dsimp only [m_Sw_23]
 rw [ck_eq (by omega)]
 simp only [Option.bind_some]
 rw [ck_eq (by omega)]
 simp only [Option.bind_some]
 obtain ⟨e,g1,g2,g3,g4⟩ :=loopM_inv (b:=lp_Sw_32 p1 ts) (fun i (y:List Int×Int×Int×List Int×List Bool×List Zb)=>((i:Int),y)) p1.toNat
  (fun i y=>CurAt (k+2000*i) y.1 y.2.1∧y.2.2.2.1.length=ts.length∧y.2.2.2.2.1.length=ts.length∧y.2.2.2.2.2.length=i∧∀ p ∈ y.2.2.2.2.2,(0≤p.track∧p.track < ts.length)∧p.data.length≤1000)
  (fun e=>CurAt (k+200000) e.1 e.2.1∧e.2.2.2.length≤100∧∀ p ∈ e.2.2.2,(0≤p.track∧p.track < ts.length)∧p.data.length≤1000)
  (fun i y hi hI=>.inl (by
   obtain ⟨c,b,z,l4,l5,l6⟩ :=y
   obtain ⟨j1,j2,j3,j4,j5⟩ :=hI
   simp only at j1 j2 j3 j4 j5
   dsimp only [lp_Sw_32,m_Sw_32]
   rw [if_pos (by simp;omega)]
   obtain ⟨x1,c1,b1,z1,e1,hx1,hc1⟩ :=pick_in (s:=z) j1 (by omega) (p:=(ts.length:Int)) (by omega)
   rw [e1]
   simp only [Option.bind_some]
   obtain ⟨y2,e2,_⟩ :=rd_mem (l:=l4) hx1.1 (by omega)
   obtain ⟨y3,e3,_⟩ :=rd_mem (l:=l5) hx1.1 (by omega)
   rw [e2,e3]
   simp only [Option.bind_some]
   obtain ⟨x4,c4,b4,z4,e4,hx4,hc4⟩ :=pick_ok (s:=z1) hc1 (by omega) 50
   rw [e4]
   simp only [Option.bind_some]
   cases y3 with
   | true=>
    rw [if_pos rfl]
    obtain ⟨x5,c5,b5,z5,e5,hx5,hc5⟩ :=one_ok (s:=z4) hc4 (by omega) 3
    rw [e5]
    simp only [Option.bind_some]
    obtain ⟨x6,c6,b6,z6,e6,hx6,hc6⟩ :=pick_in (s:=z5) hc5 (by omega) (p:=12) (by omega)
    rw [e6]
    simp only [Option.bind_some]
    obtain ⟨x7,c7,b7,z7,e7,hx7,hc7⟩ :=bytes_ok (s:=z6) hc6 x6 (by omega) (by omega) (by omega)
    rw [e7]
    simp only [Option.bind_some]
    obtain ⟨c8,b8,z8,m4,m5,m6,e8,k1,k2,k3,k4,k5⟩ :=box44_ok h0 h1 (s:=z7) hc7 (by omega) p1 i (by omega) (x1,⟨c1,b1,z1⟩) hx1 y2 (x4,⟨c4,b4,z4⟩) l4 j2 l5 j3 l6 j4 j5 x5 x7 (by omega)
    exact ⟨(c8,b8,z8,m4,m5,m6),e8,k1.le (by omega),k2,k3,k4,k5⟩
   | false=>
    rw [if_neg (by simp)]
    obtain ⟨x6,c6,b6,z6,e6,hx6,hc6⟩ :=pick_in (s:=z4) hc4 (by omega) (p:=12) (by omega)
    rw [e6]
    simp only [Option.bind_some]
    obtain ⟨x7,c7,b7,z7,e7,hx7,hc7⟩ :=bytes_ok (s:=z6) hc6 x6 (by omega) (by omega) (by omega)
    rw [e7]
    simp only [Option.bind_some]
    obtain ⟨c8,b8,z8,m4,m5,m6,e8,k1,k2,k3,k4,k5⟩ :=box44_ok h0 h1 (s:=z7) hc7 (by omega) p1 i (by omega) (x1,⟨c1,b1,z1⟩) hx1 y2 (x4,⟨c4,b4,z4⟩) l4 j2 l5 j3 l6 j4 j5 true x7 (by omega)
    exact ⟨(c8,b8,z8,m4,m5,m6),e8,k1.le (by omega),k2,k3,k4,k5⟩))
  (fun y hI=>by
   obtain ⟨c,b,z,l4,l5,l6⟩ :=y
   obtain ⟨j1,j2,j3,j4,j5⟩ :=hI
   refine ⟨(c,b,z,l6),?_,j1.le (by omega),?_,j5⟩
   ·dsimp only [lp_Sw_32,m_Sw_32]
    rw [if_neg (by simp;omega)]
   ·simp only at j4 ⊢
    omega) (s:=(co,a,s,List.replicate ts.length 0,List.replicate ts.length false,[])) ⟨h.le (by omega),by simp,by simp,rfl,fun p hp=>by simp at hp⟩
 have g1' : loopM (lp_Sw_32 p1 ts) (0,co,a,s,(List.replicate (Int.toNat (ts.length:Int)) (0:Int)),(List.replicate (Int.toNat (ts.length:Int)) (false:Bool)),([]:List Zb))=some e:=g1
 rw [g1']
 simp only [Option.bind_some,m_Sw_50]
 obtain ⟨b',e9,hb'⟩ :=woven_ok (n:=100) (b:=⟨ts,e.2.2.2⟩) ⟨h0,h1,hnm,g3,g4⟩ (by omega)
 rw [e9]
 exact ⟨_,_,_,_,rfl,hb',g2⟩
end
theorem box_ok {k:Nat} {co:List Int} {a s:Int} (h:CurAt k co a) (hk:k < 5000000) (p1:Int) (hp0:p1≤100):Drawn (m_Sw ⟨co,a,s⟩ p1) (k+210000) (BoxOk 100):=by
 dsimp only [m_Sw,m_Sw_0]
 obtain ⟨x0,c0,b0,z0,e0,hx0,hc0⟩ :=pick_in (s:=s) h (by omega) (p:=3) (by omega)
 rw [e0]
 simp only [Option.bind_some]
 obtain ⟨n,hn⟩:∃ n:Nat,w64 (1+x0)=n:=⟨(1+x0).toNat,by rw [w64_id (by omega) (by omega)];omega⟩
 have hn2:1≤n∧n≤3:=by rw [w64_id (by omega) (by omega)] at hn;omega
 obtain ⟨e,g1,g2,g3,g4⟩ :=loopM_inv (b:=lp_Sw_9 p1) (fun i (y:List Int×Int×Int×List Za)=>(((n - i:Nat):Int),y)) n
  (fun i y=>CurAt (k+3+1200*i) y.1 y.2.1∧y.2.2.2.length=i∧∀ t ∈ y.2.2.2,t.name.size≤40)
  (fun e=>CurAt (k+10000) e.1 e.2.1∧e.2.2.2.length=n∧∀ t ∈ e.2.2.2,t.name.size≤40)
  (fun i y hi hI=>.inl (by
   obtain ⟨c,b,z,l⟩ :=y
   obtain ⟨j1,j2,j3⟩ :=hI
   simp only at j1 j2 j3
   dsimp only [lp_Sw_9,m_Sw_9]
   rw [if_pos (by simp;omega)]
   obtain ⟨x1,c1,b1,z1,e1,hx1,hc1⟩ :=pick_ok (s:=z) j1 (by omega) 6
   rw [e1]
   simp only [Option.bind_some]
   obtain ⟨x2,c2,b2,z2,e2,hx2,hc2⟩ :=pick_ok (s:=z1) hc1 (by omega) 300
   rw [e2]
   simp only [Option.bind_some]
   obtain ⟨x3,c3,b3,z3,e3,hx3,hc3⟩ :=pick_in (s:=z2) hc2 (by omega) (p:=5) (by omega)
   rw [e3]
   simp only [Option.bind_some]
   obtain ⟨x4,e4,_⟩ :=rd_mem (l:=([1,25,1000,44100,w64 (1+x2)]:List Int)) hx3.1 (by simp;omega)
   rw [e4]
   simp only [Option.bind_some]
   obtain ⟨x5,c5,b5,z5,e5,hx5,hc5⟩ :=pick_in (s:=z3) hc3 (by omega) (p:=5) (by omega)
   rw [e5]
   simp only [Option.bind_some]
   obtain ⟨x6,c6,b6,z6,e6,hx6,hc6⟩ :=text_ok (s:=z5) hc5 x5 (by omega) (by omega) (by omega)
   rw [e6]
   simp only [Option.bind_some]
   obtain ⟨x7,e7,h7⟩ :=bstr_of hx6.2
   rw [e7]
   simp only [Option.bind_some]
   rw [ck_eq (by simp;omega)]
   simp only [Option.bind_some]
   rw [show w64 (((n - i:Nat):Int) - 1)=((n - (i+1):Nat):Int) by rw [w64_id (by omega) (by omega)];omega]
   refine ⟨(c6,b6,z6,_),rfl,hc6.le (by omega),by simp;omega,fun t ht=>?_⟩
   rw [List.mem_append,List.mem_singleton] at ht
   rcases ht with ht | ht
   ·exact j3 t ht
   ·rw [ht];show x7.size≤40;omega))
  (fun y hI=>by
   obtain ⟨c,b,z,l⟩ :=y
   obtain ⟨j1,j2,j3⟩ :=hI
   refine ⟨_,?_,j1.le (by omega),j2,j3⟩
   dsimp only [lp_Sw_9,m_Sw_9]
   rw [if_neg (by simp)]) (s:=(c0,b0,z0,[])) ⟨hc0,rfl,fun t ht=>by simp at ht⟩
 have g1' : loopM (lp_Sw_9 p1) (w64 (1+x0),c0,b0,z0,([]:List Za))=some e:=by rw [hn];exact g1
 rw [g1']
 simp only [Option.bind_some]
 obtain ⟨v,c9,b9,z9,e9,h9,hc9⟩ :=boxp_ok (ts:=e.2.2.2) (by omega) (by omega) (s:=e.2.2.1) g2 (by omega) p1 hp0 g4
 exact ⟨v,c9,b9,z9,e9,h9,hc9.le (by omega)⟩
theorem l1size_ok (l:List Int) (hl:l.length≤1048576) (d m:Int) (hd:1≤d):∃ v,m_Sbd l d m=some v∧v≤m:=by
 dsimp only [m_Sbd,m_Sbd_0]
 rw [ck_eq (by omega)]
 simp only [Option.bind_some]
 split
 ·exact ⟨_,rfl,Int.le_refl _⟩
 ·rename_i h
  exact ⟨_,rfl,by simpa using h⟩
theorem BoxOk.setp {n:Nat} {ts:List Za} {ps:List Zb} (h:BoxOk n ⟨ts,ps⟩) {p:Zb} (hp:(0≤p.track∧p.track < ts.length)∧p.data.length≤1000) (i:Nat):BoxOk n ⟨ts,ps.set i p⟩ :=
 ⟨h.t0,h.t1,h.nm,by have:=h.np;simpa using this,fun q hq=>by
  rcases List.mem_or_eq_of_mem_set hq with h1 | h1
  ·exact h.pk q h1
  ·rw [h1];exact hp⟩
theorem BoxOk.sett {n:Nat} {ts:List Za} {ps:List Zb} (h:BoxOk n ⟨ts,ps⟩) {t:Za} (ht:t.name.size≤40) (i:Nat):BoxOk n ⟨ts.set i t,ps⟩ :=
 ⟨by have:=h.t0;simpa using this,by have:=h.t1;simpa using this,fun q hq=>by
  rcases List.mem_or_eq_of_mem_set hq with h1 | h1
  ·exact h.nm q h1
  ·rw [h1];exact ht,h.np,fun p hp=>by simpa using h.pk p hp⟩
theorem drawn12_ok {k:Nat} {co:List Int} {a s:Int} (h:CurAt k co a) (hk:k < 1000000) (ts:List Za) (ps:List Zb) (hb:BoxOk 100 ⟨ts,ps⟩):Drawn (m_Sg_12 co a s ts ps) (k+100) (BoxOk 100):=by
 dsimp only [m_Sg_12]
 obtain ⟨x0,c0,b0,z0,e0,hx0,hc0⟩ :=pick_in (s:=s) h (by omega) (p:=14) (by omega)
 rw [e0]
 simp only [Option.bind_some]
 have fin:∀ (m:Nat) (c:List Int) (b z:Int) (ts' : List Za) (ps' : List Zb),m≤k+100→CurAt m c b→BoxOk 100 ⟨ts',ps'⟩ →Drawn (m_Sg_49 c b z ts' ps') (k+100) (BoxOk 100):=
  fun m c b z ts' ps' hm hc hb=>⟨_,_,_,_,rfl,hb,hc.le hm⟩
 split
 ·split
  ·rename_i h2
   have h2' : 1 < (ps.length:Int):=by simpa using h2
   obtain ⟨p,e1,m1⟩ :=rd_mem (l:=ps) (x:=0) (by omega) (by omega)
   obtain ⟨q,e2,m2⟩ :=rd_mem (l:=ps) (x:=1) (by omega) (by omega)
   obtain ⟨w,e3,_⟩ :=rd_mem (l:=ps.set (0+Int.toNat 0) q) (x:=1) (by omega) (by rw [List.length_set];omega)
   rw [e1,e2]
   simp only [Option.bind_some]
   rw [e3]
   simp only [Option.bind_some]
   exact fin _ _ _ _ _ _ (by omega) hc0 ((hb.setp (hb.pk q m2) _).setp (hb.pk p m1) _)
  ·exact fin _ _ _ _ _ _ (by omega) hc0 hb
 ·split
  ·split
   ·rename_i h2
    have h2' : 0 < (ps.length:Int):=by simpa using h2
    obtain ⟨x1,c1,b1,z1,e1,hx1,hc1⟩ :=pick_in (s:=z0) hc0 (by omega) (p:=(ps.length:Int)) (by omega)
    rw [e1]
    simp only [Option.bind_some]
    obtain ⟨x2,c2,b2,z2,e2,hx2,hc2⟩ :=pick_in (s:=z1) hc1 (by omega) (p:=4) (by omega)
    rw [e2]
    simp only [Option.bind_some]
    obtain ⟨x3,e3,_⟩ :=rd_mem (l:=([(-1),1000000000,1000000001,3]:List Int)) hx2.1 (by simp;omega)
    obtain ⟨p,e4,m4⟩ :=rd_mem (l:=ps) hx1.1 hx1.2
    rw [e3,e4]
    simp only [Option.bind_some]
    exact fin _ _ _ _ _ _ (by omega) hc2 (hb.setp (by exact hb.pk p m4) _)
   ·exact fin _ _ _ _ _ _ (by omega) hc0 hb
  ·split
   ·obtain ⟨x2,c2,b2,z2,e2,hx2,hc2⟩ :=pick_in (s:=z0) hc0 (by omega) (p:=3) (by omega)
    rw [e2]
    simp only [Option.bind_some]
    obtain ⟨x3,e3,_⟩ :=rd_mem (l:=([0,1000000,1000001]:List Int)) hx2.1 (by simp;omega)
    obtain ⟨t,e4,m4⟩ :=rd_mem (l:=ts) (x:=0) (by omega) (by have:=hb.t0;simp only at this;omega)
    rw [e3,e4]
    simp only [Option.bind_some]
    exact fin _ _ _ _ _ _ (by omega) hc2 (hb.sett (by exact hb.nm t m4) _)
   ·split
    ·split
     ·rename_i h2
      have h2' : 0 < (ps.length:Int):=by simpa using h2
      obtain ⟨p,e4,m4⟩ :=rd_mem (l:=ps) (x:=0) (by omega) (by omega)
      rw [e4]
      simp only [Option.bind_some]
      exact fin _ _ _ _ _ _ (by omega) hc0 (hb.setp (by exact hb.pk p m4) _)
     ·exact fin _ _ _ _ _ _ (by omega) hc0 hb
    ·exact fin _ _ _ _ _ _ (by omega) hc0 hb
theorem drawn_ok (l:List Int) (hl:l.length≤1048576) (hb:∀ x ∈ l,0≤x∧x≤255):Drawn (m_Sg l) 500000 (BoxOk 100):=by
 dsimp only [m_Sg,m_Sg_0]
 have hc:CurAt 0 l 0:=⟨hb,by omega,by omega⟩
 obtain ⟨x0,c0,b0,z0,e0,hx0,hc0⟩ :=pick_in (s:=0) hc (by omega) (p:=12) (by omega)
 rw [e0]
 simp only [Option.bind_some]
 obtain ⟨x1,c1,b1,z1,e1,hx1,hc1⟩ :=box_ok (s:=z0) hc0 (by omega) x0 (by omega)
 rw [e1]
 simp only [Option.bind_some]
 obtain ⟨x2,c2,b2,z2,e2,hx2,hc2⟩ :=one_ok (s:=z1) hc1 (by omega) 6
 rw [e2]
 simp only [Option.bind_some]
 split
 ·obtain ⟨x3,e3,h3⟩ :=l1size_ok l hl 6 60 (by omega)
  rw [e3]
  simp only [Option.bind_some]
  obtain ⟨x4,c4,b4,z4,e4,hx4,hc4⟩ :=box_ok (s:=z2) hc2 (by omega) x3 (by omega)
  rw [e4]
  simp only [Option.bind_some]
  obtain ⟨v,c5,b5,z5,e5,hx5,hc5⟩ :=drawn12_ok (s:=z4) hc4 (by omega) x4.tracks x4.packets hx4
  exact ⟨v,c5,b5,z5,e5,hx5,hc5.le (by omega)⟩
 ·obtain ⟨v,c5,b5,z5,e5,hx5,hc5⟩ :=drawn12_ok (s:=z2) hc2 (by omega) x1.tracks x1.packets hx1
  exact ⟨v,c5,b5,z5,e5,hx5,hc5.le (by omega)⟩
end Go.Proofs.V

namespace Go.Proofs.V
open Go
theorem heavy_ok {k:Nat} {co:List Int} {a s:Int} (h:CurAt k co a) (hk:k < 10000000) {b:Ze} (hb:BoxOk 100 b):Drawn (m_Sy ⟨co,a,s⟩ b) (k+2000) (BoxOk 100):=by
 obtain ⟨ts,ps⟩ :=b
 have hnp:=hb.np
 have ht1:=hb.t1
 simp only at hnp ht1
 dsimp only [m_Sy,m_Sy_0]
 obtain ⟨e,g1,g2,g3,g4⟩ :=loopM_inv (b:=lp_Sy_7 ⟨ts,ps⟩) (fun i (y:List Int×Int×Int×List Zb)=>((i:Int),y)) ps.length
  (fun i y=>CurAt (k+12*i) y.1 y.2.1∧y.2.2.2.length=ps.length∧BoxOk 100 ⟨ts,y.2.2.2⟩) (fun e=>CurAt (k+1200) e.1 e.2.1∧e.2.2.2.length=ps.length∧BoxOk 100 ⟨ts,e.2.2.2⟩)
  (fun i y hi hI=>.inl (by
   obtain ⟨c,b,z,l⟩ :=y
   obtain ⟨j1,j2,j3⟩ :=hI
   simp only at j1 j2 j3
   have e23:∀ (m:Nat) (c:List Int) (b z:Int) (l:List Zb),m+6≤k+12*(i+1)→CurAt m c b→l.length=ps.length→BoxOk 100 ⟨ts,l⟩ →
     ∃ y',m_Sy_23 i ⟨ts,ps⟩ c b z l=some (.inl (((i+1:Nat):Int),y'))∧CurAt (k+12*(i+1)) y'.1 y'.2.1∧y'.2.2.2.length=ps.length∧BoxOk 100 ⟨ts,y'.2.2.2⟩ :=by
    intro m c b z l hm hc hl hbx
    dsimp only [m_Sy_23]
    obtain ⟨x1,c1,b1,z1,e1,hx1,hc1⟩ :=one_ok (s:=z) hc (by omega) 2
    rw [e1]
    simp only [Option.bind_some]
    rw [w64_succ (by omega)]
    split
    ·obtain ⟨x2,c2,b2,z2,e2,hx2,hc2⟩ :=pick_ok (s:=z1) hc1 (by omega) 40
     rw [e2]
     simp only [Option.bind_some]
     obtain ⟨p,e3,m3⟩ :=rd_mem (l:=l) (x:=(i:Int)) (by omega) (by omega)
     rw [e3]
     simp only [Option.bind_some]
     exact ⟨(c2,b2,z2,_),rfl,hc2.le (by omega),by simpa using hl,hbx.setp (by exact hbx.pk p m3) _⟩
    ·exact ⟨(c1,b1,z1,_),rfl,hc1.le (by omega),hl,hbx⟩
   dsimp only [lp_Sy_7,m_Sy_7]
   rw [if_pos (by simp;omega)]
   obtain ⟨x1,c1,b1,z1,e1,hx1,hc1⟩ :=one_ok (s:=z) j1 (by omega) 3
   rw [e1]
   simp only [Option.bind_some]
   split
   ·obtain ⟨x2,c2,b2,z2,e2,hx2,hc2⟩ :=pick_in (s:=z1) hc1 (by omega) (p:=900) (by omega)
    rw [e2]
    simp only [Option.bind_some]
    rw [ck_eq (by omega)]
    simp only [Option.bind_some]
    obtain ⟨p,e3,m3⟩ :=rd_mem (l:=l) (x:=(i:Int)) (by omega) (by omega)
    rw [e3]
    simp only [Option.bind_some]
    exact e23 _ _ _ _ _ (by omega) hc2 (by simpa using j2) (j3.setp (by exact ⟨(j3.pk p m3).1,by simp;omega⟩) _)
   ·exact e23 _ _ _ _ _ (by omega) hc1 j2 j3))
  (fun y hI=>by
   obtain ⟨c,b,z,l⟩ :=y
   obtain ⟨j1,j2,j3⟩ :=hI
   refine ⟨_,?_,j1.le (by omega),j2,j3⟩
   dsimp only [lp_Sy_7,m_Sy_7]
   rw [if_neg (by simp)]) (s:=(co,a,s,ps)) ⟨h.le (by omega),rfl,hb⟩
 have g1' : loopM (lp_Sy_7 ⟨ts,ps⟩) (0,co,a,s,ps)=some e:=g1
 rw [g1']
 simp only [Option.bind_some]
 dsimp only [m_Sy_29]
 obtain ⟨f,f1,f2,f3,f4⟩ :=loopM_inv (b:=lp_Sy_34 ⟨ts,ps⟩ e.2.2.2) (fun i (y:List Int×Int×Int×List Za)=>((i:Int),y)) ts.length
  (fun i y=>CurAt (k+1200+3*i) y.1 y.2.1∧y.2.2.2.length=ts.length∧BoxOk 100 ⟨y.2.2.2,e.2.2.2⟩) (fun y=>CurAt (k+2000) y.1 y.2.1∧y.2.2.2.length=ts.length∧BoxOk 100 ⟨y.2.2.2,e.2.2.2⟩)
  (fun i y hi hI=>.inl (by
   obtain ⟨c,b,z,l⟩ :=y
   obtain ⟨j1,j2,j3⟩ :=hI
   simp only at j1 j2 j3
   dsimp only [lp_Sy_34,m_Sy_34]
   rw [if_pos (by simp;omega)]
   obtain ⟨x1,c1,b1,z1,e1,hx1,hc1⟩ :=one_ok (s:=z) j1 (by omega) 2
   rw [e1]
   simp only [Option.bind_some]
   rw [w64_succ (by omega)]
   split
   ·obtain ⟨t,e3,m3⟩ :=rd_mem (l:=l) (x:=(i:Int)) (by omega) (by omega)
    rw [e3]
    simp only [Option.bind_some]
    exact ⟨(c1,b1,z1,_),rfl,hc1.le (by omega),by simpa using j2,j3.sett (by exact j3.nm t m3) _⟩
   ·exact ⟨(c1,b1,z1,_),rfl,hc1.le (by omega),j2,j3⟩))
  (fun y hI=>by
   obtain ⟨c,b,z,l⟩ :=y
   obtain ⟨j1,j2,j3⟩ :=hI
   refine ⟨_,?_,j1.le (by omega),j2,j3⟩
   dsimp only [lp_Sy_34,m_Sy_34]
   rw [if_neg (by simp)]) (s:=(e.1,e.2.1,e.2.2.1,ts)) ⟨g2.le (by omega),rfl,g4⟩
 have f1' : loopM (lp_Sy_34 ⟨ts,ps⟩ e.2.2.2) (0,e.1,e.2.1,e.2.2.1,ts)=some f:=f1
 rw [f1']
 exact ⟨_,_,_,_,rfl,f4,f2⟩
theorem acts_ok {k:Nat} {co:List Int} {a s:Int} (h:CurAt k co a) (hk:k < 10000000) (n:Int) (h0:0≤n) (hn:n≤100):Drawn (m_Sv ⟨co,a,s⟩ n) (k+1000) fun l=>1≤l.length∧l.length≤101:=by
 dsimp only [m_Sv,m_Sv_0]
 rw [ck_eq (by simp)]
 simp only [Option.bind_some]
 obtain ⟨e,g1,g2,g3⟩ :=loopM_inv (b:=lp_Sv_11 n) (fun i (y:List Int×Int×Int×List Zc)=>((i:Int),y)) n.toNat
  (fun i y=>CurAt (k+6*i) y.1 y.2.1∧y.2.2.2.length=i+1) (fun e=>CurAt (k+1000) e.1 e.2.1∧e.2.2.2.length=n.toNat+1)
  (fun i y hi hI=>.inl (by
   obtain ⟨c,b,z,l⟩ :=y
   obtain ⟨j1,j2⟩ :=hI
   simp only at j1 j2
   have e46:∀ (m:Nat) (c:List Int) (b z x y:Int),m≤k+6*(i+1)→CurAt m c b→
     ∃ y',m_Sv_46 n i l c b z x y=some (.inl (((i+1:Nat):Int),y'))∧CurAt (k+6*(i+1)) y'.1 y'.2.1∧y'.2.2.2.length=i+1+1:=by
    intro m c b z x y hm hc
    dsimp only [m_Sv_46]
    rw [ck_eq (by simp;omega)]
    simp only [Option.bind_some]
    rw [w64_succ (by omega)]
    exact ⟨(c,b,z,_),rfl,hc.le hm,by simp;omega⟩
   dsimp only [lp_Sv_11,m_Sv_11]
   rw [if_pos (by simp;omega)]
   obtain ⟨x1,c1,b1,z1,e1,hx1,hc1⟩ :=pick_ok (s:=z) j1 (by omega) 5
   rw [e1]
   simp only [Option.bind_some]
   split
   ·obtain ⟨x2,c2,b2,z2,e2,hx2,hc2⟩ :=pick_ok (s:=z1) hc1 (by omega) 3000
    rw [e2]
    exact e46 _ _ _ _ _ _ (by omega) hc2
   ·split
    ·obtain ⟨x2,c2,b2,z2,e2,hx2,hc2⟩ :=pick_ok (s:=z1) hc1 (by omega) 900
     rw [e2]
     exact e46 _ _ _ _ _ _ (by omega) hc2
    ·split
     ·obtain ⟨x2,c2,b2,z2,e2,hx2,hc2⟩ :=pick_ok (s:=z1) hc1 (by omega) 376
      rw [e2]
      exact e46 _ _ _ _ _ _ (by omega) hc2
     ·split
      ·obtain ⟨x2,c2,b2,z2,e2,hx2,hc2⟩ :=one_ok (s:=z1) hc1 (by omega) 2
       rw [e2]
       simp only [Option.bind_some]
       split
       ·exact e46 _ _ _ _ _ _ (by omega) hc2
       ·exact e46 _ _ _ _ _ _ (by omega) hc2
      ·exact e46 _ _ _ _ _ _ (by omega) hc1))
  (fun y hI=>by
   obtain ⟨c,b,z,l⟩ :=y
   obtain ⟨j1,j2⟩ :=hI
   refine ⟨_,?_,j1.le (by omega),j2⟩
   dsimp only [lp_Sv_11,m_Sv_11]
   rw [if_neg (by simp;omega)]) (s:=(co,a,s,[⟨1,0⟩])) ⟨h.le (by omega),rfl⟩
 have g1' : loopM (lp_Sv_11 n) (0,co,a,s,(([]:List Zc)++([(Zc.mk 1 0)]:List Zc)))=some e:=g1
 rw [g1']
 simp only [Option.bind_some]
 refine ⟨_,_,_,_,rfl,?_,g2⟩
 show 1≤e.2.2.2.length∧e.2.2.2.length≤101
 omega
theorem draw10_ok {k:Nat} {co:List Int} {a s:Int} (h:CurAt k co a) (hk:k < 9000000) (ts:List Za) (ps:List Zb) (hb:BoxOk 100 ⟨ts,ps⟩) :
  ∃ sp acts,m_Sa_10 co a s ts ps=some (⟨ts,ps⟩,sp,acts)∧acts.length≤101:=by
 dsimp only [m_Sa_10]
 obtain ⟨x0,c0,b0,z0,e0,hx0,hc0⟩ :=pick_in (s:=s) h (by omega) (p:=30) (by omega)
 rw [e0]
 simp only [Option.bind_some]
 obtain ⟨x1,c1,b1,z1,e1,hx1,hc1⟩ :=pick_in (s:=z0) hc0 (by omega) (p:=12) (by omega)
 rw [e1]
 simp only [Option.bind_some]
 obtain ⟨x2,c2,b2,z2,e2,hx2,hc2⟩ :=acts_ok (s:=z1) hc1 (by omega) x1 (by omega) (by omega)
 rw [e2]
 simp only [Option.bind_some]
 obtain ⟨x3,c3,b3,z3,e3,hx3,hc3⟩ :=pick_in (s:=z2) hc2 (by omega) (p:=16) (by omega)
 rw [e3]
 simp only [Option.bind_some]
 split
 ·obtain ⟨x4,c4,b4,z4,e4,hx4,hc4⟩ :=pick_in (s:=z3) hc3 (by omega) (p:=3) (by omega)
  rw [e4]
  simp only [Option.bind_some]
  obtain ⟨y,e5,_⟩ :=rd_mem (l:=([0,1000,1001]:List Int)) hx4.1 (by simp;omega)
  rw [e5]
  exact ⟨_,_,rfl,hx2.2⟩
 ·split
  ·obtain ⟨x4,c4,b4,z4,e4,hx4,hc4⟩ :=pick_in (s:=z3) hc3 (by omega) (p:=(x2.length:Int)) (by omega)
   rw [e4]
   simp only [Option.bind_some]
   obtain ⟨x5,c5,b5,z5,e5,hx5,hc5⟩ :=pick_in (s:=z4) hc4 (by omega) (p:=4) (by omega)
   rw [e5]
   simp only [Option.bind_some]
   obtain ⟨y,e6,_⟩ :=rd_mem (l:=([(-1),24,401,100001]:List Int)) hx5.1 (by simp;omega)
   rw [e6]
   simp only [Option.bind_some]
   obtain ⟨z,e7,_⟩ :=rd_mem (l:=x2) hx4.1 hx4.2
   rw [e7]
   exact ⟨_,_,rfl,by simpa using hx2.2⟩
  ·split
   ·obtain ⟨x4,c4,b4,z4,e4,hx4,hc4⟩ :=pick_in (s:=z3) hc3 (by omega) (p:=(x2.length:Int)) (by omega)
    rw [e4]
    simp only [Option.bind_some]
    obtain ⟨x5,c5,b5,z5,e5,hx5,hc5⟩ :=pick_in (s:=z4) hc4 (by omega) (p:=2) (by omega)
    rw [e5]
    simp only [Option.bind_some]
    obtain ⟨z,e7,_⟩ :=rd_mem (l:=x2) hx4.1 hx4.2
    rw [e7]
    exact ⟨_,_,rfl,by simpa using hx2.2⟩
   ·exact ⟨_,_,rfl,hx2.2⟩
theorem draw_run_ok (l:List Int) (hl:l.length≤1048576) (hb:∀ x ∈ l,0≤x∧x≤255):∃ b sp acts,m_Sa l=some (b,sp,acts)∧SmB b∧acts.length≤101:=by
 dsimp only [m_Sa,m_Sa_0]
 obtain ⟨x0,c0,b0,z0,e0,hx0,hc0⟩ :=drawn_ok l hl hb
 rw [e0]
 simp only [Option.bind_some]
 obtain ⟨x1,c1,b1,z1,e1,hx1,hc1⟩ :=one_ok (s:=z0) hc0 (by omega) 2
 rw [e1]
 simp only [Option.bind_some]
 split
 ·obtain ⟨x2,c2,b2,z2,e2,hx2,hc2⟩ :=pick_in (s:=z1) hc1 (by omega) (p:=20) (by omega)
  rw [e2]
  simp only [Option.bind_some]
  obtain ⟨x3,c3,b3,z3,e3,hx3,hc3⟩ :=box_ok (s:=z2) hc2 (by omega) (w64 (10+x2)) (by rw [w64_id (by omega) (by omega)];omega)
  rw [e3]
  simp only [Option.bind_some]
  obtain ⟨x4,c4,b4,z4,e4,hx4,hc4⟩ :=heavy_ok (s:=z3) hc3 (by omega) hx3
  rw [e4]
  simp only [Option.bind_some]
  obtain ⟨sp,acts,e5,h5⟩ :=draw10_ok (s:=z4) hc4 (by omega) x4.tracks x4.packets hx4
  exact ⟨_,_,_,e5,hx4.sm (by omega),h5⟩
 ·obtain ⟨sp,acts,e5,h5⟩ :=draw10_ok (s:=z1) hc1 (by omega) x0.tracks x0.packets hx0
  exact ⟨_,_,_,e5,hx0.sm (by omega),h5⟩
end Go.Proofs.V

namespace Go.Proofs.V
open Go
def kind34 (b:Ze) (t:Nat):Prop:=(b.tracks.getD t default).kind=3∨(b.tracks.getD t default).kind=4
def ShowOk (b:Ze) (x:Zf):Prop:=∃ i,i < b.packets.length∧x.packet=(i:Int)∧w64 (Int.tdiv (dueF b i) 1000)≤x.clock∧(x.dropped=true→(pkAt b i).key=false∧kind34 b (trF b i))
structure RunI (b:Ze) (s:PS):Prop where
 w:0≤s.wall
 cl:w64 s.clock=s.clock
 d:∀ t,s.drop.getD t false=true→kind34 b t
 le:∀ x ∈ s.shows,0≤x.wall∧x.wall≤s.wall
 up:s.shows.Pairwise fun x y=>x.wall≤y.wall
 ok:∀ x ∈ s.shows,ShowOk b x
theorem getD_setF (l:List Bool) (i:Nat):(l.set i false).getD i false=false:=by
 rw [List.getD_eq_getElem?_getD,List.getElem?_set]
 simp only [if_true]
 split <;> rfl
theorem getD_setT (l:List Bool) (i j:Nat) (v:Bool):(l.set i v).getD j false=true→(i=j∧v=true)∨l.getD j false=true:=by
 rw [List.getD_eq_getElem?_getD,List.getElem?_set,List.getD_eq_getElem?_getD]
 by_cases h:i=j
 ·rw [if_pos h]
  split
  ·intro hv;exact .inl ⟨h,hv⟩
  ·intro hv;simp at hv
 ·rw [if_neg h];exact .inr
theorem clock_rng {c:Int} (h:w64 c=c) : -9223372036854775808≤c∧c≤9223372036854775807:=by rw [w64_def] at h;omega
section
variable {b:Ze} (hr:RightF b) {sp:Int} (hsp:1≤sp)
include hr hsp
theorem drop1_ok {s:PS} (h:RunI b s) (i:Nat):(∀ t,(drop1 b s i).getD t false=true→kind34 b t)∧((pkAt b i).key=true→(drop1 b s i).getD (trF b i) false=false):=by
 unfold drop1
 cases hk:(pkAt b i).key with
 | true=>
  rw [if_pos rfl]
  refine ⟨fun t ht=>?_,fun _=>getD_setF _ _⟩
  rcases getD_setT _ _ _ _ ht with ⟨_,h2⟩ | h2
  ·simp at h2
  ·exact h.d t h2
 | false=>exact ⟨fun t ht=>h.d t ht,fun h2=>by simp at h2⟩
theorem late_kind {s:PS} {i:Nat} (h:lateF b sp s i=true):kind34 b (trF b i)∧(pkAt b i).key=false:=by
 simp only [lateF,Bool.and_eq_true,Bool.or_eq_true,decide_eq_true_eq,Bool.not_eq_true'] at h
 exact ⟨h.1.1,h.1.2⟩
theorem drop2_ok {s:PS} (h:RunI b s) (i:Nat):(∀ t,(drop2 b sp s i).getD t false=true→kind34 b t)∧((drop2 b sp s i).getD (trF b i) false=true→(pkAt b i).key=false):=by
 obtain ⟨h1,h2⟩ :=drop1_ok hr hsp h i
 unfold drop2
 cases hq:lateF b sp s i with
 | true=>
  rw [if_pos rfl]
  have h3:=late_kind hr hsp hq
  refine ⟨fun t ht=>?_,fun _=>h3.2⟩
  rcases getD_setT _ _ _ _ ht with ⟨e,_⟩ | h4
  ·rw [←e];exact h3.1
  ·exact h1 t h4
 | false=>
  rw [if_neg (by simp)]
  refine ⟨h1,fun ht=>?_⟩
  cases hk:(pkAt b i).key with
  | false=>rfl
  | true=>rw [h2 hk] at ht;simp at ht
theorem run_thr {s:PS} (h:RunI b s) {i:Nat} (hi:i < b.packets.length) (hd:dueF b i≤s.clock):RunI b (thr b sp s i):=by
 obtain ⟨h1,h2⟩ :=drop2_ok hr hsp h i
 have hdn:=due_nn hr hi
 have hcl:=clock_rng h.cl
 refine ⟨h.w,h.cl,h1,fun x hx=>?_,?_,fun x hx=>?_⟩
 ·simp only [thr,List.mem_append,List.mem_singleton] at hx
  rcases hx with hx | hx
  ·exact h.le x hx
  ·rw [hx];exact ⟨h.w,Int.le_refl _⟩
 ·show (s.shows++[_]).Pairwise _
  rw [List.pairwise_append]
  refine ⟨h.up,by simp,fun x hx y hy=>?_⟩
  rw [List.mem_singleton] at hy
  rw [hy]
  exact (h.le x hx).2
 ·simp only [thr,List.mem_append,List.mem_singleton] at hx
  rcases hx with hx | hx
  ·exact h.ok x hx
  ·rw [hx]
   refine ⟨i,hi,rfl,?_,fun ht=>⟨h2 ht,h1 _ ht⟩⟩
   show w64 (Int.tdiv (dueF b i) 1000)≤w64 (Int.tdiv s.clock 1000)
   rw [Int.tdiv_eq_ediv_of_nonneg hdn.1,Int.tdiv_eq_ediv_of_nonneg (by omega),w64_id (by omega) (by omega),w64_id (by omega) (by omega)]
   omega
theorem run_setG {s:PS} (h:RunI b s) (i:Nat):RunI b (setG s i):=⟨h.w,h.cl,h.d,h.le,h.up,h.ok⟩
theorem run_stp {s:PS} (h:RunI b s) {i:Nat} (hi:i < b.packets.length):RunI b (stp b sp s i):=by
 unfold stp
 split
 ·exact h
 ·split
  ·rename_i hd
   exact run_thr hr hsp (run_setG hr hsp h i) hi hd
  ·exact h
theorem fold_stp:∀ (l:List Nat) (s:PS),(∀ i ∈ l,i < b.packets.length)→RunI b s→RunI b (l.foldl (stp b sp) s)∧(l.foldl (stp b sp) s).wall=s.wall
 | [],s,_,h=>⟨h,rfl⟩
 | i::l,s,hl,h=>by
  obtain ⟨h1,h2⟩ :=fold_stp l (stp b sp s i) (fun j hj=>hl j (by simp [hj])) (run_stp hr hsp h (hl i (by simp)))
  refine ⟨h1,?_⟩
  rw [List.foldl_cons,h2]
  unfold stp
  split
  ·rfl
  ·split <;> rfl
theorem run_tick {s:PS} (h:RunI b s) (hw:s.wall < 1000000000000) (pace:Int):RunI b (tkF b sp pace s)∧(tkF b sp pace s).wall=s.wall+1:=by
 have hw1:w64 (s.wall+1)=s.wall+1:=by have:=h.w;exact w64_id (by omega) (by omega)
 have h0:RunI b (onF s pace):=⟨by show 0≤w64 (s.wall+1);rw [hw1];have:=h.w;omega,w64_w _,h.d,fun x hx=>by
  show 0≤x.wall∧x.wall≤w64 (s.wall+1);rw [hw1];have:=h.le x hx;omega,h.up,h.ok⟩
 obtain ⟨h1,h2⟩ :=fold_stp hr hsp (List.range b.packets.length) (onF s pace) (fun i hi=>by simpa using hi) h0
 exact ⟨h1,by unfold tkF tickF;rw [h2];exact hw1⟩
theorem run_tickN {s:PS} (h:RunI b s) (pace:Int):∀ k:Nat,s.wall+k < 1000000000000→RunI b (tickN b sp pace k s)∧(tickN b sp pace k s).wall=s.wall+k
 | 0,_=>⟨h,by simp [tickN]⟩
 | k+1,hk=>by
  obtain ⟨h1,h2⟩ :=run_tickN h pace k (by omega)
  obtain ⟨h3,h4⟩ :=run_tick hr hsp h1 (by omega) pace
  exact ⟨h3,by show (tkF b sp pace (tickN b sp pace k s)).wall=_;rw [h4,h2];omega⟩
theorem run_seek {s:PS} (h:RunI b s) (ms:Int):RunI b (seekF b sp s ms)∧(seekF b sp s ms).wall=s.wall:=by
 have h0:RunI b (atF b s ms):=⟨h.w,w64_w _,fun t ht=>by
  simp only [atF,List.getD_eq_getElem?_getD,List.getElem?_replicate] at ht
  split at ht <;> simp at ht,h.le,h.up,h.ok⟩
 have key:∀ (l:List Nat) (s:PS),RunI b s→RunI b (l.foldl (skF b sp) s)∧(l.foldl (skF b sp) s).wall=s.wall:=by
  intro l
  induction l with
  | nil=>intro s h;exact ⟨h,rfl⟩
  | cons i l ih=>
   intro s h
   obtain ⟨h1,h2⟩ :=ih (skF b sp s i) ⟨h.w,h.cl,h.d,h.le,h.up,h.ok⟩
   exact ⟨h1,h2⟩
 exact key _ _ h0
def waits:List Zc→Int
 | []=>0
 | a::l=>(if a.kind=4 then a.value else 0)+waits l
omit hr hsp in
theorem waits_snoc (l:List Zc) (a:Zc):waits (l++[a])=waits l+(if a.kind=4 then a.value else 0):=by
 induction l with
 | nil=>simp [waits]
 | cons x l ih=>simp only [List.cons_append,waits,ih];omega
omit hr hsp in
theorem act_4 {a:Zc} (h:actOk a=true) (h4:a.kind=4):0≤a.value∧a.value≤100000:=by
 unfold actOk at h
 simpa [h4] using h
omit hr hsp in
theorem waits_le:∀ (l:List Zc),(∀ a ∈ l,actOk a=true)→0≤waits l∧waits l≤100000*l.length
 | [],_=>by simp [waits]
 | a::l,h=>by
  have ih:=waits_le l fun x hx=>h x (by simp [hx])
  simp only [waits,List.length_cons]
  split
  ·rename_i h4
   have:=act_4 (h a (by simp)) h4
   omega
  ·omega
theorem run_act {x:PA} (h:RunI b x.s) (hw:x.s.wall≤100000000) {a:Zc} (ha:actOk a=true):RunI b (actF b sp x a).s∧(actF b sp x a).s.wall=x.s.wall+(if a.kind=4 then a.value else 0):=by
 unfold actF
 by_cases h1:a.kind=1
 ·rw [if_pos h1,if_neg (by omega)];exact ⟨h,by simp⟩
 ·rw [if_neg h1]
  by_cases h2:a.kind=2
  ·rw [if_pos h2,if_neg (by omega)];exact ⟨h,by simp⟩
  ·rw [if_neg h2]
   by_cases h5:a.kind=5
   ·rw [if_pos h5,if_neg (by omega)];exact ⟨h,by simp⟩
   ·rw [if_neg h5]
    by_cases h3:a.kind=3
    ·rw [if_pos h3,if_neg (by omega)]
     have:=run_seek hr hsp h a.value
     exact ⟨this.1,by simpa using this.2⟩
    ·rw [if_neg h3]
     have h4:a.kind=4:=by
      unfold actOk at ha
      rw [if_neg (by simp [h1,h2]),if_neg (by simpa using h3)] at ha
      by_cases h4:a.kind=4
      ·exact h4
      ·rw [if_neg (by simpa using h4),if_neg (by simpa using h5)] at ha
       simp at ha
     have hv:=act_4 ha h4
     rw [if_pos h4]
     cases hp:x.pl with
     | true=>
      rw [if_pos rfl]
      obtain ⟨k1,k2⟩ :=run_tickN hr hsp h x.pace a.value.toNat (by omega)
      exact ⟨k1,by rw [k2];omega⟩
     | false=>
      rw [if_neg (by simp)]
      have hw1:w64 (x.s.wall+a.value)=x.s.wall+a.value:=by have:=h.w;exact w64_id (by omega) (by omega)
      refine ⟨⟨?_,h.cl,h.d,fun y hy=>?_,h.up,h.ok⟩,hw1⟩
      ·show 0≤w64 (x.s.wall+a.value);rw [hw1];have:=h.w;omega
      ·show 0≤y.wall∧y.wall≤w64 (x.s.wall+a.value)
       rw [hw1];have:=h.le y hy;omega
theorem run_all (l:List Zc) (hn:l.length≤500) (hok:∀ a ∈ l,actOk a=true):∀ k,k≤l.length→RunI b (runF b sp (l.take k)).s∧(runF b sp (l.take k)).s.wall=waits (l.take k)
 | 0,_=>⟨⟨by simp [runF,initF],by simp [runF,initF];exact w64_id (by omega) (by omega),fun t ht=>by
   simp only [runF,List.take_zero,List.foldl_nil,initF,List.getD_eq_getElem?_getD,List.getElem?_replicate] at ht
   split at ht <;> simp at ht,by simp [runF,initF],by simp [runF,initF],by simp [runF,initF]⟩,by simp [runF,initF,waits]⟩
 | k+1,hk=>by
  obtain ⟨h1,h2⟩ :=run_all l hn hok k (by omega)
  have e:l.take (k+1)=l.take k++[l[k]]:=List.take_succ_eq_append_getElem (by omega)
  have hw:=waits_le (l.take k) fun a ha=>hok a (List.mem_of_mem_take ha)
  have hlen:(l.take k).length≤500:=by rw [List.length_take];omega
  have:=run_act hr hsp h1 (by omega) (hok l[k] (by simp))
  rw [e,waits_snoc]
  unfold runF at this h2 ⊢
  rw [List.foldl_append]
  refine ⟨this.1,?_⟩
  show (actF b sp _ _).s.wall=_
  rw [this.2,h2]
end
theorem played_ok {b:Ze} {sp:Int} {p2:List Zc} (hgood:goodOk b=true) (hsp:1≤sp) (hn:p2.length≤500) (hok:∀ a ∈ p2,actOk a=true):RunI b (runF b sp p2).s∧(runF b sp p2).s.wall=waits p2:=by
 have:=run_all (good_right hgood) hsp p2 hn hok p2.length (Nat.le_refl _)
 rwa [List.take_length] at this
theorem runs_RunPlayer (b:Ze) (sp:Int) (p2:List Zc) (hb:SmB b) (hp:p2.length≤1048576) :
  ∃ w:Zg,m_Sd b sp p2=some w∧m_Ib b sp p2=some w∧(w.err=0→goodOk b=true∧1≤sp∧p2.length≤500∧(∀ a ∈ p2,actOk a=true)∧w=playedF b sp p2):=by
 have bad:∃ w:Zg,m_Sd_5 sp p2 b true=some w∧m_Ib_5 sp p2 b true=some w∧(w.err=0→goodOk b=true∧1≤sp∧p2.length≤500∧(∀ a ∈ p2,actOk a=true)∧w=playedF b sp p2):=⟨⟨1,[],0,0⟩,rfl,rfl,fun h=>by simp at h⟩
 obtain ⟨w,h1,h2,_⟩ :=core_RunPlayer b sp p2 hb hp
 refine ⟨w,h1,h2,fun he=>?_⟩
 simp only [m_Sd,m_Sd_0] at h1
 rw [spec_good b hb] at h1
 simp only [Option.bind_some] at h1
 have h5:m_Sd_5 sp p2 b true=some ⟨1,[],0,0⟩ :=rfl
 have no:m_Sd_5 sp p2 b true=some w→False:=by
  intro h
  rw [h5] at h
  have:w=⟨1,[],0,0⟩ :=(Option.some.inj h).symm
  rw [this] at he
  simp at he
 cases hg:goodOk b with
 | false=>
  rw [hg] at h1
  exact (no h1).elim
 | true=>
  rw [hg] at h1
  simp only [if_true] at h1
  by_cases q1:sp < 1
  ·rw [if_pos (by simpa using q1)] at h1;exact (no h1).elim
  ·rw [if_neg (by simpa using q1)] at h1
   by_cases q2:sp > 1000
   ·rw [if_pos (by simpa using q2)] at h1;exact (no h1).elim
   ·rw [if_neg (by simpa using q2)] at h1
    by_cases q3:(p2.length:Int) > 500
    ·rw [show decide ((p2.length:Int) > 500)=true by simpa using q3] at h1;exact (no h1).elim
    ·rw [show decide ((p2.length:Int) > 500)=false by simpa using q3] at h1
     have hs' : loopM (lp_Sd_15 sp p2 b) 0=some (bif p2.all actOk then .inr () else .inl (Zg.mk 1 ([]:List Zf) 0 0)):=all_fold (l:=p2) (σ:=Unit) (fun _ i=>(i:Int)) (q:=actOk) (g:=fun _ _=>()) (I:=fun _ _=>True) (b:=lp_Sd_15 sp p2 b) (e0:=.inl (Zg.mk 1 ([]:List Zf) 0 0)) (e1:=fun _=>.inr ())
      (fun i s h _=>by
       have e:lp_Sd_15 sp p2 b (i:Int)=if actOk p2[i] then some (.inl (((i+1:Nat):Int))) else some (.inr (.inl (Zg.mk 1 ([]:List Zf) 0 0))):=by
        dsimp only [lp_Sd_15,m_Sd_15]
        rw [if_pos (by simpa using h),rd_eq h]
        simp only [Option.bind_some]
        rw [spec_act]
        simp only [Option.bind_some]
        rw [w64_succ (by omega)]
       exact ⟨fun hq=>⟨by rw [e,hq];rfl,trivial⟩,fun hq=>by rw [e,hq];rfl⟩)
      (fun _ _=>by dsimp only [lp_Sd_15,m_Sd_15];rw [if_neg (by simp)]) () trivial
     dsimp only [m_Sd_5] at h1
     rw [if_neg (by simp),hs'] at h1
     cases ha:p2.all actOk with
     | false=>
      rw [ha] at h1
      simp only [cond_false,Option.bind_some] at h1
      have:w=⟨1,[],0,0⟩ :=(Option.some.inj h1).symm
      rw [this] at he
      simp at he
     | true=>
      rw [ha] at h1
      simp only [cond_true,Option.bind_some] at h1
      have hall:∀ a ∈ p2,actOk a=true:=by simpa [List.all_eq_true] using ha
      rw [spec_33 hg (sp:=sp) (by omega) p2 (by omega) hall] at h1
      exact ⟨rfl,by omega,by omega,hall,(Option.some.inj h1).symm⟩
end Go.Proofs.V

namespace Go.Proofs.V
end Go.Proofs.V

namespace Go.Proofs.V
open Go
theorem law_waits (x1:Ze×Int×List Zc) (w2 w3:Zg) (hn:x1.2.2.length≤500) (hok:∀ a ∈ x1.2.2,actOk a=true):loopM (lp_laws_FnPlayer_39 x1 w2 w3) (0,0)=some (waits x1.2.2):=by
 have h:=loopM_fun (b:=lp_laws_FnPlayer_39 x1 w2 w3) (fun i (t:Int)=>(t,(i:Int))) x1.2.2.length (fun i=>waits (x1.2.2.take i)) (e:=waits x1.2.2) (fun i hi=>by
   dsimp only [lp_laws_FnPlayer_39,m_laws_FnPlayer_39]
   rw [if_pos (by simpa using hi),rd_eq hi]
   simp only [Option.bind_some]
   rw [w64_succ (by omega)]
   have e:x1.2.2.take (i+1)=x1.2.2.take i++[x1.2.2[i]]:=List.take_succ_eq_append_getElem (by omega)
   rw [e,waits_snoc]
   have hw:=waits_le (x1.2.2.take i) fun a ha=>hok a (List.mem_of_mem_take ha)
   have hlen:(x1.2.2.take i).length≤500:=by rw [List.length_take];omega
   by_cases h4:x1.2.2[i].kind=4
   ·have:=act_4 (hok x1.2.2[i] (by simp)) h4
    rw [if_pos (by simpa using h4),if_pos h4,w64_id (by omega) (by omega)]
   ·rw [if_neg (by simpa using h4),if_neg h4,Int.add_zero]) (by
   dsimp only [lp_laws_FnPlayer_39,m_laws_FnPlayer_39]
   rw [if_neg (by simp),List.take_length])
 exact h
theorem law_shows (t:Int) (x1:Ze×Int×List Zc) (hb:SmB x1.1) (hgood:goodOk x1.1=true) (w:Zg) (s:PS) (hs:RunI x1.1 s) (hw:w.shows=s.shows) (hl:s.shows.length < 1000000000):loopM (lp_laws_FnPlayer_62 t w w x1) (0,0)=some (.inr ()):=by
 have hr:=good_right hgood
 obtain ⟨e,h1,h2⟩ :=loopM_inv (b:=lp_laws_FnPlayer_62 t w w x1) (fun i (p:Int)=>(p,(i:Int))) s.shows.length (fun i p=>∀ j,(hj:j < s.shows.length)→i≤j→p≤s.shows[j].wall) (fun e=>e = .inr ())
  (fun i p hi hI=>.inl (by
   dsimp only [lp_laws_FnPlayer_62,m_laws_FnPlayer_62]
   rw [hw,if_pos (by simpa using hi),rd_eq hi]
   simp only [Option.bind_some,beq_self_eq_true,Bool.and_self,Bool.and_true,if_true]
   have hle:=hI i hi (Nat.le_refl _)
   obtain ⟨k,k1,k2,k3,k4⟩ :=hs.ok s.shows[i] (by simp)
   rw [if_neg (by simpa using hle),k2,if_neg (by simp),if_neg (by simpa using k1)]
   have hdue:m_Sb x1.1 (k:Int)=some (dueF x1.1 k):=by
    dsimp only [m_Sb,m_Sb_0]
    rw [spec_good x1.1 hb,hgood]
    simp only [Option.bind_some,if_true]
    rw [if_neg (by simp),if_neg (by simpa using k1),spec_due hr k1]
    rfl
   rw [hdue]
   simp only [Option.bind_some]
   rw [if_neg (by simpa using k3),rd_pk k1]
   simp only [Option.bind_some]
   obtain ⟨j1,j2,_⟩ :=hr.pk k1
   obtain ⟨x,r,_,ex⟩ :=rd_tr j1.1 j1.2
   rw [r]
   simp only [Option.bind_some]
   rw [w64_succ (by omega)]
   have next:∀ j,(hj:j < s.shows.length)→i+1≤j→s.shows[i].wall≤s.shows[j].wall:=fun j hj hij=>List.pairwise_iff_getElem.1 hs.up i j hi hj (by omega)
   cases hd:s.shows[i].dropped with
   | false=>exact ⟨_,rfl,next⟩
   | true=>
    obtain ⟨m1,m2⟩ :=k4 hd
    rw [m1]
    simp only [if_true,Bool.false_eq_true,if_false]
    have m3:x.kind=3∨x.kind=4:=by rw [ex];exact m2
    by_cases q:x.kind=3
    ·rw [if_neg (by simpa using q)];exact ⟨_,rfl,next⟩
    ·rw [if_pos (by simpa using q),if_neg (by simp;omega)];exact ⟨_,rfl,next⟩))
  (fun p hI=>by
   refine ⟨_,?_,rfl⟩
   dsimp only [lp_laws_FnPlayer_62,m_laws_FnPlayer_62]
   rw [hw,if_neg (by simp)]) (s:=(0:Int)) (fun j hj _=>(hs.le _ (by simp)).1)
 rw [←h2]
 exact h1
theorem final_FnPlayer (x0:List Int) (w0:x0.length≤maxLen∧∀ y0 ∈ x0,inK .u8 y0):m_laws_FnPlayer x0=some true:=by
 dsimp only [m_laws_FnPlayer,m_laws_FnPlayer_0]
 by_cases hq:(x0.length:Int) > 1048576
 ·rw [if_pos (by simpa using hq)]
 ·rw [if_neg (by simpa using hq)]
  obtain ⟨b,sp,acts,e1,hb,ha⟩ :=draw_run_ok x0 (by omega) (fun x hx=>by
   have:=w0.2 x hx
   exact ⟨this.1,this.2⟩)
  rw [e1]
  simp only [Option.bind_some]
  obtain ⟨w,h1,h2,h3⟩ :=runs_RunPlayer b sp acts hb (by omega)
  rw [h1,h2]
  simp only [Option.bind_some,bne_self_eq_false,Bool.false_eq_true,if_false]
  by_cases he:w.err=0
  ·obtain ⟨g1,g2,g3,g4,g5⟩ :=h3 he
   rw [if_neg (by simpa using he),law_waits (b,sp,acts) w w g3 g4]
   simp only [Option.bind_some]
   dsimp only [m_laws_FnPlayer_55]
   obtain ⟨r1,r2⟩ :=played_ok g1 g2 g3 g4
   obtain ⟨so,_,l2⟩ :=spec_look (good_right g1) (sp:=sp) (by omega) (initF b).s (inv_init g1 (sp:=sp) (by omega)).g 100 false 0
   obtain ⟨so2,_,r3⟩ :=spec_run g1 (sp:=sp) (by omega) acts (by omega) g4 so l2
   have r4:=r3.n
   rw [law_shows (waits acts) (b,sp,acts) hb g1 w _ r1 (by rw [g5];rfl) (by omega)]
   simp only [Option.bind_some]
   dsimp only [m_laws_FnPlayer_92]
   have:w.wall=waits acts:=by rw [g5];exact r2
   rw [this]
   simp
  ·rw [if_pos (by simpa using he)]
end Go.Proofs.V
