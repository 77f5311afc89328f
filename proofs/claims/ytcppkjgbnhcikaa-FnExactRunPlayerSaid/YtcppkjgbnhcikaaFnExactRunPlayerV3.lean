import Derived.Test.YtcppkjgbnhcikaaFnExactRunPlayerV2
set_option linter.unusedVariables false
set_option maxRecDepth 100000
namespace Go.Proofs.V
open Go
structure S_Track where
 kind:Int
 scale:Int
 name:ByteArray
 deriving DecidableEq,Inhabited
structure S_Packet where
 track:Int
 time:Int
 span:Int
 key:Bool
 data:(List Int)
 deriving DecidableEq,Inhabited
structure S_Box where
 tracks:(List S_Track)
 packets:(List S_Packet)
 deriving DecidableEq,Inhabited
structure S_Act where
 kind:Int
 value:Int
 deriving DecidableEq,Inhabited
structure S_Show where
 wall:Int
 clock:Int
 packet:Int
 dropped:Bool
 deriving DecidableEq,Inhabited
structure S_Played where
 err:Int
 shows:(List S_Show)
 wall:Int
 clock:Int
 deriving DecidableEq,Inhabited
structure S_l17P where
 b:S_Box
 due:(List Int)
 speed:Int
 wall:Int
 clock:Int
 pace:Int
 playing:Bool
 busy:Int
 gone:(List Bool)
 left:Int
 soon:Int
 drop:(List Bool)
 shows:(List S_Show)
 deriving DecidableEq,Inhabited
structure S_zplayer where
 b:S_Box
 speed:Int
 due:(List Int)
 gone:(List Bool)
 next:Int
 dropping:(List Bool)
 wall:Int
 clock:Int
 busy:Int
 shows:(List S_Show)
 deriving DecidableEq,Inhabited
def rS_Track (x:S_Track):List T:=[.lit (.int .i64 x.kind),.lit (.int .i64 x.scale),.lit (.string x.name)]
def rS_Packet (x:S_Packet):List T:=[.lit (.int .i64 x.track),.lit (.int .i64 x.time),.lit (.int .i64 x.span),.lit (.bool x.key),.sl (x.data.map (rI .u8))]
def rS_Act (x:S_Act):List T:=[.lit (.int .i64 x.kind),.lit (.int .i64 x.value)]
def rS_Show (x:S_Show):List T:=[.lit (.int .i64 x.wall),.lit (.int .i64 x.clock),.lit (.int .i64 x.packet),.lit (.bool x.dropped)]
noncomputable def m_Lba_0 (p0:S_Track) (p1:Int):Option (Int):=
 if (decide ((w64 (p1 - (p0.name.size:Int))) < 0)) then
  some (-1)
 else
  some (w64 (p1 - (p0.name.size:Int)))
noncomputable def m_Lba (p0:S_Track) (p1:Int):Option (Int):=m_Lba_0 p0 p1
noncomputable def m_Lbb_35 (i35_0:Int):Option (Int):=
 some i35_0
noncomputable def m_Lbb_17 (p0:(List S_Track)) (i17_0 i17_1:Int):Option ((Int×Int)⊕((Int)⊕((Int)))):=
 if (decide (i17_1 < (p0.length:Int))) then
  (rd p0 i17_1).bind fun x17_1=>
  (m_Lba x17_1 i17_0).bind fun x17_2=>
  if (decide (x17_2 < 0)) then
   some (.inr (.inl (-1)))
  else
   some (.inl (x17_2,(w64 (i17_1+1))))
 else
  some (.inr (.inr i17_0))
noncomputable def lp_Lbb_17 (p0:(List S_Track)) (s:Int×Int):Option ((Int×Int)⊕((Int)⊕((Int)))):=m_Lbb_17 p0 s.1 s.2
noncomputable def m_Lbb_0 (p0:(List S_Track)) (p1:Int):Option (Int):=
 if (decide ((w64 (p1 - (p0.length:Int))) < 0)) then
  some (-1)
 else
  (loopM (lp_Lbb_17 p0) ((w64 (p1 - (p0.length:Int))),0)).bind fun e=>match e with | .inl e=>some e | .inr e=>m_Lbb_35 e
noncomputable def m_Lbb (p0:(List S_Track)) (p1:Int):Option (Int):=m_Lbb_0 p0 p1
noncomputable def m_Lx_0 (p0:(List Int)) (p1:Int):Option (Int):=
 if (decide ((w64 (p1 - (p0.length:Int))) < 0)) then
  some (-1)
 else
  some (w64 (p1 - (p0.length:Int)))
noncomputable def m_Lx (p0:(List Int)) (p1:Int):Option (Int):=m_Lx_0 p0 p1
noncomputable def m_Ly_0 (p0:S_Packet) (p1:Int):Option (Int):=
 (m_Lx p0.data p1).bind fun x0_0=>
 if (decide (x0_0 < 0)) then
  some (-1)
 else
  some x0_0
noncomputable def m_Ly (p0:S_Packet) (p1:Int):Option (Int):=m_Ly_0 p0 p1
noncomputable def m_Lz_35 (i35_0:Int):Option (Int):=
 some i35_0
noncomputable def m_Lz_17 (p0:(List S_Packet)) (i17_0 i17_1:Int):Option ((Int×Int)⊕((Int)⊕((Int)))):=
 if (decide (i17_1 < (p0.length:Int))) then
  (rd p0 i17_1).bind fun x17_1=>
  (m_Ly x17_1 i17_0).bind fun x17_2=>
  if (decide (x17_2 < 0)) then
   some (.inr (.inl (-1)))
  else
   some (.inl (x17_2,(w64 (i17_1+1))))
 else
  some (.inr (.inr i17_0))
noncomputable def lp_Lz_17 (p0:(List S_Packet)) (s:Int×Int):Option ((Int×Int)⊕((Int)⊕((Int)))):=m_Lz_17 p0 s.1 s.2
noncomputable def m_Lz_0 (p0:(List S_Packet)) (p1:Int):Option (Int):=
 if (decide ((w64 (p1 - (p0.length:Int))) < 0)) then
  some (-1)
 else
  (loopM (lp_Lz_17 p0) ((w64 (p1 - (p0.length:Int))),0)).bind fun e=>match e with | .inl e=>some e | .inr e=>m_Lz_35 e
noncomputable def m_Lz (p0:(List S_Packet)) (p1:Int):Option (Int):=m_Lz_0 p0 p1
noncomputable def m_Lw_0 (p0:S_Box) (p1:Int):Option (Int):=
 (m_Lbb p0.tracks p1).bind fun x0_0=>
 if (decide (x0_0 < 0)) then
  some (-1)
 else
  (m_Lz p0.packets x0_0).bind fun x0_2=>
  if (decide (x0_2 < 0)) then
   some (-1)
  else
   some x0_2
noncomputable def m_Lw (p0:S_Box) (p1:Int):Option (Int):=m_Lw_0 p0 p1
noncomputable def m_Lv_0 (p0:(List S_Act)) (p1:Int):Option (Int):=
 if (decide ((w64 (p1 - (p0.length:Int))) < 0)) then
  some (-1)
 else
  some (w64 (p1 - (p0.length:Int)))
noncomputable def m_Lv (p0:(List S_Act)) (p1:Int):Option (Int):=m_Lv_0 p0 p1
noncomputable def m_Lbi_0 (p0:S_Track):Option (S_Track):=
 some p0
noncomputable def m_Lbi (p0:S_Track):Option (S_Track):=m_Lbi_0 p0
noncomputable def m_Lbj_19 (l19_0:(List S_Track)):Option ((List S_Track)):=
 some l19_0
noncomputable def m_Lbj_9 (p0:(List S_Track)) (i9_0:Int) (l9_1:(List S_Track)):Option ((Int×(List S_Track))⊕(((List S_Track)))):=
 if (decide (i9_0 < (p0.length:Int))) then
  (rd p0 i9_0).bind fun x9_1=>
  (m_Lbi x9_1).bind fun x9_2=>
  (rd l9_1 i9_0).bind fun _=>
  some (.inl ((w64 (i9_0+1)),(l9_1.set (0+Int.toNat i9_0) x9_2)))
 else
  some (.inr l9_1)
noncomputable def lp_Lbj_9 (p0:(List S_Track)) (s:Int×(List S_Track)):Option ((Int×(List S_Track))⊕(((List S_Track)))):=m_Lbj_9 p0 s.1 s.2
noncomputable def m_Lbj_0 (p0:(List S_Track)):Option ((List S_Track)):=
 (ck (decide ((0:Int)≤(p0.length:Int)∧(p0.length:Int)≤(4398046511104:Int)))).bind fun _=>
 (loopM (lp_Lbj_9 p0) (0,(List.replicate (Int.toNat (p0.length:Int)) ((S_Track.mk 0 0 (ByteArray.mk #[])):S_Track)))).bind fun e=>m_Lbj_19 e
noncomputable def m_Lbj (p0:(List S_Track)):Option ((List S_Track)):=m_Lbj_0 p0
noncomputable def m_Lbf_19 (l19_0:(List Int)):Option ((List Int)):=
 some l19_0
noncomputable def m_Lbf_9 (p0:(List Int)) (i9_0:Int) (l9_1:(List Int)):Option ((Int×(List Int))⊕(((List Int)))):=
 if (decide (i9_0 < (p0.length:Int))) then
  (rd p0 i9_0).bind fun x9_1=>
  (rd l9_1 i9_0).bind fun _=>
  some (.inl ((w64 (i9_0+1)),(l9_1.set (0+Int.toNat i9_0) x9_1)))
 else
  some (.inr l9_1)
noncomputable def lp_Lbf_9 (p0:(List Int)) (s:Int×(List Int)):Option ((Int×(List Int))⊕(((List Int)))):=m_Lbf_9 p0 s.1 s.2
noncomputable def m_Lbf_0 (p0:(List Int)):Option ((List Int)):=
 (ck (decide ((0:Int)≤(p0.length:Int)∧(p0.length:Int)≤(140737488355328:Int)))).bind fun _=>
 (loopM (lp_Lbf_9 p0) (0,(List.replicate (Int.toNat (p0.length:Int)) (0:Int)))).bind fun e=>m_Lbf_19 e
noncomputable def m_Lbf (p0:(List Int)):Option ((List Int)):=m_Lbf_0 p0
noncomputable def m_Lbg_0 (p0:S_Packet):Option (S_Packet):=
 (m_Lbf p0.data).bind fun x0_0=>
 some (S_Packet.mk p0.track p0.time p0.span p0.key x0_0)
noncomputable def m_Lbg (p0:S_Packet):Option (S_Packet):=m_Lbg_0 p0
noncomputable def m_Lbh_19 (l19_0:(List S_Packet)):Option ((List S_Packet)):=
 some l19_0
noncomputable def m_Lbh_9 (p0:(List S_Packet)) (i9_0:Int) (l9_1:(List S_Packet)):Option ((Int×(List S_Packet))⊕(((List S_Packet)))):=
 if (decide (i9_0 < (p0.length:Int))) then
  (rd p0 i9_0).bind fun x9_1=>
  (m_Lbg x9_1).bind fun x9_2=>
  (rd l9_1 i9_0).bind fun _=>
  some (.inl ((w64 (i9_0+1)),(l9_1.set (0+Int.toNat i9_0) x9_2)))
 else
  some (.inr l9_1)
noncomputable def lp_Lbh_9 (p0:(List S_Packet)) (s:Int×(List S_Packet)):Option ((Int×(List S_Packet))⊕(((List S_Packet)))):=m_Lbh_9 p0 s.1 s.2
noncomputable def m_Lbh_0 (p0:(List S_Packet)):Option ((List S_Packet)):=
 (ck (decide ((0:Int)≤(p0.length:Int)∧(p0.length:Int)≤(2513169434916:Int)))).bind fun _=>
 (loopM (lp_Lbh_9 p0) (0,(List.replicate (Int.toNat (p0.length:Int)) ((S_Packet.mk 0 0 0 false []):S_Packet)))).bind fun e=>m_Lbh_19 e
noncomputable def m_Lbh (p0:(List S_Packet)):Option ((List S_Packet)):=m_Lbh_0 p0
noncomputable def m_Lbe_0 (p0:S_Box):Option (S_Box):=
 (m_Lbj p0.tracks).bind fun x0_0=>
 (m_Lbh p0.packets).bind fun x0_1=>
 some (S_Box.mk x0_0 x0_1)
noncomputable def m_Lbe (p0:S_Box):Option (S_Box):=m_Lbe_0 p0
noncomputable def m_Lbc_0 (p0:S_Act):Option (S_Act):=
 some p0
noncomputable def m_Lbc (p0:S_Act):Option (S_Act):=m_Lbc_0 p0
noncomputable def m_Lbd_19 (l19_0:(List S_Act)):Option ((List S_Act)):=
 some l19_0
noncomputable def m_Lbd_9 (p0:(List S_Act)) (i9_0:Int) (l9_1:(List S_Act)):Option ((Int×(List S_Act))⊕(((List S_Act)))):=
 if (decide (i9_0 < (p0.length:Int))) then
  (rd p0 i9_0).bind fun x9_1=>
  (m_Lbc x9_1).bind fun x9_2=>
  (rd l9_1 i9_0).bind fun _=>
  some (.inl ((w64 (i9_0+1)),(l9_1.set (0+Int.toNat i9_0) x9_2)))
 else
  some (.inr l9_1)
noncomputable def lp_Lbd_9 (p0:(List S_Act)) (s:Int×(List S_Act)):Option ((Int×(List S_Act))⊕(((List S_Act)))):=m_Lbd_9 p0 s.1 s.2
noncomputable def m_Lbd_0 (p0:(List S_Act)):Option ((List S_Act)):=
 (ck (decide ((0:Int)≤(p0.length:Int)∧(p0.length:Int)≤(8796093022208:Int)))).bind fun _=>
 (loopM (lp_Lbd_9 p0) (0,(List.replicate (Int.toNat (p0.length:Int)) ((S_Act.mk 0 0):S_Act)))).bind fun e=>m_Lbd_19 e
noncomputable def m_Lbd (p0:(List S_Act)):Option ((List S_Act)):=m_Lbd_0 p0
noncomputable def m_Sc_23:Option (Bool):=
 some true
noncomputable def m_Sc_7 (p0:ByteArray) (i7_0:Int):Option ((Int)⊕((Bool)⊕((Unit)))):=
 if (decide (i7_0 < (p0.size:Int))) then
  (sat p0 i7_0).bind fun x7_1=>
  if (decide (x7_1 < 32)) then
   some (.inr (.inl false))
  else
   if (decide (x7_1 > 126)) then
    some (.inr (.inl false))
   else
    some (.inl (w64 (i7_0+1)))
 else
  some (.inr (.inr ()))
noncomputable def lp_Sc_7 (p0:ByteArray) (s:Int):Option ((Int)⊕((Bool)⊕((Unit)))):=m_Sc_7 p0 s
noncomputable def m_Sc_0 (p0:ByteArray):Option (Bool):=
 (loopM (lp_Sc_7 p0) 0).bind fun e=>match e with | .inl e=>some e | .inr e=>m_Sc_23
noncomputable def m_Sc (p0:ByteArray):Option (Bool):=m_Sc_0 p0
noncomputable def m_Sg_0 (p0:S_Track):Option (Bool):=
 if (decide (p0.kind≥1)) then
  if (decide (p0.kind≤6)) then
   if (decide (p0.scale≥1)) then
    if (decide (p0.scale≤1000000)) then
     if (decide ((p0.name.size:Int)≤40)) then
      (m_Sc p0.name).bind fun x0_5=>
      some x0_5
     else
      some false
    else
     some false
   else
    some false
  else
   some false
 else
  some false
noncomputable def m_Sg (p0:S_Track):Option (Bool):=m_Sg_0 p0
noncomputable def m_Sh_25 (p0:(List S_Track)):Option (Bool):=
 if (decide ((p0.length:Int)≥1)) then
  some (decide ((p0.length:Int)≤8))
 else
  some false
noncomputable def m_Sh_7 (p0:(List S_Track)) (i7_0:Int):Option ((Int)⊕((Bool)⊕((Unit)))):=
 if (decide (i7_0 < (p0.length:Int))) then
  (rd p0 i7_0).bind fun x7_1=>
  (m_Sg x7_1).bind fun x7_2=>
  if x7_2 then
   some (.inl (w64 (i7_0+1)))
  else
   some (.inr (.inl false))
 else
  some (.inr (.inr ()))
noncomputable def lp_Sh_7 (p0:(List S_Track)) (s:Int):Option ((Int)⊕((Bool)⊕((Unit)))):=m_Sh_7 p0 s
noncomputable def m_Sh_0 (p0:(List S_Track)):Option (Bool):=
 (loopM (lp_Sh_7 p0) 0).bind fun e=>match e with | .inl e=>some e | .inr e=>m_Sh_25 p0
noncomputable def m_Sh (p0:(List S_Track)):Option (Bool):=m_Sh_0 p0
noncomputable def m_Sf_0 (p0:Int):Option (Bool):=
 if (decide (p0≥0)) then
  some (decide (p0≤1000000000))
 else
  some false
noncomputable def m_Sf (p0:Int):Option (Bool):=m_Sf_0 p0
noncomputable def m_Se_62 (i36_0:Int) (p0:S_Box) (i36_1:Int) (x36_1:S_Packet) (l36_2:(List Int)):Option ((Int×Int×(List Int))⊕((Bool)⊕((Unit)))):=
 (rd l36_2 x36_1.track).bind fun _=>
 if (decide ((w64 (i36_0+(x36_1.data.length:Int))) > 60000)) then
  some (.inr (.inl false))
 else
  some (.inl ((w64 (i36_0+(x36_1.data.length:Int))),(w64 (i36_1+1)),(l36_2.set (0+Int.toNat x36_1.track) x36_1.time)))
noncomputable def m_Se_74:Option (Bool):=
 some true
noncomputable def m_Se_36 (p0:S_Box) (i36_0 i36_1:Int) (l36_2:(List Int)):Option ((Int×Int×(List Int))⊕((Bool)⊕((Unit)))):=
 if (decide (i36_1 < (p0.packets.length:Int))) then
  (rd p0.packets i36_1).bind fun x36_1=>
  if (decide (x36_1.track < 0)) then
   some (.inr (.inl false))
  else
   if (decide (x36_1.track≥(p0.tracks.length:Int))) then
    some (.inr (.inl false))
   else
    (m_Sf x36_1.time).bind fun x36_4=>
    if x36_4 then
     (m_Sf x36_1.span).bind fun x36_6=>
     if x36_6 then
      (rd l36_2 x36_1.track).bind fun x36_8=>
      if (decide (x36_1.time < x36_8)) then
       some (.inr (.inl false))
      else
       if (decide (x36_8 < 0)) then
        if x36_1.key then
         m_Se_62 i36_0 p0 i36_1 x36_1 l36_2
        else
         some (.inr (.inl false))
       else
        m_Se_62 i36_0 p0 i36_1 x36_1 l36_2
     else
      some (.inr (.inl false))
    else
     some (.inr (.inl false))
 else
  some (.inr (.inr ()))
noncomputable def lp_Se_36 (p0:S_Box) (s:Int×Int×(List Int)):Option ((Int×Int×(List Int))⊕((Bool)⊕((Unit)))):=m_Se_36 p0 s.1 s.2.1 s.2.2
noncomputable def m_Se_29 (p0:S_Box) (l29_0:(List Int)):Option (Bool):=
 (loopM (lp_Se_36 p0) (0,0,l29_0)).bind fun e=>match e with | .inl e=>some e | .inr e=>m_Se_74
noncomputable def m_Se_17 (p0:S_Box) (i17_0 i17_1:Int) (l17_2:(List Int)):Option ((Int×Int×(List Int))⊕(((List Int)))):=
 if (decide (i17_1 < i17_0)) then
  (rd l17_2 i17_1).bind fun _=>
  some (.inl (i17_0,(w64 (i17_1+1)),(l17_2.set (0+Int.toNat i17_1) (-1))))
 else
  some (.inr l17_2)
noncomputable def lp_Se_17 (p0:S_Box) (s:Int×Int×(List Int)):Option ((Int×Int×(List Int))⊕(((List Int)))):=m_Se_17 p0 s.1 s.2.1 s.2.2
noncomputable def m_Se_0 (p0:S_Box):Option (Bool):=
 (m_Sh p0.tracks).bind fun x0_0=>
 if x0_0 then
  if (decide ((p0.packets.length:Int) > 400)) then
   some false
  else
   (ck (decide ((0:Int)≤(p0.tracks.length:Int)∧(p0.tracks.length:Int)≤(17592186044416:Int)))).bind fun _=>
   (loopM (lp_Se_17 p0) (((Int.toNat (p0.tracks.length:Int)):Int),0,(List.replicate (Int.toNat (p0.tracks.length:Int)) (0:Int)))).bind fun e=>m_Se_29 p0 e
 else
  some false
noncomputable def m_Se (p0:S_Box):Option (Bool):=m_Se_0 p0
noncomputable def m_Sd_0 (p0:S_Box) (p1 p2:Int):Option (Bool):=
 (rd p0.packets p1).bind fun x0_0=>
 (rd p0.packets p2).bind fun x0_1=>
 (rd p0.tracks x0_1.track).bind fun x0_2=>
 (rd p0.tracks x0_0.track).bind fun x0_3=>
 if ((w64 (x0_0.time*x0_2.scale)) != (w64 (x0_1.time*x0_3.scale))) then
  some (decide ((w64 (x0_0.time*x0_2.scale)) < (w64 (x0_1.time*x0_3.scale))))
 else
  if (x0_0.track != x0_1.track) then
   some (decide (x0_0.track < x0_1.track))
  else
   some (decide (p1 < p2))
noncomputable def m_Sd (p0:S_Box) (p1 p2:Int):Option (Bool):=m_Sd_0 p0 p1 p2
noncomputable def m_Sa_31:Option (Bool):=
 some true
noncomputable def m_Sa_15 (p0:S_Box) (i15_0:Int):Option ((Int)⊕((Bool)⊕((Unit)))):=
 if (decide (i15_0 < (p0.packets.length:Int))) then
  (m_Sd p0 (w64 (i15_0 - 1)) i15_0).bind fun x15_1=>
  if x15_1 then
   some (.inl (w64 (i15_0+1)))
  else
   some (.inr (.inl false))
 else
  some (.inr (.inr ()))
noncomputable def lp_Sa_15 (p0:S_Box) (s:Int):Option ((Int)⊕((Bool)⊕((Unit)))):=m_Sa_15 p0 s
noncomputable def m_Sa_0 (p0:S_Box):Option (Bool):=
 (m_Se p0).bind fun x0_0=>
 if x0_0 then
  (loopM (lp_Sa_15 p0) 1).bind fun e=>match e with | .inl e=>some e | .inr e=>m_Sa_31
 else
  some false
noncomputable def m_Sa (p0:S_Box):Option (Bool):=m_Sa_0 p0
noncomputable def m_Si_12 (p0:S_Act) (b12_0:Bool):Option (Bool):=
 if b12_0 then
  some (p0.value == 0)
 else
  if (p0.kind == 3) then
   if (decide (p0.value≥0)) then
    some (decide (p0.value≤359999999))
   else
    some false
  else
   if (p0.kind == 4) then
    if (decide (p0.value≥0)) then
     some (decide (p0.value≤100000))
    else
     some false
   else
    if (p0.kind == 5) then
     if (decide (p0.value≥25)) then
      some (decide (p0.value≤400))
     else
      some false
    else
     some false
noncomputable def m_Si_0 (p0:S_Act):Option (Bool):=
 if (p0.kind == 1) then
  m_Si_12 p0 (p0.kind == 1)
 else
  m_Si_12 p0 (p0.kind == 2)
noncomputable def m_Si (p0:S_Act):Option (Bool):=m_Si_0 p0
noncomputable def m_Sj_0 (p0:S_Box) (p1:Int):Option (Int):=
 (rd p0.packets p1).bind fun x0_0=>
 (rd p0.tracks x0_0.track).bind fun x0_1=>
 (ck (decide ((x0_1.scale:Int)≠0))).bind fun _=>
 some (w64 (Int.tdiv (w64 (x0_0.time*1000000)) x0_1.scale))
noncomputable def m_Sj (p0:S_Box) (p1:Int):Option (Int):=m_Sj_0 p0 p1
noncomputable def m_Sm_18 (i6_0:Int) (p0:S_l17P) (i6_1:Int) (b18_0:Bool):Option ((Int×Int)⊕(S_l17P)):=
 if b18_0 then
  (rd p0.due i6_0).bind fun x18_1=>
  some (.inl ((w64 (i6_0+1)),x18_1))
 else
  some (.inl ((w64 (i6_0+1)),i6_1))
noncomputable def m_Sm_6 (p0:S_l17P) (i6_0 i6_1:Int):Option ((Int×Int)⊕(S_l17P)):=
 if (decide (i6_0 < (p0.due.length:Int))) then
  (rd p0.gone i6_0).bind fun x6_1=>
  if x6_1 then
   m_Sm_18 i6_0 p0 i6_1 false
  else
   if (decide (i6_1 < 0)) then
    m_Sm_18 i6_0 p0 i6_1 true
   else
    (rd p0.due i6_0).bind fun x6_4=>
    m_Sm_18 i6_0 p0 i6_1 (decide (x6_4 < i6_1))
 else
  some (.inr (S_l17P.mk p0.b p0.due p0.speed p0.wall p0.clock p0.pace p0.playing p0.busy p0.gone p0.left i6_1 p0.drop p0.shows))
noncomputable def lp_Sm_6 (p0:S_l17P) (s:Int×Int):Option ((Int×Int)⊕(S_l17P)):=m_Sm_6 p0 s.1 s.2
noncomputable def m_Sm_0 (p0:S_l17P):Option (S_l17P):=
 (loopM (lp_Sm_6 p0) (0,(-1))).bind fun e=>some e
noncomputable def m_Sm (p0:S_l17P):Option (S_l17P):=m_Sm_0 p0
noncomputable def m_Sl_0 (p0:S_l17P):Option (Int×S_l17P):=
 if (decide (p0.busy > p0.wall)) then
  some (p0.busy,p0)
 else
  some (p0.wall,p0)
noncomputable def m_Sl (p0:S_l17P):Option (Int×S_l17P):=m_Sl_0 p0
noncomputable def m_Sk_0 (p1:Int) (p0:S_l17P):Option (Int×S_l17P):=
 (rd p0.b.packets p1).bind fun x0_0=>
 (ck (decide ((p0.speed:Int)≠0))).bind fun _=>
 some ((w64 ((w64 (Int.tdiv (x0_0.data.length:Int) p0.speed))+1)),p0)
noncomputable def m_Sk (p0:S_l17P) (p1:Int):Option (Int×S_l17P):=m_Sk_0 p1 p0
noncomputable def m_Sn_38 (i26_0:Int) (p0:S_l17P) (i21_0:Int) (x26_1:S_Packet) (l26_1:(List Int)) (b38_0:Bool):Option ((Int×(List Int))⊕(((List Int)))):=
 if b38_0 then
  (rd l26_1 x26_1.track).bind fun _=>
  some (.inl ((w64 (i26_0+1)),(l26_1.set (0+Int.toNat x26_1.track) i26_0)))
 else
  some (.inl ((w64 (i26_0+1)),l26_1))
noncomputable def m_Sn_78 (i64_0:Int) (p0:S_l17P) (l64_1:(List S_Track)) (l64_2:(List S_Packet)) (i64_3 i64_4 i64_5 i64_6:Int) (b64_7:Bool) (i64_8 i64_9 i64_10:Int) (l42_0 l64_11:(List Int)) (l76_0 l64_13:(List Bool)) (l64_14:(List S_Show)) (b78_0:Bool):Option ((Int×(List S_Track)×(List S_Packet)×Int×Int×Int×Int×Bool×Int×Int×Int×(List Int)×(List Bool)×(List Bool)×(List S_Show))⊕(((List S_Track)×(List S_Packet)×Int×Int×Int×Int×Bool×Int×Int×Int×(List Int)×(List Bool)×(List Bool)×(List S_Show)))):=
 if b78_0 then
  (m_Sl (S_l17P.mk (S_Box.mk l64_1 l64_2) l64_11 i64_3 i64_4 i64_5 i64_6 b64_7 i64_8 l76_0 i64_9 i64_10 l64_13 l64_14)).bind fun x78_1=>
  (m_Sk x78_1.2 i64_0).bind fun x78_2=>
  some (.inl ((w64 (i64_0+1)),x78_2.2.b.tracks,x78_2.2.b.packets,x78_2.2.speed,x78_2.2.wall,x78_2.2.clock,x78_2.2.pace,x78_2.2.playing,(w64 (x78_1.1+x78_2.1)),x78_2.2.left,x78_2.2.soon,x78_2.2.due,x78_2.2.gone,x78_2.2.drop,x78_2.2.shows))
 else
  some (.inl ((w64 (i64_0+1)),l64_1,l64_2,i64_3,i64_4,i64_5,i64_6,b64_7,i64_8,i64_9,i64_10,l64_11,l76_0,l64_13,l64_14))
noncomputable def m_Sn_76 (i64_0:Int) (p0:S_l17P) (l64_1:(List S_Track)) (l64_2:(List S_Packet)) (i64_3 i64_4 i64_5 i64_6:Int) (b64_7:Bool) (i64_8 i64_9 i64_10:Int) (x64_1:S_Packet) (l42_0 l64_11:(List Int)) (l64_13:(List Bool)) (l64_14:(List S_Show)) (l76_0:(List Bool)):Option ((Int×(List S_Track)×(List S_Packet)×Int×Int×Int×Int×Bool×Int×Int×Int×(List Int)×(List Bool)×(List Bool)×(List S_Show))⊕(((List S_Track)×(List S_Packet)×Int×Int×Int×Int×Bool×Int×Int×Int×(List Int)×(List Bool)×(List Bool)×(List S_Show)))):=
 (rd l42_0 x64_1.track).bind fun x76_0=>
 if (decide (i64_0≥x76_0)) then
  (rd l64_11 i64_0).bind fun x76_2=>
  m_Sn_78 i64_0 p0 l64_1 l64_2 i64_3 i64_4 i64_5 i64_6 b64_7 i64_8 i64_9 i64_10 l42_0 l64_11 l76_0 l64_13 l64_14 (decide (x76_2 < i64_5))
 else
  m_Sn_78 i64_0 p0 l64_1 l64_2 i64_3 i64_4 i64_5 i64_6 b64_7 i64_8 i64_9 i64_10 l42_0 l64_11 l76_0 l64_13 l64_14 false
noncomputable def m_Sn_82 (l82_0:(List S_Track)) (l82_1:(List S_Packet)) (i82_2 i82_3 i82_4 i82_5:Int) (b82_6:Bool) (i82_7 i82_8 i82_9:Int) (l82_10:(List Int)) (l82_11 l82_12:(List Bool)) (l82_13:(List S_Show)):Option (S_l17P):=
 (m_Sm (S_l17P.mk (S_Box.mk l82_0 l82_1) l82_10 i82_2 i82_3 i82_4 i82_5 b82_6 i82_7 l82_11 i82_8 i82_9 l82_12 l82_13)).bind fun x82_0=>
 some x82_0
noncomputable def m_Sn_64 (p0:S_l17P) (l42_0:(List Int)) (i64_0:Int) (l64_1:(List S_Track)) (l64_2:(List S_Packet)) (i64_3 i64_4 i64_5 i64_6:Int) (b64_7:Bool) (i64_8 i64_9 i64_10:Int) (l64_11:(List Int)) (l64_12 l64_13:(List Bool)) (l64_14:(List S_Show)):Option ((Int×(List S_Track)×(List S_Packet)×Int×Int×Int×Int×Bool×Int×Int×Int×(List Int)×(List Bool)×(List Bool)×(List S_Show))⊕(((List S_Track)×(List S_Packet)×Int×Int×Int×Int×Bool×Int×Int×Int×(List Int)×(List Bool)×(List Bool)×(List S_Show)))):=
 if (decide (i64_0 < (p0.b.packets.length:Int))) then
  (rd p0.b.packets i64_0).bind fun x64_1=>
  (rd l42_0 x64_1.track).bind fun x64_2=>
  if (decide (i64_0 < x64_2)) then
   (rd l64_12 i64_0).bind fun _=>
   m_Sn_76 i64_0 p0 l64_1 l64_2 i64_3 i64_4 i64_5 i64_6 b64_7 i64_8 i64_9 i64_10 x64_1 l42_0 l64_11 l64_13 l64_14 (l64_12.set (0+Int.toNat i64_0) true)
  else
   (rd l64_11 i64_0).bind fun x64_4=>
   (rd l64_12 i64_0).bind fun _=>
   m_Sn_76 i64_0 p0 l64_1 l64_2 i64_3 i64_4 i64_5 i64_6 b64_7 i64_8 i64_9 i64_10 x64_1 l42_0 l64_11 l64_13 l64_14 (l64_12.set (0+Int.toNat i64_0) (decide (x64_4 < i64_5)))
 else
  some (.inr (l64_1,l64_2,i64_3,i64_4,i64_5,i64_6,b64_7,i64_8,i64_9,i64_10,l64_11,l64_12,l64_13,l64_14))
noncomputable def lp_Sn_64 (p0:S_l17P) (l42_0:(List Int)) (s:Int×(List S_Track)×(List S_Packet)×Int×Int×Int×Int×Bool×Int×Int×Int×(List Int)×(List Bool)×(List Bool)×(List S_Show)):Option ((Int×(List S_Track)×(List S_Packet)×Int×Int×Int×Int×Bool×Int×Int×Int×(List Int)×(List Bool)×(List Bool)×(List S_Show))⊕(((List S_Track)×(List S_Packet)×Int×Int×Int×Int×Bool×Int×Int×Int×(List Int)×(List Bool)×(List Bool)×(List S_Show)))):=m_Sn_64 p0 l42_0 s.1 s.2.1 s.2.2.1 s.2.2.2.1 s.2.2.2.2.1 s.2.2.2.2.2.1 s.2.2.2.2.2.2.1 s.2.2.2.2.2.2.2.1 s.2.2.2.2.2.2.2.2.1 s.2.2.2.2.2.2.2.2.2.1 s.2.2.2.2.2.2.2.2.2.2.1 s.2.2.2.2.2.2.2.2.2.2.2.1 s.2.2.2.2.2.2.2.2.2.2.2.2.1 s.2.2.2.2.2.2.2.2.2.2.2.2.2.1 s.2.2.2.2.2.2.2.2.2.2.2.2.2.2
noncomputable def m_Sn_59 (p0:S_l17P) (i21_0:Int) (l42_0:(List Int)) (l59_0:(List Bool)):Option (S_l17P):=
 (loopM (lp_Sn_64 p0 l42_0) (0,p0.b.tracks,p0.b.packets,p0.speed,p0.wall,i21_0,p0.pace,p0.playing,p0.busy,p0.left,p0.soon,p0.due,p0.gone,l59_0,p0.shows)).bind fun e=>m_Sn_82 e.1 e.2.1 e.2.2.1 e.2.2.2.1 e.2.2.2.2.1 e.2.2.2.2.2.1 e.2.2.2.2.2.2.1 e.2.2.2.2.2.2.2.1 e.2.2.2.2.2.2.2.2.1 e.2.2.2.2.2.2.2.2.2.1 e.2.2.2.2.2.2.2.2.2.2.1 e.2.2.2.2.2.2.2.2.2.2.2.1 e.2.2.2.2.2.2.2.2.2.2.2.2.1 e.2.2.2.2.2.2.2.2.2.2.2.2.2
noncomputable def m_Sn_47 (p0:S_l17P) (i21_0:Int) (l42_0:(List Int)) (i47_0:Int) (l47_1:(List Bool)):Option ((Int×(List Bool))⊕(((List Bool)))):=
 if (decide (i47_0 < (p0.drop.length:Int))) then
  (rd l47_1 i47_0).bind fun _=>
  some (.inl ((w64 (i47_0+1)),(l47_1.set (0+Int.toNat i47_0) false)))
 else
  some (.inr l47_1)
noncomputable def lp_Sn_47 (p0:S_l17P) (i21_0:Int) (l42_0:(List Int)) (s:Int×(List Bool)):Option ((Int×(List Bool))⊕(((List Bool)))):=m_Sn_47 p0 i21_0 l42_0 s.1 s.2
noncomputable def m_Sn_42 (p0:S_l17P) (i21_0:Int) (l42_0:(List Int)):Option (S_l17P):=
 (loopM (lp_Sn_47 p0 i21_0 l42_0) (0,p0.drop)).bind fun e=>m_Sn_59 p0 i21_0 l42_0 e
noncomputable def m_Sn_26 (p0:S_l17P) (i21_0 i26_0:Int) (l26_1:(List Int)):Option ((Int×(List Int))⊕(((List Int)))):=
 if (decide (i26_0 < (p0.b.packets.length:Int))) then
  (rd p0.b.packets i26_0).bind fun x26_1=>
  (rd p0.due i26_0).bind fun x26_2=>
  if (decide (x26_2 > i21_0)) then
   (rd l26_1 x26_1.track).bind fun x26_4=>
   if (x26_4 == (p0.due.length:Int)) then
    m_Sn_38 i26_0 p0 i21_0 x26_1 l26_1 true
   else
    if (decide (x26_2≤i21_0)) then
     m_Sn_38 i26_0 p0 i21_0 x26_1 l26_1 x26_1.key
    else
     m_Sn_38 i26_0 p0 i21_0 x26_1 l26_1 false
  else
   if (decide (x26_2≤i21_0)) then
    m_Sn_38 i26_0 p0 i21_0 x26_1 l26_1 x26_1.key
   else
    m_Sn_38 i26_0 p0 i21_0 x26_1 l26_1 false
 else
  some (.inr l26_1)
noncomputable def lp_Sn_26 (p0:S_l17P) (i21_0:Int) (s:Int×(List Int)):Option ((Int×(List Int))⊕(((List Int)))):=m_Sn_26 p0 i21_0 s.1 s.2
noncomputable def m_Sn_21 (p0:S_l17P) (i21_0:Int) (l21_1:(List Int)):Option (S_l17P):=
 (loopM (lp_Sn_26 p0 i21_0) (0,l21_1)).bind fun e=>m_Sn_42 p0 i21_0 e
noncomputable def m_Sn_9 (p0:S_l17P) (i9_0 i9_1 i9_2:Int) (l9_3:(List Int)):Option ((Int×Int×Int×(List Int))⊕((Int×(List Int)))):=
 if (decide (i9_1 < i9_0)) then
  (rd l9_3 i9_1).bind fun _=>
  some (.inl (i9_0,(w64 (i9_1+1)),i9_2,(l9_3.set (0+Int.toNat i9_1) (p0.due.length:Int))))
 else
  some (.inr (i9_2,l9_3))
noncomputable def lp_Sn_9 (p0:S_l17P) (s:Int×Int×Int×(List Int)):Option ((Int×Int×Int×(List Int))⊕((Int×(List Int)))):=m_Sn_9 p0 s.1 s.2.1 s.2.2.1 s.2.2.2
noncomputable def m_Sn_0 (p1:Int) (p0:S_l17P):Option (S_l17P):=
 (ck (decide ((0:Int)≤(p0.b.tracks.length:Int)∧(p0.b.tracks.length:Int)≤(17592186044416:Int)))).bind fun _=>
 (loopM (lp_Sn_9 p0) (((Int.toNat (p0.b.tracks.length:Int)):Int),0,(w64 (p1*1000)),(List.replicate (Int.toNat (p0.b.tracks.length:Int)) (0:Int)))).bind fun e=>m_Sn_21 p0 e.1 e.2
noncomputable def m_Sn (p0:S_l17P) (p1:Int):Option (S_l17P):=m_Sn_0 p1 p0
noncomputable def m_So_24 (p1:Int) (x10_1:Int×S_l17P) (x0_0:S_Packet) (l18_0:(List Bool)) (i24_0:Int):Option (S_l17P):=
 (rd l18_0 x0_0.track).bind fun x24_0=>
 (ck (decide (x10_1.2.shows.length+([(S_Show.mk x10_1.2.wall (w64 (Int.tdiv x10_1.2.clock 1000)) p1 x24_0)]:List S_Show).length≤4398046511104))).bind fun _=>
 some (S_l17P.mk x10_1.2.b x10_1.2.due x10_1.2.speed x10_1.2.wall x10_1.2.clock x10_1.2.pace x10_1.2.playing i24_0 x10_1.2.gone x10_1.2.left x10_1.2.soon l18_0 (x10_1.2.shows++([(S_Show.mk x10_1.2.wall (w64 (Int.tdiv x10_1.2.clock 1000)) p1 x24_0)]:List S_Show)))
noncomputable def m_So_18 (p1 i15_0:Int) (x10_1:Int×S_l17P) (x0_0:S_Packet) (l18_0:(List Bool)):Option (S_l17P):=
 (rd l18_0 x0_0.track).bind fun x18_0=>
 if x18_0 then
  m_So_24 p1 x10_1 x0_0 l18_0 x10_1.2.busy
 else
  m_So_24 p1 x10_1 x0_0 l18_0 i15_0
noncomputable def m_So_15 (p1:Int) (x10_1:Int×S_l17P) (x0_0:S_Packet) (i15_0:Int) (b15_1:Bool):Option (S_l17P):=
 if b15_1 then
  (rd x10_1.2.drop x0_0.track).bind fun _=>
  m_So_18 p1 i15_0 x10_1 x0_0 (x10_1.2.drop.set (0+Int.toNat x0_0.track) true)
 else
  m_So_18 p1 i15_0 x10_1 x0_0 x10_1.2.drop
noncomputable def m_So_10 (p1:Int) (x0_1:S_Track) (p0:S_l17P) (x0_0:S_Packet) (l10_0:(List Bool)):Option (S_l17P):=
 (m_Sl (S_l17P.mk p0.b p0.due p0.speed p0.wall p0.clock p0.pace p0.playing p0.busy p0.gone p0.left p0.soon l10_0 p0.shows)).bind fun x10_0=>
 (m_Sk x10_0.2 p1).bind fun x10_1=>
 if (x0_1.kind == 3) then
  if x0_0.key then
   m_So_15 p1 x10_1 x0_0 (w64 (x10_0.1+x10_1.1)) false
  else
   m_So_15 p1 x10_1 x0_0 (w64 (x10_0.1+x10_1.1)) (decide ((w64 (x10_0.1+x10_1.1)) > (w64 (x10_1.2.wall+100))))
 else
  if (x0_1.kind == 4) then
   if x0_0.key then
    m_So_15 p1 x10_1 x0_0 (w64 (x10_0.1+x10_1.1)) false
   else
    m_So_15 p1 x10_1 x0_0 (w64 (x10_0.1+x10_1.1)) (decide ((w64 (x10_0.1+x10_1.1)) > (w64 (x10_1.2.wall+100))))
  else
   m_So_15 p1 x10_1 x0_0 (w64 (x10_0.1+x10_1.1)) false
noncomputable def m_So_0 (p1:Int) (p0:S_l17P):Option (S_l17P):=
 (rd p0.b.packets p1).bind fun x0_0=>
 (rd p0.b.tracks x0_0.track).bind fun x0_1=>
 if x0_0.key then
  (rd p0.drop x0_0.track).bind fun _=>
  m_So_10 p1 x0_1 p0 x0_0 (p0.drop.set (0+Int.toNat x0_0.track) false)
 else
  m_So_10 p1 x0_1 p0 x0_0 p0.drop
noncomputable def m_So (p0:S_l17P) (p1:Int):Option (S_l17P):=m_So_0 p1 p0
noncomputable def m_Sp_33 (i21_0:Int) (p0:S_l17P) (l21_1:(List S_Track)) (l21_2:(List S_Packet)) (i21_3 i21_4 i21_5 i21_6:Int) (b21_7:Bool) (i21_8 i21_9 i21_10:Int) (l21_11:(List Int)) (l21_12 l21_13:(List Bool)) (l21_14:(List S_Show)) (b33_0:Bool):Option ((Int×(List S_Track)×(List S_Packet)×Int×Int×Int×Int×Bool×Int×Int×Int×(List Int)×(List Bool)×(List Bool)×(List S_Show))⊕(((List S_Track)×(List S_Packet)×Int×Int×Int×Int×Bool×Int×Int×Int×(List Int)×(List Bool)×(List Bool)×(List S_Show)))):=
 if b33_0 then
  (rd l21_12 i21_0).bind fun _=>
  (m_So (S_l17P.mk (S_Box.mk l21_1 l21_2) l21_11 i21_3 i21_4 i21_5 i21_6 b21_7 i21_8 (l21_12.set (0+Int.toNat i21_0) true) i21_9 i21_10 l21_13 l21_14) i21_0).bind fun x33_2=>
  some (.inl ((w64 (i21_0+1)),x33_2.b.tracks,x33_2.b.packets,x33_2.speed,x33_2.wall,x33_2.clock,x33_2.pace,x33_2.playing,x33_2.busy,x33_2.left,x33_2.soon,x33_2.due,x33_2.gone,x33_2.drop,x33_2.shows))
 else
  some (.inl ((w64 (i21_0+1)),l21_1,l21_2,i21_3,i21_4,i21_5,i21_6,b21_7,i21_8,i21_9,i21_10,l21_11,l21_12,l21_13,l21_14))
noncomputable def m_Sp_39 (l39_0:(List S_Track)) (l39_1:(List S_Packet)) (i39_2 i39_3 i39_4 i39_5:Int) (b39_6:Bool) (i39_7 i39_8 i39_9:Int) (l39_10:(List Int)) (l39_11 l39_12:(List Bool)) (l39_13:(List S_Show)):Option (S_l17P):=
 (m_Sm (S_l17P.mk (S_Box.mk l39_0 l39_1) l39_10 i39_2 i39_3 i39_4 i39_5 b39_6 i39_7 l39_11 i39_8 i39_9 l39_12 l39_13)).bind fun x39_0=>
 some x39_0
noncomputable def m_Sp_21 (p0:S_l17P) (i21_0:Int) (l21_1:(List S_Track)) (l21_2:(List S_Packet)) (i21_3 i21_4 i21_5 i21_6:Int) (b21_7:Bool) (i21_8 i21_9 i21_10:Int) (l21_11:(List Int)) (l21_12 l21_13:(List Bool)) (l21_14:(List S_Show)):Option ((Int×(List S_Track)×(List S_Packet)×Int×Int×Int×Int×Bool×Int×Int×Int×(List Int)×(List Bool)×(List Bool)×(List S_Show))⊕(((List S_Track)×(List S_Packet)×Int×Int×Int×Int×Bool×Int×Int×Int×(List Int)×(List Bool)×(List Bool)×(List S_Show)))):=
 if (decide (i21_0 < (p0.due.length:Int))) then
  (rd l21_12 i21_0).bind fun x21_1=>
  if x21_1 then
   m_Sp_33 i21_0 p0 l21_1 l21_2 i21_3 i21_4 i21_5 i21_6 b21_7 i21_8 i21_9 i21_10 l21_11 l21_12 l21_13 l21_14 false
  else
   (rd l21_11 i21_0).bind fun x21_3=>
   m_Sp_33 i21_0 p0 l21_1 l21_2 i21_3 i21_4 i21_5 i21_6 b21_7 i21_8 i21_9 i21_10 l21_11 l21_12 l21_13 l21_14 (decide (x21_3≤i21_5))
 else
  some (.inr (l21_1,l21_2,i21_3,i21_4,i21_5,i21_6,b21_7,i21_8,i21_9,i21_10,l21_11,l21_12,l21_13,l21_14))
noncomputable def lp_Sp_21 (p0:S_l17P) (s:Int×(List S_Track)×(List S_Packet)×Int×Int×Int×Int×Bool×Int×Int×Int×(List Int)×(List Bool)×(List Bool)×(List S_Show)):Option ((Int×(List S_Track)×(List S_Packet)×Int×Int×Int×Int×Bool×Int×Int×Int×(List Int)×(List Bool)×(List Bool)×(List S_Show))⊕(((List S_Track)×(List S_Packet)×Int×Int×Int×Int×Bool×Int×Int×Int×(List Int)×(List Bool)×(List Bool)×(List S_Show)))):=m_Sp_21 p0 s.1 s.2.1 s.2.2.1 s.2.2.2.1 s.2.2.2.2.1 s.2.2.2.2.2.1 s.2.2.2.2.2.2.1 s.2.2.2.2.2.2.2.1 s.2.2.2.2.2.2.2.2.1 s.2.2.2.2.2.2.2.2.2.1 s.2.2.2.2.2.2.2.2.2.2.1 s.2.2.2.2.2.2.2.2.2.2.2.1 s.2.2.2.2.2.2.2.2.2.2.2.2.1 s.2.2.2.2.2.2.2.2.2.2.2.2.2.1 s.2.2.2.2.2.2.2.2.2.2.2.2.2.2
noncomputable def m_Sp_0 (p0:S_l17P):Option (S_l17P):=
 if p0.playing then
  if (decide (p0.soon < 0)) then
   some (S_l17P.mk p0.b p0.due p0.speed (w64 (p0.wall+1)) (w64 (p0.clock+(w64 (10*p0.pace)))) p0.pace p0.playing p0.busy p0.gone p0.left p0.soon p0.drop p0.shows)
  else
   if (decide (p0.soon > (w64 (p0.clock+(w64 (10*p0.pace)))))) then
    some (S_l17P.mk p0.b p0.due p0.speed (w64 (p0.wall+1)) (w64 (p0.clock+(w64 (10*p0.pace)))) p0.pace p0.playing p0.busy p0.gone p0.left p0.soon p0.drop p0.shows)
   else
    (loopM (lp_Sp_21 p0) (0,p0.b.tracks,p0.b.packets,p0.speed,(w64 (p0.wall+1)),(w64 (p0.clock+(w64 (10*p0.pace)))),p0.pace,p0.playing,p0.busy,p0.left,p0.soon,p0.due,p0.gone,p0.drop,p0.shows)).bind fun e=>m_Sp_39 e.1 e.2.1 e.2.2.1 e.2.2.2.1 e.2.2.2.2.1 e.2.2.2.2.2.1 e.2.2.2.2.2.2.1 e.2.2.2.2.2.2.2.1 e.2.2.2.2.2.2.2.2.1 e.2.2.2.2.2.2.2.2.2.1 e.2.2.2.2.2.2.2.2.2.2.1 e.2.2.2.2.2.2.2.2.2.2.2.1 e.2.2.2.2.2.2.2.2.2.2.2.2.1 e.2.2.2.2.2.2.2.2.2.2.2.2.2
 else
  some (S_l17P.mk p0.b p0.due p0.speed (w64 (p0.wall+1)) p0.clock p0.pace p0.playing p0.busy p0.gone p0.left p0.soon p0.drop p0.shows)
noncomputable def m_Sp (p0:S_l17P):Option (S_l17P):=m_Sp_0 p0
noncomputable def m_Sb_102 (p2:(List S_Act)) (i59_0:Int) (l102_0:(List S_Track)) (l102_1:(List S_Packet)) (i102_2 i102_3 i102_4 i102_5:Int) (b102_6:Bool) (i102_7 i102_8 i102_9:Int) (l102_10:(List Int)) (l102_11 l102_12:(List Bool)) (l102_13:(List S_Show)):Option ((Int×(List S_Track)×(List S_Packet)×Int×Int×Int×Int×Bool×Int×Int×Int×(List Int)×(List Bool)×(List Bool)×(List S_Show))⊕(((List S_Track)×(List S_Packet)×Int×Int×Int×Int×Bool×Int×Int×Int×(List Int)×(List Bool)×(List Bool)×(List S_Show)))):=
 some (.inl ((w64 (i59_0+1)),l102_0,l102_1,i102_2,i102_3,i102_4,i102_5,b102_6,i102_7,i102_8,i102_9,l102_10,l102_11,l102_12,l102_13))
noncomputable def m_Sb_92 (p2:(List S_Act)) (i59_0:Int) (x59_1:S_Act) (i92_0:Int) (l92_1:(List S_Track)) (l92_2:(List S_Packet)) (i92_3 i92_4 i92_5 i92_6:Int) (b92_7:Bool) (i92_8 i92_9 i92_10:Int) (l92_11:(List Int)) (l92_12 l92_13:(List Bool)) (l92_14:(List S_Show)):Option ((Int×(List S_Track)×(List S_Packet)×Int×Int×Int×Int×Bool×Int×Int×Int×(List Int)×(List Bool)×(List Bool)×(List S_Show))⊕(((List S_Track)×(List S_Packet)×Int×Int×Int×Int×Bool×Int×Int×Int×(List Int)×(List Bool)×(List Bool)×(List S_Show)))):=
 if (decide (i92_0 < x59_1.value)) then
  (m_Sp (S_l17P.mk (S_Box.mk l92_1 l92_2) l92_11 i92_3 i92_4 i92_5 i92_6 b92_7 i92_8 l92_12 i92_9 i92_10 l92_13 l92_14)).bind fun x92_1=>
  some (.inl ((w64 (i92_0+1)),x92_1.b.tracks,x92_1.b.packets,x92_1.speed,x92_1.wall,x92_1.clock,x92_1.pace,x92_1.playing,x92_1.busy,x92_1.left,x92_1.soon,x92_1.due,x92_1.gone,x92_1.drop,x92_1.shows))
 else
  some (.inr (l92_1,l92_2,i92_3,i92_4,i92_5,i92_6,b92_7,i92_8,i92_9,i92_10,l92_11,l92_12,l92_13,l92_14))
noncomputable def lp_Sb_92 (p2:(List S_Act)) (i59_0:Int) (x59_1:S_Act) (s:Int×(List S_Track)×(List S_Packet)×Int×Int×Int×Int×Bool×Int×Int×Int×(List Int)×(List Bool)×(List Bool)×(List S_Show)):Option ((Int×(List S_Track)×(List S_Packet)×Int×Int×Int×Int×Bool×Int×Int×Int×(List Int)×(List Bool)×(List Bool)×(List S_Show))⊕(((List S_Track)×(List S_Packet)×Int×Int×Int×Int×Bool×Int×Int×Int×(List Int)×(List Bool)×(List Bool)×(List S_Show)))):=m_Sb_92 p2 i59_0 x59_1 s.1 s.2.1 s.2.2.1 s.2.2.2.1 s.2.2.2.2.1 s.2.2.2.2.2.1 s.2.2.2.2.2.2.1 s.2.2.2.2.2.2.2.1 s.2.2.2.2.2.2.2.2.1 s.2.2.2.2.2.2.2.2.2.1 s.2.2.2.2.2.2.2.2.2.2.1 s.2.2.2.2.2.2.2.2.2.2.2.1 s.2.2.2.2.2.2.2.2.2.2.2.2.1 s.2.2.2.2.2.2.2.2.2.2.2.2.2.1 s.2.2.2.2.2.2.2.2.2.2.2.2.2.2
noncomputable def m_Sb_103 (l103_0:(List S_Track)) (l103_1:(List S_Packet)) (i103_2 i103_3 i103_4 i103_5:Int) (b103_6:Bool) (i103_7 i103_8 i103_9:Int) (l103_10:(List Int)) (l103_11 l103_12:(List Bool)) (l103_13:(List S_Show)):Option (S_Played):=
 some (S_Played.mk 0 l103_13 i103_3 (w64 (Int.tdiv i103_4 1000)))
noncomputable def m_Sb_59 (p2:(List S_Act)) (i59_0:Int) (l59_1:(List S_Track)) (l59_2:(List S_Packet)) (i59_3 i59_4 i59_5 i59_6:Int) (b59_7:Bool) (i59_8 i59_9 i59_10:Int) (l59_11:(List Int)) (l59_12 l59_13:(List Bool)) (l59_14:(List S_Show)):Option ((Int×(List S_Track)×(List S_Packet)×Int×Int×Int×Int×Bool×Int×Int×Int×(List Int)×(List Bool)×(List Bool)×(List S_Show))⊕(((List S_Track)×(List S_Packet)×Int×Int×Int×Int×Bool×Int×Int×Int×(List Int)×(List Bool)×(List Bool)×(List S_Show)))):=
 if (decide (i59_0 < (p2.length:Int))) then
  (rd p2 i59_0).bind fun x59_1=>
  if (x59_1.kind == 1) then
   m_Sb_102 p2 i59_0 l59_1 l59_2 i59_3 i59_4 i59_5 i59_6 true i59_8 i59_9 i59_10 l59_11 l59_12 l59_13 l59_14
  else
   if (x59_1.kind == 2) then
    m_Sb_102 p2 i59_0 l59_1 l59_2 i59_3 i59_4 i59_5 i59_6 false i59_8 i59_9 i59_10 l59_11 l59_12 l59_13 l59_14
   else
    if (x59_1.kind == 5) then
     m_Sb_102 p2 i59_0 l59_1 l59_2 i59_3 i59_4 i59_5 x59_1.value b59_7 i59_8 i59_9 i59_10 l59_11 l59_12 l59_13 l59_14
    else
     if (x59_1.kind == 3) then
      (m_Sn (S_l17P.mk (S_Box.mk l59_1 l59_2) l59_11 i59_3 i59_4 i59_5 i59_6 b59_7 i59_8 l59_12 i59_9 i59_10 l59_13 l59_14) x59_1.value).bind fun x59_6=>
      m_Sb_102 p2 i59_0 x59_6.b.tracks x59_6.b.packets x59_6.speed x59_6.wall x59_6.clock x59_6.pace x59_6.playing x59_6.busy x59_6.left x59_6.soon x59_6.due x59_6.gone x59_6.drop x59_6.shows
     else
      (loopM (lp_Sb_92 p2 i59_0 x59_1) (0,l59_1,l59_2,i59_3,i59_4,i59_5,i59_6,b59_7,i59_8,i59_9,i59_10,l59_11,l59_12,l59_13,l59_14)).bind fun e=>m_Sb_102 p2 i59_0 e.1 e.2.1 e.2.2.1 e.2.2.2.1 e.2.2.2.2.1 e.2.2.2.2.2.1 e.2.2.2.2.2.2.1 e.2.2.2.2.2.2.2.1 e.2.2.2.2.2.2.2.2.1 e.2.2.2.2.2.2.2.2.2.1 e.2.2.2.2.2.2.2.2.2.2.1 e.2.2.2.2.2.2.2.2.2.2.2.1 e.2.2.2.2.2.2.2.2.2.2.2.2.1 e.2.2.2.2.2.2.2.2.2.2.2.2.2
 else
  some (.inr (l59_1,l59_2,i59_3,i59_4,i59_5,i59_6,b59_7,i59_8,i59_9,i59_10,l59_11,l59_12,l59_13,l59_14))
noncomputable def lp_Sb_59 (p2:(List S_Act)) (s:Int×(List S_Track)×(List S_Packet)×Int×Int×Int×Int×Bool×Int×Int×Int×(List Int)×(List Bool)×(List Bool)×(List S_Show)):Option ((Int×(List S_Track)×(List S_Packet)×Int×Int×Int×Int×Bool×Int×Int×Int×(List Int)×(List Bool)×(List Bool)×(List S_Show))⊕(((List S_Track)×(List S_Packet)×Int×Int×Int×Int×Bool×Int×Int×Int×(List Int)×(List Bool)×(List Bool)×(List S_Show)))):=m_Sb_59 p2 s.1 s.2.1 s.2.2.1 s.2.2.2.1 s.2.2.2.2.1 s.2.2.2.2.2.1 s.2.2.2.2.2.2.1 s.2.2.2.2.2.2.2.1 s.2.2.2.2.2.2.2.2.1 s.2.2.2.2.2.2.2.2.2.1 s.2.2.2.2.2.2.2.2.2.2.1 s.2.2.2.2.2.2.2.2.2.2.2.1 s.2.2.2.2.2.2.2.2.2.2.2.2.1 s.2.2.2.2.2.2.2.2.2.2.2.2.2.1 s.2.2.2.2.2.2.2.2.2.2.2.2.2.2
noncomputable def m_Sb_52 (p2:(List S_Act)) (p0:S_Box) (p1:Int) (l52_0:(List Int)) (l52_1 l52_2:(List Bool)):Option (S_Played):=
 (m_Sm (S_l17P.mk p0 l52_0 p1 0 0 100 false 0 l52_1 0 0 l52_2 [])).bind fun x52_0=>
 (loopM (lp_Sb_59 p2) (0,x52_0.b.tracks,x52_0.b.packets,x52_0.speed,x52_0.wall,x52_0.clock,x52_0.pace,x52_0.playing,x52_0.busy,x52_0.left,x52_0.soon,x52_0.due,x52_0.gone,x52_0.drop,x52_0.shows)).bind fun e=>m_Sb_103 e.1 e.2.1 e.2.2.1 e.2.2.2.1 e.2.2.2.2.1 e.2.2.2.2.2.1 e.2.2.2.2.2.2.1 e.2.2.2.2.2.2.2.1 e.2.2.2.2.2.2.2.2.1 e.2.2.2.2.2.2.2.2.2.1 e.2.2.2.2.2.2.2.2.2.2.1 e.2.2.2.2.2.2.2.2.2.2.2.1 e.2.2.2.2.2.2.2.2.2.2.2.2.1 e.2.2.2.2.2.2.2.2.2.2.2.2.2
noncomputable def m_Sb_40 (p2:(List S_Act)) (p0:S_Box) (p1 i40_0:Int) (l40_1:(List Int)) (l40_2 l40_3:(List Bool)):Option ((Int×(List Int)×(List Bool)×(List Bool))⊕(((List Int)×(List Bool)×(List Bool)))):=
 if (decide (i40_0 < (p0.packets.length:Int))) then
  (m_Sj p0 i40_0).bind fun x40_1=>
  (ck (decide (l40_1.length+([x40_1]:List Int).length≤17592186044416))).bind fun _=>
  some (.inl ((w64 (i40_0+1)),(l40_1++([x40_1]:List Int)),l40_2,l40_3))
 else
  some (.inr (l40_1,l40_2,l40_3))
noncomputable def lp_Sb_40 (p2:(List S_Act)) (p0:S_Box) (p1:Int) (s:Int×(List Int)×(List Bool)×(List Bool)):Option ((Int×(List Int)×(List Bool)×(List Bool))⊕(((List Int)×(List Bool)×(List Bool)))):=m_Sb_40 p2 p0 p1 s.1 s.2.1 s.2.2.1 s.2.2.2
noncomputable def m_Sb_33 (p1:Int) (p2:(List S_Act)) (p0:S_Box):Option (S_Played):=
 (ck (decide ((0:Int)≤(p0.packets.length:Int)∧(p0.packets.length:Int)≤(140737488355328:Int)))).bind fun _=>
 (ck (decide ((0:Int)≤(p0.tracks.length:Int)∧(p0.tracks.length:Int)≤(140737488355328:Int)))).bind fun _=>
 (loopM (lp_Sb_40 p2 p0 p1) (0,([]:List Int),(List.replicate (Int.toNat (p0.packets.length:Int)) (false:Bool)),(List.replicate (Int.toNat (p0.tracks.length:Int)) (false:Bool)))).bind fun e=>m_Sb_52 p2 p0 p1 e.1 e.2.1 e.2.2
noncomputable def m_Sb_15 (p1:Int) (p2:(List S_Act)) (p0:S_Box) (i15_0:Int):Option ((Int)⊕((S_Played)⊕((Unit)))):=
 if (decide (i15_0 < (p2.length:Int))) then
  (rd p2 i15_0).bind fun x15_1=>
  (m_Si x15_1).bind fun x15_2=>
  if x15_2 then
   some (.inl (w64 (i15_0+1)))
  else
   some (.inr (.inl (S_Played.mk 1 ([]:List S_Show) 0 0)))
 else
  some (.inr (.inr ()))
noncomputable def lp_Sb_15 (p1:Int) (p2:(List S_Act)) (p0:S_Box) (s:Int):Option ((Int)⊕((S_Played)⊕((Unit)))):=m_Sb_15 p1 p2 p0 s
noncomputable def m_Sb_5 (p1:Int) (p2:(List S_Act)) (p0:S_Box) (b5_0:Bool):Option (S_Played):=
 if b5_0 then
  some (S_Played.mk 1 ([]:List S_Show) 0 0)
 else
  (loopM (lp_Sb_15 p1 p2 p0) 0).bind fun e=>match e with | .inl e=>some e | .inr e=>m_Sb_33 p1 p2 p0
noncomputable def m_Sb_0 (p0:S_Box) (p1:Int) (p2:(List S_Act)):Option (S_Played):=
 (m_Sa p0).bind fun x0_0=>
 if x0_0 then
  if (decide (p1 < 1)) then
   m_Sb_5 p1 p2 p0 true
  else
   if (decide (p1 > 1000)) then
    m_Sb_5 p1 p2 p0 true
   else
    m_Sb_5 p1 p2 p0 (decide ((p2.length:Int) > 500))
 else
  m_Sb_5 p1 p2 p0 true
noncomputable def m_Sb (p0:S_Box) (p1:Int) (p2:(List S_Act)):Option (S_Played):=m_Sb_0 p0 p1 p2
noncomputable def m_Il_33:Option (Bool):=
 some true
noncomputable def m_Il_15 (p0:S_Track) (i15_0:Int):Option ((Int)⊕((Bool)⊕((Unit)))):=
 if (decide (i15_0 < (p0.name.size:Int))) then
  (sat p0.name i15_0).bind fun x15_1=>
  if (decide (x15_1 < 32)) then
   some (.inr (.inl false))
  else
   if (decide (x15_1 > 126)) then
    some (.inr (.inl false))
   else
    some (.inl (w64 (i15_0+1)))
 else
  some (.inr (.inr ()))
noncomputable def lp_Il_15 (p0:S_Track) (s:Int):Option ((Int)⊕((Bool)⊕((Unit)))):=m_Il_15 p0 s
noncomputable def m_Il_0 (p0:S_Track):Option (Bool):=
 if (decide (p0.kind < 1)) then
  some false
 else
  if (decide (p0.kind > 6)) then
   some false
  else
   if (decide (p0.scale < 1)) then
    some false
   else
    if (decide (p0.scale > 1000000)) then
     some false
    else
     if (decide ((p0.name.size:Int) > 40)) then
      some false
     else
      (loopM (lp_Il_15 p0) 0).bind fun e=>match e with | .inl e=>some e | .inr e=>m_Il_33
noncomputable def m_Il (p0:S_Track):Option (Bool):=m_Il_0 p0
noncomputable def m_Ik_0 (p0:Int):Option (Bool):=
 if (decide (p0≥0)) then
  some (decide (p0≤1000000000))
 else
  some false
noncomputable def m_Ik (p0:Int):Option (Bool):=m_Ik_0 p0
noncomputable def m_Ij_77 (i59_0:Int) (p0:S_Box) (i59_1:Int) (x59_1:S_Packet) (l59_2:(List Int)):Option ((Int×Int×(List Int))⊕((Bool)⊕((Int)))):=
 (rd l59_2 x59_1.track).bind fun _=>
 some (.inl ((w64 (i59_0+(x59_1.data.length:Int))),(w64 (i59_1+1)),(l59_2.set (0+Int.toNat x59_1.track) x59_1.time)))
noncomputable def m_Ij_81 (i81_0:Int):Option (Bool):=
 some (decide (i81_0≤60000))
noncomputable def m_Ij_59 (p0:S_Box) (i59_0 i59_1:Int) (l59_2:(List Int)):Option ((Int×Int×(List Int))⊕((Bool)⊕((Int)))):=
 if (decide (i59_1 < (p0.packets.length:Int))) then
  (rd p0.packets i59_1).bind fun x59_1=>
  if (decide (x59_1.track < 0)) then
   some (.inr (.inl false))
  else
   if (decide (x59_1.track≥(p0.tracks.length:Int))) then
    some (.inr (.inl false))
   else
    (m_Ik x59_1.time).bind fun x59_4=>
    if x59_4 then
     (m_Ik x59_1.span).bind fun x59_6=>
     if x59_6 then
      (rd l59_2 x59_1.track).bind fun x59_8=>
      if (decide (x59_1.time < x59_8)) then
       some (.inr (.inl false))
      else
       if (decide (x59_8 < 0)) then
        if x59_1.key then
         m_Ij_77 i59_0 p0 i59_1 x59_1 l59_2
        else
         some (.inr (.inl false))
       else
        m_Ij_77 i59_0 p0 i59_1 x59_1 l59_2
     else
      some (.inr (.inl false))
    else
     some (.inr (.inl false))
 else
  some (.inr (.inr i59_0))
noncomputable def lp_Ij_59 (p0:S_Box) (s:Int×Int×(List Int)):Option ((Int×Int×(List Int))⊕((Bool)⊕((Int)))):=m_Ij_59 p0 s.1 s.2.1 s.2.2
noncomputable def m_Ij_54 (p0:S_Box) (l54_0:(List Int)):Option (Bool):=
 (loopM (lp_Ij_59 p0) (0,0,l54_0)).bind fun e=>match e with | .inl e=>some e | .inr e=>m_Ij_81 e
noncomputable def m_Ij_42 (p0:S_Box) (i42_0 i42_1:Int) (l42_2:(List Int)):Option ((Int×Int×(List Int))⊕(((List Int)))):=
 if (decide (i42_1 < i42_0)) then
  (rd l42_2 i42_1).bind fun _=>
  some (.inl (i42_0,(w64 (i42_1+1)),(l42_2.set (0+Int.toNat i42_1) (-1))))
 else
  some (.inr l42_2)
noncomputable def lp_Ij_42 (p0:S_Box) (s:Int×Int×(List Int)):Option ((Int×Int×(List Int))⊕(((List Int)))):=m_Ij_42 p0 s.1 s.2.1 s.2.2
noncomputable def m_Ij_33 (p0:S_Box):Option (Bool):=
 (ck (decide ((0:Int)≤(p0.tracks.length:Int)∧(p0.tracks.length:Int)≤(17592186044416:Int)))).bind fun _=>
 (loopM (lp_Ij_42 p0) (((Int.toNat (p0.tracks.length:Int)):Int),0,(List.replicate (Int.toNat (p0.tracks.length:Int)) (0:Int)))).bind fun e=>m_Ij_54 p0 e
noncomputable def m_Ij_15 (p0:S_Box) (i15_0:Int):Option ((Int)⊕((Bool)⊕((Unit)))):=
 if (decide (i15_0 < (p0.tracks.length:Int))) then
  (rd p0.tracks i15_0).bind fun x15_1=>
  (m_Il x15_1).bind fun x15_2=>
  if x15_2 then
   some (.inl (w64 (i15_0+1)))
  else
   some (.inr (.inl false))
 else
  some (.inr (.inr ()))
noncomputable def lp_Ij_15 (p0:S_Box) (s:Int):Option ((Int)⊕((Bool)⊕((Unit)))):=m_Ij_15 p0 s
noncomputable def m_Ij_0 (p0:S_Box):Option (Bool):=
 if (decide ((p0.tracks.length:Int) < 1)) then
  some false
 else
  if (decide ((p0.tracks.length:Int) > 8)) then
   some false
  else
   if (decide ((p0.packets.length:Int) > 400)) then
    some false
   else
    (loopM (lp_Ij_15 p0) 0).bind fun e=>match e with | .inl e=>some e | .inr e=>m_Ij_33 p0
noncomputable def m_Ij (p0:S_Box):Option (Bool):=m_Ij_0 p0
noncomputable def m_If_0 (p0:S_Box) (p1 p2:Int):Option (Bool):=
 (rd p0.packets p1).bind fun x0_0=>
 (rd p0.packets p2).bind fun x0_1=>
 (rd p0.tracks x0_1.track).bind fun x0_2=>
 (rd p0.tracks x0_0.track).bind fun x0_3=>
 if ((w64 (x0_0.time*x0_2.scale)) != (w64 (x0_1.time*x0_3.scale))) then
  some (decide ((w64 (x0_0.time*x0_2.scale)) < (w64 (x0_1.time*x0_3.scale))))
 else
  if (x0_0.track != x0_1.track) then
   some (decide (x0_0.track < x0_1.track))
  else
   some (decide (p1 < p2))
noncomputable def m_If (p0:S_Box) (p1 p2:Int):Option (Bool):=m_If_0 p0 p1 p2
noncomputable def m_Ia_31:Option (Bool):=
 some true
noncomputable def m_Ia_15 (p0:S_Box) (i15_0:Int):Option ((Int)⊕((Bool)⊕((Unit)))):=
 if (decide (i15_0 < (p0.packets.length:Int))) then
  (m_If p0 i15_0 (w64 (i15_0 - 1))).bind fun x15_1=>
  if x15_1 then
   some (.inr (.inl false))
  else
   some (.inl (w64 (i15_0+1)))
 else
  some (.inr (.inr ()))
noncomputable def lp_Ia_15 (p0:S_Box) (s:Int):Option ((Int)⊕((Bool)⊕((Unit)))):=m_Ia_15 p0 s
noncomputable def m_Ia_0 (p0:S_Box):Option (Bool):=
 (m_Ij p0).bind fun x0_0=>
 if x0_0 then
  (loopM (lp_Ia_15 p0) 1).bind fun e=>match e with | .inl e=>some e | .inr e=>m_Ia_31
 else
  some false
noncomputable def m_Ia (p0:S_Box):Option (Bool):=m_Ia_0 p0
noncomputable def m_Id_0 (p0 p1:Int) (p2:S_Act):Option (Bool×S_Act):=
 if (decide (p2.value≥p0)) then
  some ((decide (p2.value≤p1)),p2)
 else
  some (false,p2)
noncomputable def m_Id (p0 p1:Int) (p2:S_Act):Option (Bool×S_Act):=m_Id_0 p0 p1 p2
noncomputable def m_Ic_14 (p0:S_Act) (b14_0:Bool):Option (Bool):=
 if b14_0 then
  some (p0.value == 0)
 else
  if (p0.kind == 3) then
   (m_Id 0 359999999 p0).bind fun x14_2=>
   some x14_2.1
  else
   if (p0.kind == 4) then
    (m_Id 0 100000 p0).bind fun x14_3=>
    some x14_3.1
   else
    if (p0.kind == 5) then
     (m_Id 25 400 p0).bind fun x14_4=>
     some x14_4.1
    else
     some false
noncomputable def m_Ic_0 (p0:S_Act):Option (Bool):=
 if (p0.kind == 1) then
  m_Ic_14 p0 (p0.kind == 1)
 else
  m_Ic_14 p0 (p0.kind == 2)
noncomputable def m_Ic (p0:S_Act):Option (Bool):=m_Ic_0 p0
noncomputable def m_Ie_0 (p0:S_Box) (p1:Int):Option (Int):=
 (rd p0.packets p1).bind fun x0_0=>
 (rd p0.tracks x0_0.track).bind fun x0_1=>
 (ck (decide ((x0_1.scale:Int)≠0))).bind fun _=>
 some (w64 (Int.tdiv (w64 (x0_0.time*1000000)) x0_1.scale))
noncomputable def m_Ie (p0:S_Box) (p1:Int):Option (Int):=m_Ie_0 p0 p1
noncomputable def m_Ig_0 (p1:Int) (p0:S_zplayer):Option (Int×S_zplayer):=
 (rd p0.b.packets p1).bind fun x0_0=>
 (ck (decide ((p0.speed:Int)≠0))).bind fun _=>
 some ((w64 ((w64 ((mxI p0.wall p0.busy)+(w64 (Int.tdiv (x0_0.data.length:Int) p0.speed))))+1)),p0)
noncomputable def m_Ig (p0:S_zplayer) (p1:Int):Option (Int×S_zplayer):=m_Ig_0 p1 p0
noncomputable def m_Ih_38 (i9_1 i26_0 i9_0:Int) (p0:S_zplayer) (i9_2:Int) (l26_1:(List Int)) (l9_4:(List Bool)) (b38_0:Bool):Option ((Int×(List Int))⊕(((List Int)))):=
 if b38_0 then
  (rd l26_1 i9_1).bind fun _=>
  some (.inl ((w64 (i26_0+1)),(l26_1.set (0+Int.toNat i9_1) i26_0)))
 else
  some (.inl ((w64 (i26_0+1)),l26_1))
noncomputable def m_Ih_42 (i9_1 i9_0:Int) (p0:S_zplayer) (i9_2:Int) (l9_4:(List Bool)) (l42_0:(List Int)):Option ((Int×Int×Int×(List Int)×(List Bool))⊕((Int×(List Int)×(List Bool)))):=
 (rd l9_4 i9_1).bind fun _=>
 some (.inl (i9_0,(w64 (i9_1+1)),i9_2,l42_0,(l9_4.set (0+Int.toNat i9_1) false)))
noncomputable def m_Ih_26 (i9_1 i9_0:Int) (p0:S_zplayer) (i9_2:Int) (l9_4:(List Bool)) (i26_0:Int) (l26_1:(List Int)):Option ((Int×(List Int))⊕(((List Int)))):=
 if (decide (i26_0 < (p0.b.packets.length:Int))) then
  (rd p0.b.packets i26_0).bind fun x26_1=>
  if (x26_1.track == i9_1) then
   if x26_1.key then
    (rd p0.due i26_0).bind fun x26_4=>
    if (decide (x26_4≤i9_2)) then
     m_Ih_38 i9_1 i26_0 i9_0 p0 i9_2 l26_1 l9_4 true
    else
     (rd l26_1 i9_1).bind fun x26_6=>
     if (decide (x26_6 < 0)) then
      m_Ih_38 i9_1 i26_0 i9_0 p0 i9_2 l26_1 l9_4 (decide (x26_4 > i9_2))
     else
      m_Ih_38 i9_1 i26_0 i9_0 p0 i9_2 l26_1 l9_4 false
   else
    (rd l26_1 i9_1).bind fun x26_4=>
    if (decide (x26_4 < 0)) then
     (rd p0.due i26_0).bind fun x26_6=>
     m_Ih_38 i9_1 i26_0 i9_0 p0 i9_2 l26_1 l9_4 (decide (x26_6 > i9_2))
    else
     m_Ih_38 i9_1 i26_0 i9_0 p0 i9_2 l26_1 l9_4 false
  else
   m_Ih_38 i9_1 i26_0 i9_0 p0 i9_2 l26_1 l9_4 false
 else
  some (.inr l26_1)
noncomputable def lp_Ih_26 (i9_1 i9_0:Int) (p0:S_zplayer) (i9_2:Int) (l9_4:(List Bool)) (s:Int×(List Int)):Option ((Int×(List Int))⊕(((List Int)))):=m_Ih_26 i9_1 i9_0 p0 i9_2 l9_4 s.1 s.2
noncomputable def m_Ih_63 (i49_0:Int) (p0:S_zplayer) (l49_1:(List S_Track)) (l49_2:(List S_Packet)) (i49_3 i49_4 i49_5 i49_6 i49_7:Int) (l44_1 l49_8:(List Int)) (l49_10:(List Bool)) (l49_11:(List S_Show)) (b63_0:Bool) (l63_1:(List Bool)):Option ((Int×(List S_Track)×(List S_Packet)×Int×Int×Int×Int×Int×(List Int)×(List Bool)×(List Bool)×(List S_Show))⊕(((List S_Track)×(List S_Packet)×Int×Int×Int×Int×Int×(List Int)×(List Bool)×(List Bool)×(List S_Show)))):=
 if b63_0 then
  (rd l63_1 i49_0).bind fun _=>
  (m_Ig (S_zplayer.mk (S_Box.mk l49_1 l49_2) i49_3 l49_8 (l63_1.set (0+Int.toNat i49_0) true) i49_4 l49_10 i49_5 i49_6 i49_7 l49_11) i49_0).bind fun x63_2=>
  some (.inl ((w64 (i49_0+1)),x63_2.2.b.tracks,x63_2.2.b.packets,x63_2.2.speed,x63_2.2.next,x63_2.2.wall,x63_2.2.clock,x63_2.1,x63_2.2.due,x63_2.2.gone,x63_2.2.dropping,x63_2.2.shows))
 else
  some (.inl ((w64 (i49_0+1)),l49_1,l49_2,i49_3,i49_4,i49_5,i49_6,i49_7,l49_8,l63_1,l49_10,l49_11))
noncomputable def m_Ih_69 (l69_0:(List S_Track)) (l69_1:(List S_Packet)) (i69_2 i69_3 i69_4 i69_5 i69_6:Int) (l69_7:(List Int)) (l69_8 l69_9:(List Bool)) (l69_10:(List S_Show)):Option (S_zplayer):=
 some (S_zplayer.mk (S_Box.mk l69_0 l69_1) i69_2 l69_7 l69_8 0 l69_9 i69_4 i69_5 i69_6 l69_10)
noncomputable def m_Ih_49 (p0:S_zplayer) (l44_1:(List Int)) (i49_0:Int) (l49_1:(List S_Track)) (l49_2:(List S_Packet)) (i49_3 i49_4 i49_5 i49_6 i49_7:Int) (l49_8:(List Int)) (l49_9 l49_10:(List Bool)) (l49_11:(List S_Show)):Option ((Int×(List S_Track)×(List S_Packet)×Int×Int×Int×Int×Int×(List Int)×(List Bool)×(List Bool)×(List S_Show))⊕(((List S_Track)×(List S_Packet)×Int×Int×Int×Int×Int×(List Int)×(List Bool)×(List Bool)×(List S_Show)))):=
 if (decide (i49_0 < (p0.b.packets.length:Int))) then
  (rd p0.b.packets i49_0).bind fun x49_1=>
  (rd l44_1 x49_1.track).bind fun x49_2=>
  (rd l49_9 i49_0).bind fun _=>
  if (decide (i49_0 < x49_2)) then
   m_Ih_63 i49_0 p0 l49_1 l49_2 i49_3 i49_4 i49_5 i49_6 i49_7 l44_1 l49_8 l49_10 l49_11 false (l49_9.set (0+Int.toNat i49_0) (decide (i49_0 < x49_2)))
  else
   (rd l49_8 i49_0).bind fun x49_5=>
   m_Ih_63 i49_0 p0 l49_1 l49_2 i49_3 i49_4 i49_5 i49_6 i49_7 l44_1 l49_8 l49_10 l49_11 (decide (x49_5 < i49_6)) (l49_9.set (0+Int.toNat i49_0) (decide (i49_0 < x49_2)))
 else
  some (.inr (l49_1,l49_2,i49_3,i49_4,i49_5,i49_6,i49_7,l49_8,l49_9,l49_10,l49_11))
noncomputable def lp_Ih_49 (p0:S_zplayer) (l44_1:(List Int)) (s:Int×(List S_Track)×(List S_Packet)×Int×Int×Int×Int×Int×(List Int)×(List Bool)×(List Bool)×(List S_Show)):Option ((Int×(List S_Track)×(List S_Packet)×Int×Int×Int×Int×Int×(List Int)×(List Bool)×(List Bool)×(List S_Show))⊕(((List S_Track)×(List S_Packet)×Int×Int×Int×Int×Int×(List Int)×(List Bool)×(List Bool)×(List S_Show)))):=m_Ih_49 p0 l44_1 s.1 s.2.1 s.2.2.1 s.2.2.2.1 s.2.2.2.2.1 s.2.2.2.2.2.1 s.2.2.2.2.2.2.1 s.2.2.2.2.2.2.2.1 s.2.2.2.2.2.2.2.2.1 s.2.2.2.2.2.2.2.2.2.1 s.2.2.2.2.2.2.2.2.2.2.1 s.2.2.2.2.2.2.2.2.2.2.2
noncomputable def m_Ih_44 (p0:S_zplayer) (i44_0:Int) (l44_1:(List Int)) (l44_2:(List Bool)):Option (S_zplayer):=
 (loopM (lp_Ih_49 p0 l44_1) (0,p0.b.tracks,p0.b.packets,p0.speed,p0.next,p0.wall,i44_0,p0.busy,p0.due,p0.gone,l44_2,p0.shows)).bind fun e=>m_Ih_69 e.1 e.2.1 e.2.2.1 e.2.2.2.1 e.2.2.2.2.1 e.2.2.2.2.2.1 e.2.2.2.2.2.2.1 e.2.2.2.2.2.2.2.1 e.2.2.2.2.2.2.2.2.1 e.2.2.2.2.2.2.2.2.2.1 e.2.2.2.2.2.2.2.2.2.2
noncomputable def m_Ih_9 (p0:S_zplayer) (i9_0 i9_1 i9_2:Int) (l9_3:(List Int)) (l9_4:(List Bool)):Option ((Int×Int×Int×(List Int)×(List Bool))⊕((Int×(List Int)×(List Bool)))):=
 if (decide (i9_1 < i9_0)) then
  (rd l9_3 i9_1).bind fun _=>
  (loopM (lp_Ih_26 i9_1 i9_0 p0 i9_2 l9_4) (0,(l9_3.set (0+Int.toNat i9_1) (-1)))).bind fun e=>m_Ih_42 i9_1 i9_0 p0 i9_2 l9_4 e
 else
  some (.inr (i9_2,l9_3,l9_4))
noncomputable def lp_Ih_9 (p0:S_zplayer) (s:Int×Int×Int×(List Int)×(List Bool)):Option ((Int×Int×Int×(List Int)×(List Bool))⊕((Int×(List Int)×(List Bool)))):=m_Ih_9 p0 s.1 s.2.1 s.2.2.1 s.2.2.2.1 s.2.2.2.2
noncomputable def m_Ih_0 (p1:Int) (p0:S_zplayer):Option (S_zplayer):=
 (ck (decide ((0:Int)≤(p0.b.tracks.length:Int)∧(p0.b.tracks.length:Int)≤(17592186044416:Int)))).bind fun _=>
 (loopM (lp_Ih_9 p0) (((Int.toNat (p0.b.tracks.length:Int)):Int),0,(w64 (1000*p1)),(List.replicate (Int.toNat (p0.b.tracks.length:Int)) (0:Int)),p0.dropping)).bind fun e=>m_Ih_44 p0 e.1 e.2.1 e.2.2
noncomputable def m_Ih (p0:S_zplayer) (p1:Int):Option (S_zplayer):=m_Ih_0 p1 p0
noncomputable def m_Ii_49 (l49_0:(List S_Track)) (l49_1:(List S_Packet)) (i49_2 i49_3 i49_4 i49_5 i49_6:Int) (l49_7:(List Int)) (l49_8 l49_9:(List Bool)) (l49_10:(List S_Show)):Option (((List S_Track)×(List S_Packet)×Int×Int×Int×Int×Int×(List Int)×(List Bool)×(List Bool)×(List S_Show))⊕(S_zplayer)):=
 some (.inl (l49_0,l49_1,i49_2,(w64 (i49_3+1)),i49_4,i49_5,i49_6,l49_7,l49_8,l49_9,l49_10))
noncomputable def m_Ii_47 (i2_3:Int) (x2_5:S_Packet) (l47_0:(List S_Track)) (l47_1:(List S_Packet)) (i47_2 i47_3 i47_4 i47_5 i47_6:Int) (l47_7:(List Int)) (l47_8 l47_9:(List Bool)) (l47_10:(List S_Show)):Option (((List S_Track)×(List S_Packet)×Int×Int×Int×Int×Int×(List Int)×(List Bool)×(List Bool)×(List S_Show))⊕(S_zplayer)):=
 (rd l47_9 x2_5.track).bind fun x47_0=>
 (ck (decide (l47_10.length+([(S_Show.mk i47_4 (w64 (Int.tdiv i47_5 1000)) i2_3 x47_0)]:List S_Show).length≤4398046511104))).bind fun _=>
 m_Ii_49 l47_0 l47_1 i47_2 i47_3 i47_4 i47_5 i47_6 l47_7 l47_8 l47_9 (l47_10++([(S_Show.mk i47_4 (w64 (Int.tdiv i47_5 1000)) i2_3 x47_0)]:List S_Show))
noncomputable def m_Ii_41 (i2_3:Int) (x31_1:Int×S_zplayer) (x2_5:S_Packet) (l41_0:(List Bool)):Option (((List S_Track)×(List S_Packet)×Int×Int×Int×Int×Int×(List Int)×(List Bool)×(List Bool)×(List S_Show))⊕(S_zplayer)):=
 (rd l41_0 x2_5.track).bind fun x41_0=>
 if x41_0 then
  m_Ii_47 i2_3 x2_5 x31_1.2.b.tracks x31_1.2.b.packets x31_1.2.speed x31_1.2.next x31_1.2.wall x31_1.2.clock x31_1.2.busy x31_1.2.due x31_1.2.gone l41_0 x31_1.2.shows
 else
  (m_Ig (S_zplayer.mk x31_1.2.b x31_1.2.speed x31_1.2.due x31_1.2.gone x31_1.2.next l41_0 x31_1.2.wall x31_1.2.clock x31_1.2.busy x31_1.2.shows) i2_3).bind fun x41_2=>
  m_Ii_47 i2_3 x2_5 x41_2.2.b.tracks x41_2.2.b.packets x41_2.2.speed x41_2.2.next x41_2.2.wall x41_2.2.clock x41_2.1 x41_2.2.due x41_2.2.gone x41_2.2.dropping x41_2.2.shows
noncomputable def m_Ii_38 (i2_3:Int) (x31_1:Int×S_zplayer) (x2_5:S_Packet) (b38_0:Bool):Option (((List S_Track)×(List S_Packet)×Int×Int×Int×Int×Int×(List Int)×(List Bool)×(List Bool)×(List S_Show))⊕(S_zplayer)):=
 if b38_0 then
  (rd x31_1.2.dropping x2_5.track).bind fun _=>
  m_Ii_41 i2_3 x31_1 x2_5 (x31_1.2.dropping.set (0+Int.toNat x2_5.track) true)
 else
  m_Ii_41 i2_3 x31_1 x2_5 x31_1.2.dropping
noncomputable def m_Ii_31 (i2_3:Int) (l2_0:(List S_Track)) (l2_1:(List S_Packet)) (i2_2 i2_4 i2_5 i2_6:Int) (x2_5:S_Packet) (l2_7:(List Int)) (l2_10:(List S_Show)) (l31_0 l31_1:(List Bool)):Option (((List S_Track)×(List S_Packet)×Int×Int×Int×Int×Int×(List Int)×(List Bool)×(List Bool)×(List S_Show))⊕(S_zplayer)):=
 (rd l2_0 x2_5.track).bind fun x31_0=>
 (m_Ig (S_zplayer.mk (S_Box.mk l2_0 l2_1) i2_2 l2_7 l31_0 i2_3 l31_1 i2_4 i2_5 i2_6 l2_10) i2_3).bind fun x31_1=>
 if (decide (x31_1.1 > (w64 (x31_1.2.wall+100)))) then
  if x2_5.key then
   m_Ii_38 i2_3 x31_1 x2_5 false
  else
   if (x31_0.kind == 3) then
    m_Ii_38 i2_3 x31_1 x2_5 true
   else
    m_Ii_38 i2_3 x31_1 x2_5 (x31_0.kind == 4)
 else
  m_Ii_38 i2_3 x31_1 x2_5 false
noncomputable def m_Ii_2 (l2_0:(List S_Track)) (l2_1:(List S_Packet)) (i2_2 i2_3 i2_4 i2_5 i2_6:Int) (l2_7:(List Int)) (l2_8 l2_9:(List Bool)) (l2_10:(List S_Show)):Option (((List S_Track)×(List S_Packet)×Int×Int×Int×Int×Int×(List Int)×(List Bool)×(List Bool)×(List S_Show))⊕(S_zplayer)):=
 if (decide (i2_3 < (l2_7.length:Int))) then
  (rd l2_8 i2_3).bind fun x2_1=>
  if x2_1 then
   m_Ii_49 l2_0 l2_1 i2_2 i2_3 i2_4 i2_5 i2_6 l2_7 l2_8 l2_9 l2_10
  else
   (rd l2_7 i2_3).bind fun x2_3=>
   if (decide (x2_3 > i2_5)) then
    some (.inr (S_zplayer.mk (S_Box.mk l2_0 l2_1) i2_2 l2_7 l2_8 i2_3 l2_9 i2_4 i2_5 i2_6 l2_10))
   else
    (rd l2_1 i2_3).bind fun x2_5=>
    if x2_5.key then
     (rd l2_9 x2_5.track).bind fun _=>
     m_Ii_31 i2_3 l2_0 l2_1 i2_2 i2_4 i2_5 i2_6 x2_5 l2_7 l2_10 (l2_8.set (0+Int.toNat i2_3) true) (l2_9.set (0+Int.toNat x2_5.track) false)
    else
     m_Ii_31 i2_3 l2_0 l2_1 i2_2 i2_4 i2_5 i2_6 x2_5 l2_7 l2_10 (l2_8.set (0+Int.toNat i2_3) true) l2_9
 else
  some (.inr (S_zplayer.mk (S_Box.mk l2_0 l2_1) i2_2 l2_7 l2_8 i2_3 l2_9 i2_4 i2_5 i2_6 l2_10))
noncomputable def lp_Ii_2 (s:(List S_Track)×(List S_Packet)×Int×Int×Int×Int×Int×(List Int)×(List Bool)×(List Bool)×(List S_Show)):Option (((List S_Track)×(List S_Packet)×Int×Int×Int×Int×Int×(List Int)×(List Bool)×(List Bool)×(List S_Show))⊕(S_zplayer)):=m_Ii_2 s.1 s.2.1 s.2.2.1 s.2.2.2.1 s.2.2.2.2.1 s.2.2.2.2.2.1 s.2.2.2.2.2.2.1 s.2.2.2.2.2.2.2.1 s.2.2.2.2.2.2.2.2.1 s.2.2.2.2.2.2.2.2.2.1 s.2.2.2.2.2.2.2.2.2.2
noncomputable def m_Ii_0 (p0:S_zplayer):Option (S_zplayer):=
 (loopM (lp_Ii_2) (p0.b.tracks,p0.b.packets,p0.speed,p0.next,p0.wall,p0.clock,p0.busy,p0.due,p0.gone,p0.dropping,p0.shows)).bind fun e=>some e
noncomputable def m_Ii (p0:S_zplayer):Option (S_zplayer):=m_Ii_0 p0
noncomputable def m_Ib_120 (p2:(List S_Act)) (i61_2 i120_0:Int) (b120_1:Bool) (l120_2:(List S_Track)) (l120_3:(List S_Packet)) (i120_4 i120_5 i120_6 i120_7 i120_8:Int) (l120_9:(List Int)) (l120_10 l120_11:(List Bool)) (l120_12:(List S_Show)):Option ((Int×Bool×Int×(List S_Track)×(List S_Packet)×Int×Int×Int×Int×Int×(List Int)×(List Bool)×(List Bool)×(List S_Show))⊕(((List S_Track)×(List S_Packet)×Int×Int×Int×Int×Int×(List Int)×(List Bool)×(List Bool)×(List S_Show)))):=
 some (.inl (i120_0,b120_1,(w64 (i61_2+1)),l120_2,l120_3,i120_4,i120_5,i120_6,i120_7,i120_8,l120_9,l120_10,l120_11,l120_12))
noncomputable def m_Ib_105 (i61_0:Int) (b61_1:Bool) (p2:(List S_Act)) (i61_2:Int) (x61_1:S_Act) (i105_0:Int) (l105_1:(List S_Track)) (l105_2:(List S_Packet)) (i105_3 i105_4 i105_5 i105_6 i105_7:Int) (l105_8:(List Int)) (l105_9 l105_10:(List Bool)) (l105_11:(List S_Show)):Option ((Int×(List S_Track)×(List S_Packet)×Int×Int×Int×Int×Int×(List Int)×(List Bool)×(List Bool)×(List S_Show))⊕((Int×Bool×(List S_Track)×(List S_Packet)×Int×Int×Int×Int×Int×(List Int)×(List Bool)×(List Bool)×(List S_Show)))):=
 if (decide (i105_0 < x61_1.value)) then
  (m_Ii (S_zplayer.mk (S_Box.mk l105_1 l105_2) i105_3 l105_8 l105_9 i105_4 l105_10 (w64 (i105_5+1)) (w64 (i105_6+(w64 (10*i61_0)))) i105_7 l105_11)).bind fun x105_1=>
  some (.inl ((w64 (i105_0+1)),x105_1.b.tracks,x105_1.b.packets,x105_1.speed,x105_1.next,x105_1.wall,x105_1.clock,x105_1.busy,x105_1.due,x105_1.gone,x105_1.dropping,x105_1.shows))
 else
  some (.inr (i61_0,b61_1,l105_1,l105_2,i105_3,i105_4,i105_5,i105_6,i105_7,l105_8,l105_9,l105_10,l105_11))
noncomputable def lp_Ib_105 (i61_0:Int) (b61_1:Bool) (p2:(List S_Act)) (i61_2:Int) (x61_1:S_Act) (s:Int×(List S_Track)×(List S_Packet)×Int×Int×Int×Int×Int×(List Int)×(List Bool)×(List Bool)×(List S_Show)):Option ((Int×(List S_Track)×(List S_Packet)×Int×Int×Int×Int×Int×(List Int)×(List Bool)×(List Bool)×(List S_Show))⊕((Int×Bool×(List S_Track)×(List S_Packet)×Int×Int×Int×Int×Int×(List Int)×(List Bool)×(List Bool)×(List S_Show)))):=m_Ib_105 i61_0 b61_1 p2 i61_2 x61_1 s.1 s.2.1 s.2.2.1 s.2.2.2.1 s.2.2.2.2.1 s.2.2.2.2.2.1 s.2.2.2.2.2.2.1 s.2.2.2.2.2.2.2.1 s.2.2.2.2.2.2.2.2.1 s.2.2.2.2.2.2.2.2.2.1 s.2.2.2.2.2.2.2.2.2.2.1 s.2.2.2.2.2.2.2.2.2.2.2
noncomputable def m_Ib_80 (i61_0:Int) (b61_1:Bool) (p2:(List S_Act)) (i61_2:Int) (x61_1:S_Act) (l61_3:(List S_Track)) (l61_4:(List S_Packet)) (i61_5 i61_6 i61_7 i61_8 i61_9:Int) (l61_10:(List Int)) (l61_11 l61_12:(List Bool)) (l61_13:(List S_Show)) (b80_0:Bool):Option ((Int×Bool×Int×(List S_Track)×(List S_Packet)×Int×Int×Int×Int×Int×(List Int)×(List Bool)×(List Bool)×(List S_Show))⊕(((List S_Track)×(List S_Packet)×Int×Int×Int×Int×Int×(List Int)×(List Bool)×(List Bool)×(List S_Show)))):=
 if b80_0 then
  m_Ib_120 p2 i61_2 i61_0 (x61_1.kind == 1) l61_3 l61_4 i61_5 i61_6 i61_7 i61_8 i61_9 l61_10 l61_11 l61_12 l61_13
 else
  if (x61_1.kind == 5) then
   m_Ib_120 p2 i61_2 x61_1.value b61_1 l61_3 l61_4 i61_5 i61_6 i61_7 i61_8 i61_9 l61_10 l61_11 l61_12 l61_13
  else
   if (x61_1.kind == 3) then
    (m_Ih (S_zplayer.mk (S_Box.mk l61_3 l61_4) i61_5 l61_10 l61_11 i61_6 l61_12 i61_7 i61_8 i61_9 l61_13) x61_1.value).bind fun x80_3=>
    m_Ib_120 p2 i61_2 i61_0 b61_1 x80_3.b.tracks x80_3.b.packets x80_3.speed x80_3.next x80_3.wall x80_3.clock x80_3.busy x80_3.due x80_3.gone x80_3.dropping x80_3.shows
   else
    if (x61_1.kind == 4) then
     if b61_1 then
      (loopM (lp_Ib_105 i61_0 b61_1 p2 i61_2 x61_1) (0,l61_3,l61_4,i61_5,i61_6,i61_7,i61_8,i61_9,l61_10,l61_11,l61_12,l61_13)).bind fun e=>m_Ib_120 p2 i61_2 e.1 e.2.1 e.2.2.1 e.2.2.2.1 e.2.2.2.2.1 e.2.2.2.2.2.1 e.2.2.2.2.2.2.1 e.2.2.2.2.2.2.2.1 e.2.2.2.2.2.2.2.2.1 e.2.2.2.2.2.2.2.2.2.1 e.2.2.2.2.2.2.2.2.2.2.1 e.2.2.2.2.2.2.2.2.2.2.2.1 e.2.2.2.2.2.2.2.2.2.2.2.2
     else
      m_Ib_120 p2 i61_2 i61_0 b61_1 l61_3 l61_4 i61_5 i61_6 (w64 (i61_7+x61_1.value)) i61_8 i61_9 l61_10 l61_11 l61_12 l61_13
    else
     m_Ib_120 p2 i61_2 i61_0 b61_1 l61_3 l61_4 i61_5 i61_6 i61_7 i61_8 i61_9 l61_10 l61_11 l61_12 l61_13
noncomputable def m_Ib_121 (l121_0:(List S_Track)) (l121_1:(List S_Packet)) (i121_2 i121_3 i121_4 i121_5 i121_6:Int) (l121_7:(List Int)) (l121_8 l121_9:(List Bool)) (l121_10:(List S_Show)):Option (S_Played):=
 some (S_Played.mk 0 l121_10 i121_4 (w64 (Int.tdiv i121_5 1000)))
noncomputable def m_Ib_61 (p2:(List S_Act)) (i61_0:Int) (b61_1:Bool) (i61_2:Int) (l61_3:(List S_Track)) (l61_4:(List S_Packet)) (i61_5 i61_6 i61_7 i61_8 i61_9:Int) (l61_10:(List Int)) (l61_11 l61_12:(List Bool)) (l61_13:(List S_Show)):Option ((Int×Bool×Int×(List S_Track)×(List S_Packet)×Int×Int×Int×Int×Int×(List Int)×(List Bool)×(List Bool)×(List S_Show))⊕(((List S_Track)×(List S_Packet)×Int×Int×Int×Int×Int×(List Int)×(List Bool)×(List Bool)×(List S_Show)))):=
 if (decide (i61_2 < (p2.length:Int))) then
  (rd p2 i61_2).bind fun x61_1=>
  if (x61_1.kind == 1) then
   m_Ib_80 i61_0 b61_1 p2 i61_2 x61_1 l61_3 l61_4 i61_5 i61_6 i61_7 i61_8 i61_9 l61_10 l61_11 l61_12 l61_13 (x61_1.kind == 1)
  else
   m_Ib_80 i61_0 b61_1 p2 i61_2 x61_1 l61_3 l61_4 i61_5 i61_6 i61_7 i61_8 i61_9 l61_10 l61_11 l61_12 l61_13 (x61_1.kind == 2)
 else
  some (.inr (l61_3,l61_4,i61_5,i61_6,i61_7,i61_8,i61_9,l61_10,l61_11,l61_12,l61_13))
noncomputable def lp_Ib_61 (p2:(List S_Act)) (s:Int×Bool×Int×(List S_Track)×(List S_Packet)×Int×Int×Int×Int×Int×(List Int)×(List Bool)×(List Bool)×(List S_Show)):Option ((Int×Bool×Int×(List S_Track)×(List S_Packet)×Int×Int×Int×Int×Int×(List Int)×(List Bool)×(List Bool)×(List S_Show))⊕(((List S_Track)×(List S_Packet)×Int×Int×Int×Int×Int×(List Int)×(List Bool)×(List Bool)×(List S_Show)))):=m_Ib_61 p2 s.1 s.2.1 s.2.2.1 s.2.2.2.1 s.2.2.2.2.1 s.2.2.2.2.2.1 s.2.2.2.2.2.2.1 s.2.2.2.2.2.2.2.1 s.2.2.2.2.2.2.2.2.1 s.2.2.2.2.2.2.2.2.2.1 s.2.2.2.2.2.2.2.2.2.2.1 s.2.2.2.2.2.2.2.2.2.2.2.1 s.2.2.2.2.2.2.2.2.2.2.2.2.1 s.2.2.2.2.2.2.2.2.2.2.2.2.2
noncomputable def m_Ib_54 (p2:(List S_Act)) (p0:S_Box) (p1:Int) (l54_0:(List Int)) (l54_1 l54_2:(List Bool)):Option (S_Played):=
 (loopM (lp_Ib_61 p2) (100,false,0,p0.tracks,p0.packets,p1,0,0,0,0,l54_0,l54_1,l54_2,([]:List S_Show))).bind fun e=>m_Ib_121 e.1 e.2.1 e.2.2.1 e.2.2.2.1 e.2.2.2.2.1 e.2.2.2.2.2.1 e.2.2.2.2.2.2.1 e.2.2.2.2.2.2.2.1 e.2.2.2.2.2.2.2.2.1 e.2.2.2.2.2.2.2.2.2.1 e.2.2.2.2.2.2.2.2.2.2
noncomputable def m_Ib_42 (p2:(List S_Act)) (p0:S_Box) (p1 i42_0:Int) (l42_1:(List Int)) (l42_2 l42_3:(List Bool)):Option ((Int×(List Int)×(List Bool)×(List Bool))⊕(((List Int)×(List Bool)×(List Bool)))):=
 if (decide (i42_0 < (p0.packets.length:Int))) then
  (m_Ie p0 i42_0).bind fun x42_1=>
  (ck (decide (l42_1.length+([x42_1]:List Int).length≤17592186044416))).bind fun _=>
  some (.inl ((w64 (i42_0+1)),(l42_1++([x42_1]:List Int)),l42_2,l42_3))
 else
  some (.inr (l42_1,l42_2,l42_3))
noncomputable def lp_Ib_42 (p2:(List S_Act)) (p0:S_Box) (p1:Int) (s:Int×(List Int)×(List Bool)×(List Bool)):Option ((Int×(List Int)×(List Bool)×(List Bool))⊕(((List Int)×(List Bool)×(List Bool)))):=m_Ib_42 p2 p0 p1 s.1 s.2.1 s.2.2.1 s.2.2.2
noncomputable def m_Ib_33 (p1:Int) (p2:(List S_Act)) (p0:S_Box):Option (S_Played):=
 (ck (decide ((0:Int)≤(p0.packets.length:Int)∧(p0.packets.length:Int)≤(140737488355328:Int)))).bind fun _=>
 (ck (decide ((0:Int)≤(p0.tracks.length:Int)∧(p0.tracks.length:Int)≤(140737488355328:Int)))).bind fun _=>
 (loopM (lp_Ib_42 p2 p0 p1) (0,([]:List Int),(List.replicate (Int.toNat (p0.packets.length:Int)) (false:Bool)),(List.replicate (Int.toNat (p0.tracks.length:Int)) (false:Bool)))).bind fun e=>m_Ib_54 p2 p0 p1 e.1 e.2.1 e.2.2
noncomputable def m_Ib_15 (p1:Int) (p2:(List S_Act)) (p0:S_Box) (i15_0:Int):Option ((Int)⊕((S_Played)⊕((Unit)))):=
 if (decide (i15_0 < (p2.length:Int))) then
  (rd p2 i15_0).bind fun x15_1=>
  (m_Ic x15_1).bind fun x15_2=>
  if x15_2 then
   some (.inl (w64 (i15_0+1)))
  else
   some (.inr (.inl (S_Played.mk 1 ([]:List S_Show) 0 0)))
 else
  some (.inr (.inr ()))
noncomputable def lp_Ib_15 (p1:Int) (p2:(List S_Act)) (p0:S_Box) (s:Int):Option ((Int)⊕((S_Played)⊕((Unit)))):=m_Ib_15 p1 p2 p0 s
noncomputable def m_Ib_5 (p1:Int) (p2:(List S_Act)) (p0:S_Box) (b5_0:Bool):Option (S_Played):=
 if b5_0 then
  some (S_Played.mk 1 ([]:List S_Show) 0 0)
 else
  (loopM (lp_Ib_15 p1 p2 p0) 0).bind fun e=>match e with | .inl e=>some e | .inr e=>m_Ib_33 p1 p2 p0
noncomputable def m_Ib_0 (p0:S_Box) (p1:Int) (p2:(List S_Act)):Option (S_Played):=
 (m_Ia p0).bind fun x0_0=>
 if x0_0 then
  if (decide (p1 < 1)) then
   m_Ib_5 p1 p2 p0 true
  else
   if (decide (p1 > 1000)) then
    m_Ib_5 p1 p2 p0 true
   else
    m_Ib_5 p1 p2 p0 (decide ((p2.length:Int) > 500))
 else
  m_Ib_5 p1 p2 p0 true
noncomputable def m_Ib (p0:S_Box) (p1:Int) (p2:(List S_Act)):Option (S_Played):=m_Ib_0 p0 p1 p2
noncomputable def m_Lh_0 (p0 p1:S_Show):Option (Bool):=
 if (p0.wall != p1.wall) then
  some false
 else
  if (p0.clock != p1.clock) then
   some false
  else
   if (p0.packet != p1.packet) then
    some false
   else
    if (p0.dropped == p1.dropped) then
     some true
    else
     some false
noncomputable def m_Lh (p0 p1:S_Show):Option (Bool):=m_Lh_0 p0 p1
noncomputable def m_Li_31:Option (Bool):=
 some true
noncomputable def m_Li_15 (p0 p1:(List S_Show)) (i15_0:Int):Option ((Int)⊕((Bool)⊕((Unit)))):=
 if (decide (i15_0 < (p0.length:Int))) then
  (rd p0 i15_0).bind fun x15_1=>
  (rd p1 i15_0).bind fun x15_2=>
  (m_Lh x15_1 x15_2).bind fun x15_3=>
  if x15_3 then
   some (.inl (w64 (i15_0+1)))
  else
   some (.inr (.inl false))
 else
  some (.inr (.inr ()))
noncomputable def lp_Li_15 (p0 p1:(List S_Show)) (s:Int):Option ((Int)⊕((Bool)⊕((Unit)))):=m_Li_15 p0 p1 s
noncomputable def m_Li_0 (p0 p1:(List S_Show)):Option (Bool):=
 if ((p0.length:Int) != (p1.length:Int)) then
  some false
 else
  (loopM (lp_Li_15 p0 p1) 0).bind fun e=>match e with | .inl e=>some e | .inr e=>m_Li_31
noncomputable def m_Li (p0 p1:(List S_Show)):Option (Bool):=m_Li_0 p0 p1
noncomputable def m_Lg_0 (p0 p1:S_Played):Option (Bool):=
 if (p0.err != p1.err) then
  some false
 else
  (m_Li p0.shows p1.shows).bind fun x0_1=>
  if x0_1 then
   if (p0.wall != p1.wall) then
    some false
   else
    if (p0.clock != p1.clock) then
     some false
    else
     some true
  else
   some false
noncomputable def m_Lg (p0 p1:S_Played):Option (Bool):=m_Lg_0 p0 p1
noncomputable def m_Lj_0 (p0 p1:S_Track):Option (Bool):=
 if (p0.kind != p1.kind) then
  some false
 else
  if (p0.scale != p1.scale) then
   some false
  else
   if (p0.name.toList == p1.name.toList) then
    some true
   else
    some false
noncomputable def m_Lj (p0 p1:S_Track):Option (Bool):=m_Lj_0 p0 p1
noncomputable def m_Lk_31:Option (Bool):=
 some true
noncomputable def m_Lk_15 (p0 p1:(List S_Track)) (i15_0:Int):Option ((Int)⊕((Bool)⊕((Unit)))):=
 if (decide (i15_0 < (p0.length:Int))) then
  (rd p0 i15_0).bind fun x15_1=>
  (rd p1 i15_0).bind fun x15_2=>
  (m_Lj x15_1 x15_2).bind fun x15_3=>
  if x15_3 then
   some (.inl (w64 (i15_0+1)))
  else
   some (.inr (.inl false))
 else
  some (.inr (.inr ()))
noncomputable def lp_Lk_15 (p0 p1:(List S_Track)) (s:Int):Option ((Int)⊕((Bool)⊕((Unit)))):=m_Lk_15 p0 p1 s
noncomputable def m_Lk_0 (p0 p1:(List S_Track)):Option (Bool):=
 if ((p0.length:Int) != (p1.length:Int)) then
  some false
 else
  (loopM (lp_Lk_15 p0 p1) 0).bind fun e=>match e with | .inl e=>some e | .inr e=>m_Lk_31
noncomputable def m_Lk (p0 p1:(List S_Track)):Option (Bool):=m_Lk_0 p0 p1
noncomputable def m_Ld_31:Option (Bool):=
 some true
noncomputable def m_Ld_15 (p0 p1:(List Int)) (i15_0:Int):Option ((Int)⊕((Bool)⊕((Unit)))):=
 if (decide (i15_0 < (p0.length:Int))) then
  (rd p0 i15_0).bind fun x15_1=>
  (rd p1 i15_0).bind fun x15_2=>
  if (x15_1 != x15_2) then
   some (.inr (.inl false))
  else
   some (.inl (w64 (i15_0+1)))
 else
  some (.inr (.inr ()))
noncomputable def lp_Ld_15 (p0 p1:(List Int)) (s:Int):Option ((Int)⊕((Bool)⊕((Unit)))):=m_Ld_15 p0 p1 s
noncomputable def m_Ld_0 (p0 p1:(List Int)):Option (Bool):=
 if ((p0.length:Int) != (p1.length:Int)) then
  some false
 else
  (loopM (lp_Ld_15 p0 p1) 0).bind fun e=>match e with | .inl e=>some e | .inr e=>m_Ld_31
noncomputable def m_Ld (p0 p1:(List Int)):Option (Bool):=m_Ld_0 p0 p1
noncomputable def m_Le_0 (p0 p1:S_Packet):Option (Bool):=
 if (p0.track != p1.track) then
  some false
 else
  if (p0.time != p1.time) then
   some false
  else
   if (p0.span != p1.span) then
    some false
   else
    if (p0.key == p1.key) then
     (m_Ld p0.data p1.data).bind fun x0_4=>
     if x0_4 then
      some true
     else
      some false
    else
     some false
noncomputable def m_Le (p0 p1:S_Packet):Option (Bool):=m_Le_0 p0 p1
noncomputable def m_Lf_31:Option (Bool):=
 some true
noncomputable def m_Lf_15 (p0 p1:(List S_Packet)) (i15_0:Int):Option ((Int)⊕((Bool)⊕((Unit)))):=
 if (decide (i15_0 < (p0.length:Int))) then
  (rd p0 i15_0).bind fun x15_1=>
  (rd p1 i15_0).bind fun x15_2=>
  (m_Le x15_1 x15_2).bind fun x15_3=>
  if x15_3 then
   some (.inl (w64 (i15_0+1)))
  else
   some (.inr (.inl false))
 else
  some (.inr (.inr ()))
noncomputable def lp_Lf_15 (p0 p1:(List S_Packet)) (s:Int):Option ((Int)⊕((Bool)⊕((Unit)))):=m_Lf_15 p0 p1 s
noncomputable def m_Lf_0 (p0 p1:(List S_Packet)):Option (Bool):=
 if ((p0.length:Int) != (p1.length:Int)) then
  some false
 else
  (loopM (lp_Lf_15 p0 p1) 0).bind fun e=>match e with | .inl e=>some e | .inr e=>m_Lf_31
noncomputable def m_Lf (p0 p1:(List S_Packet)):Option (Bool):=m_Lf_0 p0 p1
noncomputable def m_Lc_0 (p0 p1:S_Box):Option (Bool):=
 (m_Lk p0.tracks p1.tracks).bind fun x0_0=>
 if x0_0 then
  (m_Lf p0.packets p1.packets).bind fun x0_2=>
  if x0_2 then
   some true
  else
   some false
 else
  some false
noncomputable def m_Lc (p0 p1:S_Box):Option (Bool):=m_Lc_0 p0 p1
noncomputable def m_La_0 (p0 p1:S_Act):Option (Bool):=
 if (p0.kind != p1.kind) then
  some false
 else
  if (p0.value != p1.value) then
   some false
  else
   some true
noncomputable def m_La (p0 p1:S_Act):Option (Bool):=m_La_0 p0 p1
noncomputable def m_Lb_31:Option (Bool):=
 some true
noncomputable def m_Lb_15 (p0 p1:(List S_Act)) (i15_0:Int):Option ((Int)⊕((Bool)⊕((Unit)))):=
 if (decide (i15_0 < (p0.length:Int))) then
  (rd p0 i15_0).bind fun x15_1=>
  (rd p1 i15_0).bind fun x15_2=>
  (m_La x15_1 x15_2).bind fun x15_3=>
  if x15_3 then
   some (.inl (w64 (i15_0+1)))
  else
   some (.inr (.inl false))
 else
  some (.inr (.inr ()))
noncomputable def lp_Lb_15 (p0 p1:(List S_Act)) (s:Int):Option ((Int)⊕((Bool)⊕((Unit)))):=m_Lb_15 p0 p1 s
noncomputable def m_Lb_0 (p0 p1:(List S_Act)):Option (Bool):=
 if ((p0.length:Int) != (p1.length:Int)) then
  some false
 else
  (loopM (lp_Lb_15 p0 p1) 0).bind fun e=>match e with | .inl e=>some e | .inr e=>m_Lb_31
noncomputable def m_Lb (p0 p1:(List S_Act)):Option (Bool):=m_Lb_0 p0 p1
noncomputable def m_Lt_25 (l25_0:ByteArray):Option (ByteArray):=
 (ck (decide ((ByteArray.mk #[109]).size+l25_0.size≤9223372036854775807))).bind fun _=>
 some ((ByteArray.mk #[109])++l25_0)
noncomputable def m_Lt_15 (i15_0:Int) (l15_1:ByteArray):Option ((Int×ByteArray)⊕((ByteArray))):=
 if (decide (i15_0 > 0)) then
  (bstr ([(wr .u8 (w64 (48+(Int.tmod i15_0 10))))]:List Int)).bind fun x15_1=>
  (ck (decide (x15_1.size+l15_1.size≤9223372036854775807))).bind fun _=>
  some (.inl ((w64 (Int.tdiv i15_0 10)),(x15_1++l15_1)))
 else
  some (.inr l15_1)
noncomputable def lp_Lt_15 (s:Int×ByteArray):Option ((Int×ByteArray)⊕((ByteArray))):=m_Lt_15 s.1 s.2
noncomputable def m_Lt_0 (p0:Int):Option (ByteArray):=
 if (decide (p0≤0)) then
  some (ByteArray.mk #[109,48])
 else
  (loopM (lp_Lt_15) (p0,(ByteArray.mk #[]))).bind fun e=>m_Lt_25 e
noncomputable def m_Lt (p0:Int):Option (ByteArray):=m_Lt_0 p0
noncomputable def m_Lu_27 (i27_0:Int) (l27_1:(List S_Track)):Option (Int×(List S_Track)):=
 some (i27_0,l27_1)
noncomputable def m_Lu_7 (i7_0 i7_1:Int) (l7_2:(List S_Track)):Option ((Int×Int×(List S_Track))⊕((Int×(List S_Track)))):=
 if (decide (i7_1 < (l7_2.length:Int))) then
  (rd l7_2 i7_1).bind fun _=>
  (m_Lt (w64 ((w64 (i7_0+1))+1))).bind fun x7_2=>
  some (.inl ((w64 ((w64 ((w64 (i7_0+1))+1))+1)),(w64 (i7_1+1)),(l7_2.set (0+Int.toNat i7_1) (S_Track.mk i7_0 (w64 (i7_0+1)) x7_2))))
 else
  some (.inr (i7_0,l7_2))
noncomputable def lp_Lu_7 (s:Int×Int×(List S_Track)):Option ((Int×Int×(List S_Track))⊕((Int×(List S_Track)))):=m_Lu_7 s.1 s.2.1 s.2.2
noncomputable def m_Lu_0 (p1:Int) (p0:(List S_Track)):Option (Int×(List S_Track)):=
 (loopM (lp_Lu_7) (p1,0,p0)).bind fun e=>m_Lu_27 e.1 e.2
noncomputable def m_Lu (p0:(List S_Track)) (p1:Int):Option (Int×(List S_Track)):=m_Lu_0 p1 p0
noncomputable def m_Lp_19 (i19_0:Int) (l19_1:(List Int)):Option (Int×(List Int)):=
 some (i19_0,l19_1)
noncomputable def m_Lp_7 (i7_0 i7_1:Int) (l7_2:(List Int)):Option ((Int×Int×(List Int))⊕((Int×(List Int)))):=
 if (decide (i7_1 < (l7_2.length:Int))) then
  (rd l7_2 i7_1).bind fun _=>
  some (.inl ((w64 (i7_0+1)),(w64 (i7_1+1)),(l7_2.set (0+Int.toNat i7_1) (wr .u8 i7_0))))
 else
  some (.inr (i7_0,l7_2))
noncomputable def lp_Lp_7 (s:Int×Int×(List Int)):Option ((Int×Int×(List Int))⊕((Int×(List Int)))):=m_Lp_7 s.1 s.2.1 s.2.2
noncomputable def m_Lp_0 (p1:Int) (p0:(List Int)):Option (Int×(List Int)):=
 (loopM (lp_Lp_7) (p1,0,p0)).bind fun e=>m_Lp_19 e.1 e.2
noncomputable def m_Lp (p0:(List Int)) (p1:Int):Option (Int×(List Int)):=m_Lp_0 p1 p0
noncomputable def m_Lq_33 (i33_0:Int) (l33_1:(List S_Packet)):Option (Int×(List S_Packet)):=
 some (i33_0,l33_1)
noncomputable def m_Lq_7 (i7_0 i7_1:Int) (l7_2:(List S_Packet)):Option ((Int×Int×(List S_Packet))⊕((Int×(List S_Packet)))):=
 if (decide (i7_1 < (l7_2.length:Int))) then
  (rd l7_2 i7_1).bind fun x7_1=>
  (m_Lp x7_1.data (w64 ((w64 ((w64 ((w64 (i7_0+1))+1))+1))+1))).bind fun x7_2=>
  (ck (decide (x7_2.2.length=x7_1.data.length))).bind fun _=>
  some (.inl (x7_2.1,(w64 (i7_1+1)),(l7_2.set (0+Int.toNat i7_1) (S_Packet.mk i7_0 (w64 (i7_0+1)) (w64 ((w64 (i7_0+1))+1)) ((Int.tmod (w64 ((w64 ((w64 (i7_0+1))+1))+1)) 3) == 0) x7_2.2))))
 else
  some (.inr (i7_0,l7_2))
noncomputable def lp_Lq_7 (s:Int×Int×(List S_Packet)):Option ((Int×Int×(List S_Packet))⊕((Int×(List S_Packet)))):=m_Lq_7 s.1 s.2.1 s.2.2
noncomputable def m_Lq_0 (p1:Int) (p0:(List S_Packet)):Option (Int×(List S_Packet)):=
 (loopM (lp_Lq_7) (p1,0,p0)).bind fun e=>m_Lq_33 e.1 e.2
noncomputable def m_Lq (p0:(List S_Packet)) (p1:Int):Option (Int×(List S_Packet)):=m_Lq_0 p1 p0
noncomputable def m_Lo_0 (p1:Int) (p0:S_Box):Option (Int×S_Box):=
 (m_Lu p0.tracks p1).bind fun x0_0=>
 (ck (decide (x0_0.2.length=p0.tracks.length))).bind fun _=>
 (m_Lq p0.packets x0_0.1).bind fun x0_2=>
 (ck (decide (x0_2.2.length=p0.packets.length))).bind fun _=>
 some (x0_2.1,(S_Box.mk x0_0.2 x0_2.2))
noncomputable def m_Lo (p0:S_Box) (p1:Int):Option (Int×S_Box):=m_Lo_0 p1 p0
noncomputable def m_Ln_23 (i23_0:Int) (l23_1:(List S_Act)):Option (Int×(List S_Act)):=
 some (i23_0,l23_1)
noncomputable def m_Ln_7 (i7_0 i7_1:Int) (l7_2:(List S_Act)):Option ((Int×Int×(List S_Act))⊕((Int×(List S_Act)))):=
 if (decide (i7_1 < (l7_2.length:Int))) then
  (rd l7_2 i7_1).bind fun _=>
  some (.inl ((w64 ((w64 (i7_0+1))+1)),(w64 (i7_1+1)),(l7_2.set (0+Int.toNat i7_1) (S_Act.mk i7_0 (w64 (i7_0+1))))))
 else
  some (.inr (i7_0,l7_2))
noncomputable def lp_Ln_7 (s:Int×Int×(List S_Act)):Option ((Int×Int×(List S_Act))⊕((Int×(List S_Act)))):=m_Ln_7 s.1 s.2.1 s.2.2
noncomputable def m_Ln_0 (p1:Int) (p0:(List S_Act)):Option (Int×(List S_Act)):=
 (loopM (lp_Ln_7) (p1,0,p0)).bind fun e=>m_Ln_23 e.1 e.2
noncomputable def m_Ln (p0:(List S_Act)) (p1:Int):Option (Int×(List S_Act)):=m_Ln_0 p1 p0
noncomputable def m_Ls_31 (i31_0:Int) (l31_1:(List S_Show)):Option (Int×(List S_Show)):=
 some (i31_0,l31_1)
noncomputable def m_Ls_7 (i7_0 i7_1:Int) (l7_2:(List S_Show)):Option ((Int×Int×(List S_Show))⊕((Int×(List S_Show)))):=
 if (decide (i7_1 < (l7_2.length:Int))) then
  (rd l7_2 i7_1).bind fun _=>
  some (.inl ((w64 ((w64 ((w64 ((w64 (i7_0+1))+1))+1))+1)),(w64 (i7_1+1)),(l7_2.set (0+Int.toNat i7_1) (S_Show.mk i7_0 (w64 (i7_0+1)) (w64 ((w64 (i7_0+1))+1)) ((Int.tmod (w64 ((w64 ((w64 (i7_0+1))+1))+1)) 3) == 0)))))
 else
  some (.inr (i7_0,l7_2))
noncomputable def lp_Ls_7 (s:Int×Int×(List S_Show)):Option ((Int×Int×(List S_Show))⊕((Int×(List S_Show)))):=m_Ls_7 s.1 s.2.1 s.2.2
noncomputable def m_Ls_0 (p1:Int) (p0:(List S_Show)):Option (Int×(List S_Show)):=
 (loopM (lp_Ls_7) (p1,0,p0)).bind fun e=>m_Ls_31 e.1 e.2
noncomputable def m_Ls (p0:(List S_Show)) (p1:Int):Option (Int×(List S_Show)):=m_Ls_0 p1 p0
noncomputable def m_Lr_0 (p0:S_Played) (p1:Int):Option (Int×S_Played):=
 (m_Ls p0.shows p1).bind fun x0_0=>
 (ck (decide (x0_0.2.length=p0.shows.length))).bind fun _=>
 some (x0_0.1,(S_Played.mk p0.err x0_0.2 p0.wall p0.clock))
noncomputable def m_Lr (p0:S_Played) (p1:Int):Option (Int×S_Played):=m_Lr_0 p0 p1
noncomputable def m_Lm_55 (i55_0:Int):Option (Int):=
 some i55_0
noncomputable def m_Lm_7 (p0:(List S_Show)) (i7_0 i7_1:Int):Option ((Int×Int)⊕((Int)⊕((Int)))):=
 if (decide (i7_1 < (p0.length:Int))) then
  (rd p0 i7_1).bind fun x7_1=>
  if (x7_1.wall != i7_0) then
   some (.inr (.inl (-1)))
  else
   if (x7_1.clock != (w64 (i7_0+1))) then
    some (.inr (.inl (-1)))
   else
    if (x7_1.packet != (w64 ((w64 (i7_0+1))+1))) then
     some (.inr (.inl (-1)))
    else
     if (x7_1.dropped == ((Int.tmod (w64 ((w64 ((w64 (i7_0+1))+1))+1)) 3) == 0)) then
      some (.inl ((w64 ((w64 ((w64 ((w64 (i7_0+1))+1))+1))+1)),(w64 (i7_1+1))))
     else
      some (.inr (.inl (-1)))
 else
  some (.inr (.inr i7_0))
noncomputable def lp_Lm_7 (p0:(List S_Show)) (s:Int×Int):Option ((Int×Int)⊕((Int)⊕((Int)))):=m_Lm_7 p0 s.1 s.2
noncomputable def m_Lm_0 (p0:(List S_Show)) (p1:Int):Option (Int):=
 (loopM (lp_Lm_7 p0) (p1,0)).bind fun e=>match e with | .inl e=>some e | .inr e=>m_Lm_55 e
noncomputable def m_Lm (p0:(List S_Show)) (p1:Int):Option (Int):=m_Lm_0 p0 p1
noncomputable def m_Ll_0 (p0:S_Played) (p1:Int):Option (Int):=
 (m_Lm p0.shows p1).bind fun x0_0=>
 if (decide (x0_0 < 0)) then
  some (-1)
 else
  some x0_0
noncomputable def m_Ll (p0:S_Played) (p1:Int):Option (Int):=m_Ll_0 p0 p1
noncomputable def m_laws_FnExactRunPlayer_0 (p0:S_Box) (p1:Int) (p2:(List S_Act)):Option (Bool):=
 (m_Lw p0 1048576).bind fun x0_0=>
 if (decide (x0_0 < 0)) then
  some true
 else
  (m_Lv p2 x0_0).bind fun x0_2=>
  if (decide (x0_2 < 0)) then
   some true
  else
   (m_Lbe p0).bind fun x0_4=>
   (m_Lbd p2).bind fun x0_5=>
   (m_Sb x0_4 p1 x0_5).bind fun x0_6=>
   (m_Ib x0_4 p1 x0_5).bind fun x0_7=>
   (m_Lg x0_7 x0_6).bind fun x0_8=>
   if x0_8 then
    (m_Lc x0_4 x0_4).bind fun x0_10=>
    if x0_10 then
     (m_Lb x0_5 x0_5).bind fun x0_12=>
     if x0_12 then
      (m_Lo x0_4 1).bind fun x0_14=>
      (ck (decide (x0_14.2.tracks.length=x0_4.tracks.length))).bind fun _=>
      (ck (decide (x0_14.2.packets.length=x0_4.packets.length))).bind fun _=>
      (m_Ln x0_5 x0_14.1).bind fun x0_17=>
      (ck (decide (x0_17.2.length=x0_5.length))).bind fun _=>
      if (decide (x0_17.1 < 0)) then
       some false
      else
       (m_Lr x0_7 1).bind fun x0_20=>
       (ck (decide (x0_20.2.shows.length=x0_7.shows.length))).bind fun _=>
       (m_Ll (S_Played.mk x0_7.err x0_20.2.shows x0_7.wall x0_7.clock) 1).bind fun x0_22=>
       if (decide (x0_22 < 0)) then
        some false
       else
        if (x0_22 != x0_20.1) then
         some false
        else
         some true
     else
      some false
    else
     some false
   else
    some false
noncomputable def m_laws_FnExactRunPlayer (p0:S_Box) (p1:Int) (p2:(List S_Act)):Option (Bool):=m_laws_FnExactRunPlayer_0 p0 p1 p2
end Go.Proofs.V

set_option linter.unusedSimpArgs false
set_option linter.unusedSectionVars false
namespace Go.Proofs.V
open Go
theorem loop_all {b:Int→Option (Int⊕(Bool⊕Unit))} (n:Nat) (q:Nat→Bool) (i0:Nat) (step:∀ i:Nat,i0≤i→i < n→b (i:Int)=some (if q i then .inl (((i+1:Nat)):Int) else .inr (.inl false)))
  (done:∀ i:Nat,n≤i→i≤n+i0→b (i:Int)=some (.inr (.inr ()))):loopM b (i0:Int)=some (if (List.range' i0 (n - i0)).all q then .inr () else .inl false):=by
 have key:∀ (d i:Nat),n - i=d→i0≤i→i≤n+i0→loopM b (i:Int)=some (if (List.range' i (n - i)).all q then .inr () else .inl false):=by
  intro d
  induction d with
  | zero=>
   intro i hd h0 h1
   rw [loopM_eq,done i (by omega) h1,hd]
   rfl
  | succ d ih=>
   intro i hd h0 h1
   rw [loopM_eq,step i h0 (by omega),show n - i=(n - (i+1))+1 by omega,List.range'_succ,List.all_cons]
   cases hq:q i with
   | true=>
    simp only [if_true,Bool.true_and]
    exact ih (i+1) (by omega) (by omega) (by omega)
   | false=>simp
 exact key _ i0 rfl (Nat.le_refl _) (by omega)
def bytesOk (s:ByteArray):Bool:=s.data.toList.all fun b=>decide (32≤b.toNat)&&decide (b.toNat≤126)
def trackOk (t:S_Track):Bool:=decide (1≤t.kind∧t.kind≤6∧1≤t.scale∧t.scale≤1000000∧t.name.size≤40)&&bytesOk t.name
theorem sat_eq {s:ByteArray} {i:Nat} (h:i < s.data.toList.length):sat s (i:Int)=some ((s.data.toList[i].toNat:Nat):Int):=by
 unfold sat
 rw [if_pos (by omega),Int.toNat_natCast]
 have h' : i < s.size:=by simpa using h
 rw [getElem?_pos s i h']
 rfl
theorem size_toList (s:ByteArray):s.data.toList.length=s.size:=Array.length_toList
theorem bytes_loop {s:ByteArray} {b:Int→Option (Int⊕(Bool⊕Unit))} (hs:s.size < 4611686018427387904) (h:∀ i:Int,b i=if (decide (i < (s.size:Int))) then (sat s i).bind fun x=>if (decide (x < 32)) then some (.inr (.inl false)) else if (decide (x > 126)) then some (.inr (.inl false)) else some (.inl (w64 (i+1))) else some (.inr (.inr ()))) :
  loopM b 0=some (bif bytesOk s then .inr () else .inl false):=by
 have hl:=size_toList s
 refine all_list (l:=s.data.toList) (q:=fun b=>decide (32≤b.toNat)&&decide (b.toNat≤126)) (by omega) (fun i hi=>?_) ?_
 ·rw [h,if_pos (by rw [←hl];simpa using hi),sat_eq hi]
  simp only [Option.bind_some]
  rw [w64_succ (by omega)]
  generalize s.data.toList[i].toNat=x
  by_cases h1:x < 32
  ·rw [if_pos (by simp;omega),if_neg (by simp;omega)]
  ·rw [if_neg (by simp;omega)]
   by_cases h2:x > 126
   ·rw [if_pos (by simp;omega),if_neg (by simp;omega)]
   ·rw [if_neg (by simp;omega),if_pos (by simp;omega)]
 ·rw [h,if_neg (by rw [hl];simp)]
theorem spec_track (t:S_Track) (h:t.name.size < 4611686018427387904):m_Sg t=some (trackOk t):=by
 simp only [m_Sg,m_Sg_0,m_Sc,m_Sc_0]
 rw [bytes_loop (b:=lp_Sc_7 t.name) h (fun i=>rfl)]
 unfold trackOk
 by_cases h1:1≤t.kind
 ·rw [if_pos (by simpa using h1)]
  by_cases h2:t.kind≤6
  ·rw [if_pos (by simpa using h2)]
   by_cases h3:1≤t.scale
   ·rw [if_pos (by simpa using h3)]
    by_cases h4:t.scale≤1000000
    ·rw [if_pos (by simpa using h4)]
     by_cases h5:t.name.size≤40
     ·rw [if_pos (by simp;omega)]
      cases bytesOk t.name <;> simp [h1,h2,h3,h4,h5,m_Sc_23]
     ·rw [if_neg (by simp;omega)];simp [h5]
    ·rw [if_neg (by simpa using h4)];simp [h4]
   ·rw [if_neg (by simpa using h3)];simp [h3]
  ·rw [if_neg (by simpa using h2)];simp [h2]
 ·rw [if_neg (by simpa using h1)];simp [h1]
theorem impl_track (t:S_Track) (h:t.name.size < 4611686018427387904):m_Il t=some (trackOk t):=by
 simp only [m_Il,m_Il_0]
 rw [bytes_loop (b:=lp_Il_15 t) h (fun i=>rfl)]
 unfold trackOk
 by_cases h1:1≤t.kind
 ·rw [if_neg (by simp;omega)]
  by_cases h2:t.kind≤6
  ·rw [if_neg (by simp;omega)]
   by_cases h3:1≤t.scale
   ·rw [if_neg (by simp;omega)]
    by_cases h4:t.scale≤1000000
    ·rw [if_neg (by simp;omega)]
     by_cases h5:t.name.size≤40
     ·rw [if_neg (by simp;omega)]
      cases bytesOk t.name <;> simp [h1,h2,h3,h4,h5,m_Il_33]
     ·rw [if_pos (by simp;omega)];simp [h5]
    ·rw [if_pos (by simp;omega)];simp [h4]
   ·rw [if_pos (by simp;omega)];simp [h3]
  ·rw [if_pos (by simp;omega)];simp [h2]
 ·rw [if_pos (by simp;omega)];simp [h1]
def SmT (l:List S_Track):Prop:=l.length≤1048576∧∀ t ∈ l,t.name.size≤1048576
def SmB (b:S_Box):Prop:=SmT b.tracks∧b.packets.length≤1048576∧∀ p ∈ b.packets,p.data.length≤1048576
def tracksOk (l:List S_Track):Bool:=l.all trackOk&&decide (1≤l.length∧l.length≤8)
theorem spec_tracks (l:List S_Track) (h:SmT l):m_Sh l=some (tracksOk l):=by
 simp only [m_Sh,m_Sh_0]
 have:=all_list (l:=l) (q:=trackOk) (b:=lp_Sh_7 l) (by have:=h.1;omega) (fun i hi=>by
  have hx:=h.2 l[i] (by simp)
  have h1:=h.1
  simp only [lp_Sh_7,m_Sh_7]
  rw [if_pos (by simp;omega),rd_eq hi]
  simp only [Option.bind_some]
  rw [spec_track _ (by omega)]
  simp only [Option.bind_some]
  rw [w64_succ (by omega)]) (by simp [lp_Sh_7,m_Sh_7])
 rw [this]
 unfold tracksOk
 cases l.all trackOk with
 | false=>rfl
 | true=>
  simp only [cond_true,Option.bind_some,m_Sh_25,Bool.true_and]
  by_cases h1:1≤l.length
  ·rw [if_pos (by simp;omega)]
   by_cases h2:l.length≤8
   ·simp [h1,h2];omega
   ·simp [h1,h2];omega
  ·rw [if_neg (by simp;omega)];simp [h1]
def ticksOk (n:Int):Bool:=decide (0≤n∧n≤1000000000)
theorem spec_ticks (n:Int):m_Sf n=some (ticksOk n):=by
 simp only [m_Sf,m_Sf_0,ticksOk]
 by_cases h:0≤n
 ·rw [if_pos (by simpa using h)];simp [h]
 ·rw [if_neg (by simpa using h)];simp [h]
theorem impl_ticks (n:Int):m_Ik n=some (ticksOk n):=spec_ticks n
def pkOk (nt:Nat) (last:List Int) (p:S_Packet):Bool:=
 decide (0≤p.track∧p.track < nt)&&ticksOk p.time&&ticksOk p.span&&decide (last.getD p.track.toNat 0≤p.time)&&(decide (0≤last.getD p.track.toNat 0)||p.key)
def pkAll (nt:Nat):List S_Packet→List Int→Nat→Option Nat
 | [],_,sum=>some sum
 | p::ps,last,sum=>if pkOk nt last p then pkAll nt ps (last.set p.track.toNat p.time) (sum+p.data.length) else none
def rightOk (b:S_Box):Bool:=
 tracksOk b.tracks&&decide (b.packets.length≤400)&&(match pkAll b.tracks.length b.packets (List.replicate b.tracks.length (-1)) 0 with | some n=>decide (n≤60000) | none=>false)
theorem pkAll_mono (nt:Nat):∀ (l:List S_Packet) (last:List Int) (s n:Nat),pkAll nt l last s=some n→s≤n
 | [],last,s,n,h=>by simp [pkAll] at h;omega
 | p::ps,last,s,n,h=>by
  simp only [pkAll] at h
  split at h
  ·have:=pkAll_mono nt ps _ _ _ h;omega
  ·simp at h
section
variable {b:S_Box} (hb:SmB b) (hn:b.packets.length≤400)
include hb hn
theorem pk_step {X:Type} (i:Nat) (hi:i < b.packets.length) (last:List Int) (hl:last.length=b.tracks.length) (tk:Int→Option Bool) (htk:∀ n,tk n=some (ticksOk n)) (no:Option X) (go:Option X) :
  (if (decide (b.packets[i].track < 0)) then no else if (decide (b.packets[i].track≥(b.tracks.length:Int))) then no else
   (tk b.packets[i].time).bind fun x4=>if x4 then (tk b.packets[i].span).bind fun x6=>if x6 then (rd last b.packets[i].track).bind fun x8=>
    if (decide (b.packets[i].time < x8)) then no else if (decide (x8 < 0)) then (if b.packets[i].key then go else no) else go else no else no)=if pkOk b.tracks.length last b.packets[i] then go else no:=by
 unfold pkOk
 by_cases h1:b.packets[i].track < 0
 ·rw [if_pos (by simpa using h1),if_neg (by simp;omega)]
 ·rw [if_neg (by simpa using h1)]
  by_cases h2:b.packets[i].track≥(b.tracks.length:Int)
  ·rw [if_pos (by simpa using h2),if_neg (by simp;omega)]
  ·rw [if_neg (by simpa using h2),htk]
   simp only [Option.bind_some]
   obtain ⟨k,hk⟩:∃ k:Nat,b.packets[i].track=k:=⟨b.packets[i].track.toNat,by omega⟩
   cases h3:ticksOk b.packets[i].time with
   | false=>simp
   | true=>
    simp only [if_true]
    rw [htk]
    simp only [Option.bind_some]
    cases h4:ticksOk b.packets[i].span with
    | false=>simp
    | true=>
     simp only [if_true]
     rw [hk,rd_d 0 (by omega)]
     simp only [Option.bind_some,Int.toNat_natCast]
     by_cases h5:b.packets[i].time < last.getD k 0
     ·rw [if_pos (by simpa only [decide_eq_true_eq] using h5),if_neg (fun hh=>by simp only [Bool.and_eq_true,decide_eq_true_eq] at hh;omega)]
     ·rw [if_neg (by simpa only [decide_eq_true_eq] using h5)]
      by_cases h6:last.getD k 0 < 0
      ·rw [if_pos (by simpa only [decide_eq_true_eq] using h6)]
       cases b.packets[i].key with
       | true=>simp only [if_true];rw [if_pos (by simp only [Bool.and_eq_true,decide_eq_true_eq,Bool.or_true,and_true];omega)]
       | false=>simp only [Bool.false_eq_true,if_false];rw [if_neg (fun hh=>by simp only [Bool.and_eq_true,decide_eq_true_eq,Bool.or_false] at hh;omega)]
      ·rw [if_neg (by simpa only [decide_eq_true_eq] using h6),if_pos (by simp only [Bool.and_eq_true,decide_eq_true_eq,Bool.or_eq_true,and_true];refine ⟨⟨by omega,by omega⟩,.inl (by omega)⟩)]
theorem spec_walk:∀ (d i:Nat) (last:List Int) (sum:Nat),i+d=b.packets.length→last.length=b.tracks.length→sum≤i*1048576→sum≤60000→
  loopM (lp_Se_36 b) ((sum:Int),(i:Int),last)=some (match pkAll b.tracks.length (b.packets.drop i) last sum with | some n=>if n≤60000 then .inr () else .inl false | none=>.inl false):=by
 intro d
 induction d with
 | zero=>
  intro i last sum hi hl hs hs2
  have:i=b.packets.length:=by omega
  subst this
  rw [loopM_eq]
  simp only [lp_Se_36,m_Se_36]
  rw [if_neg (by simp),List.drop_length]
  simp [pkAll,hs2]
 | succ d ih=>
  intro i last sum hi hl hs hs2
  have hlt:i < b.packets.length:=by omega
  have hdl:=hb.2.2 b.packets[i] (by simp)
  rw [loopM_eq]
  simp only [lp_Se_36,m_Se_36]
  rw [if_pos (by simp;omega),rd_eq hlt]
  simp only [Option.bind_some]
  have hstep:=pk_step hb hn i hlt last hl m_Sf spec_ticks (some (.inr (.inl false))) (m_Se_62 (sum:Int) b (i:Int) b.packets[i] last)
  rw [hstep,List.drop_eq_getElem_cons hlt]
  simp only [pkAll]
  cases hok:pkOk b.tracks.length last b.packets[i] with
  | false=>simp
  | true=>
   simp only [if_true]
   have htr:0≤b.packets[i].track∧b.packets[i].track < b.tracks.length:=by
    simp only [pkOk,Bool.and_eq_true,decide_eq_true_eq] at hok
    exact hok.1.1.1.1
   obtain ⟨k,hk⟩:∃ k:Nat,b.packets[i].track=k:=⟨b.packets[i].track.toNat,by omega⟩
   simp only [m_Se_62]
   rw [hk,rd_d 0 (by omega)]
   simp only [Option.bind_some,Int.toNat_natCast,Nat.zero_add]
   have e1:w64 ((sum:Int)+(b.packets[i].data.length:Int))=((sum+b.packets[i].data.length:Nat):Int):=by rw [w64_id (by omega) (by omega)];omega
   rw [e1,w64_succ (by omega)]
   by_cases hbig:sum+b.packets[i].data.length > 60000
   ·rw [if_pos (by simp;omega)]
    simp only
    cases hp:pkAll b.tracks.length (b.packets.drop (i+1)) (last.set k b.packets[i].time) (sum+b.packets[i].data.length) with
    | none=>rfl
    | some n=>
     have:=pkAll_mono _ _ _ _ _ hp
     simp only
     rw [if_neg (by omega)]
   ·rw [if_neg (by simp;omega)]
    simp only
    exact ih (i+1) _ _ (by omega) (by simpa using hl) (by rw [Nat.succ_mul];omega) (by omega)
theorem impl_walk:∀ (d i:Nat) (last:List Int) (sum:Nat),i+d=b.packets.length→last.length=b.tracks.length→sum≤i*1048576→
  loopM (lp_Ij_59 b) ((sum:Int),(i:Int),last)=some (match pkAll b.tracks.length (b.packets.drop i) last sum with | some n=>.inr (n:Int) | none=>.inl false):=by
 intro d
 induction d with
 | zero=>
  intro i last sum hi hl hs
  have:i=b.packets.length:=by omega
  subst this
  rw [loopM_eq]
  simp only [lp_Ij_59,m_Ij_59]
  rw [if_neg (by simp),List.drop_length]
  simp [pkAll]
 | succ d ih=>
  intro i last sum hi hl hs
  have hlt:i < b.packets.length:=by omega
  have hdl:=hb.2.2 b.packets[i] (by simp)
  rw [loopM_eq]
  simp only [lp_Ij_59,m_Ij_59]
  rw [if_pos (by simp;omega),rd_eq hlt]
  simp only [Option.bind_some]
  have hstep:=pk_step hb hn i hlt last hl m_Ik impl_ticks (some (.inr (.inl false))) (m_Ij_77 (sum:Int) b (i:Int) b.packets[i] last)
  rw [hstep,List.drop_eq_getElem_cons hlt]
  simp only [pkAll]
  cases hok:pkOk b.tracks.length last b.packets[i] with
  | false=>simp
  | true=>
   simp only [if_true]
   have htr:0≤b.packets[i].track∧b.packets[i].track < b.tracks.length:=by
    simp only [pkOk,Bool.and_eq_true,decide_eq_true_eq] at hok
    exact hok.1.1.1.1
   obtain ⟨k,hk⟩:∃ k:Nat,b.packets[i].track=k:=⟨b.packets[i].track.toNat,by omega⟩
   simp only [m_Ij_77]
   rw [hk,rd_d 0 (by omega)]
   simp only [Option.bind_some,Int.toNat_natCast,Nat.zero_add]
   have e1:w64 ((sum:Int)+(b.packets[i].data.length:Int))=((sum+b.packets[i].data.length:Nat):Int):=by rw [w64_id (by omega) (by omega)];omega
   rw [e1,w64_succ (by omega)]
   exact ih (i+1) _ _ (by omega) (by simpa using hl) (by rw [Nat.succ_mul];omega)
end
theorem spec_right (b:S_Box) (hb:SmB b):m_Se b=some (rightOk b):=by
 simp only [m_Se,m_Se_0]
 rw [spec_tracks _ hb.1]
 simp only [Option.bind_some]
 unfold rightOk
 have ht:=hb.1.1
 cases tracksOk b.tracks with
 | false=>rfl
 | true=>
  simp only [if_true,Bool.true_and]
  by_cases hn:b.packets.length≤400
  ·rw [if_neg (by simp;omega),ck_eq (by omega)]
   simp only [Option.bind_some,Int.toNat_natCast]
   rw [replicate_filled (v:=-1) b.tracks.length (by omega) (fun i l hi hl=>by
    simp only [lp_Se_17,m_Se_17]
    rw [if_pos (by simp;omega),rd_d 0 (by omega)]
    simp only [Option.bind_some]
    rw [w64_succ (by omega)]) (fun l=>by simp [lp_Se_17,m_Se_17])]
   simp only [Option.bind_some,m_Se_29]
   have:=spec_walk hb hn b.packets.length 0 (List.replicate b.tracks.length (-1)) 0 (by omega) (by simp) (by omega) (by omega)
   rw [show ((0:Nat):Int)=0 from rfl,List.drop_zero] at this
   rw [this]
   simp only [Option.bind_some]
   cases pkAll b.tracks.length b.packets (List.replicate b.tracks.length (-1)) 0 with
   | none=>simp [hn]
   | some n=>
    simp only [hn,decide_true,Bool.true_and]
    by_cases h2:n≤60000
    ·rw [if_pos h2];simp [h2,m_Se_74]
    ·rw [if_neg h2];simp [h2]
  ·rw [if_pos (by simp;omega)];simp [hn]
theorem impl_right (b:S_Box) (hb:SmB b):m_Ij b=some (rightOk b):=by
 simp only [m_Ij,m_Ij_0]
 have ht:=hb.1.1
 unfold rightOk tracksOk
 by_cases h1:1≤b.tracks.length
 ·rw [if_neg (by simp;omega)]
  by_cases h8:b.tracks.length≤8
  ·rw [if_neg (by simp;omega)]
   by_cases hn:b.packets.length≤400
   ·rw [if_neg (by simp;omega)]
    have:=all_list (l:=b.tracks) (q:=trackOk) (b:=lp_Ij_15 b) (by omega) (fun i hi=>by
     have hx:=hb.1.2 b.tracks[i] (by simp)
     simp only [lp_Ij_15,m_Ij_15]
     rw [if_pos (by simp;omega),rd_eq hi]
     simp only [Option.bind_some]
     rw [impl_track _ (by omega)]
     simp only [Option.bind_some]
     rw [w64_succ (by omega)]) (by simp [lp_Ij_15,m_Ij_15])
    rw [this]
    cases b.tracks.all trackOk with
    | false=>simp
    | true=>
     simp only [cond_true,Option.bind_some,m_Ij_33,Bool.true_and]
     rw [ck_eq (by omega)]
     simp only [Option.bind_some,Int.toNat_natCast]
     rw [replicate_filled (v:=-1) b.tracks.length (by omega) (fun i l hi hl=>by
      simp only [lp_Ij_42,m_Ij_42]
      rw [if_pos (by simp;omega),rd_d 0 (by omega)]
      simp only [Option.bind_some]
      rw [w64_succ (by omega)]) (fun l=>by simp [lp_Ij_42,m_Ij_42])]
     simp only [Option.bind_some,m_Ij_54]
     have:=impl_walk hb hn b.packets.length 0 (List.replicate b.tracks.length (-1)) 0 (by omega) (by simp) (by omega)
     rw [show ((0:Nat):Int)=0 from rfl,List.drop_zero] at this
     rw [this]
     simp only [Option.bind_some]
     cases pkAll b.tracks.length b.packets (List.replicate b.tracks.length (-1)) 0 with
     | none=>simp
     | some n=>simp [hn,h1,h8,m_Ij_81];omega
   ·rw [if_pos (by simp;omega)];simp [hn]
  ·rw [if_pos (by simp;omega)];simp [h8]
 ·rw [if_pos (by simp;omega)];simp [h1]
def pkAt (b:S_Box) (i:Nat):S_Packet:=b.packets.getD i default
def scAt (b:S_Box) (t:Int):Int:=(b.tracks.getD t.toNat default).scale
def earl (b:S_Box) (i j:Nat):Bool:=
 if (pkAt b i).time*scAt b (pkAt b j).track≠(pkAt b j).time*scAt b (pkAt b i).track then decide ((pkAt b i).time*scAt b (pkAt b j).track < (pkAt b j).time*scAt b (pkAt b i).track)
 else if (pkAt b i).track≠(pkAt b j).track then decide ((pkAt b i).track < (pkAt b j).track) else decide (i < j)
def goodOk (b:S_Box):Bool:=rightOk b&&(List.range' 1 (b.packets.length - 1)).all fun i=>earl b (i - 1) i
theorem ord_anti (A B t u:Int) (i j:Nat) (h:i≠j):(if B≠A then decide (B < A) else if u≠t then decide (u < t) else decide (j < i)) = !(if A≠B then decide (A < B) else if t≠u then decide (t < u) else decide (i < j)):=by
 by_cases h1:A=B
 ·subst h1
  simp only [ne_eq,not_true_eq_false,if_false]
  by_cases h2:t=u
  ·subst h2
   simp only [not_true_eq_false,if_false]
   by_cases h3:i < j
   ·simp only [h3,decide_true,Bool.not_true,decide_eq_false_iff_not];omega
   ·simp only [h3,decide_false,Bool.not_false,decide_eq_true_eq];omega
  ·simp only [h2,Ne.symm h2,not_false_eq_true,if_true,eq_comm (a:=u)]
   by_cases h3:t < u
   ·simp only [h3,decide_true,Bool.not_true,decide_eq_false_iff_not];omega
   ·simp only [h3,decide_false,Bool.not_false,decide_eq_true_eq];omega
 ·have h1' : ¬ B=A:=fun e=>h1 e.symm
  simp only [ne_eq,h1,h1',not_false_eq_true,if_true]
  by_cases h3:A < B
  ·simp only [h3,decide_true,Bool.not_true,decide_eq_false_iff_not];omega
  ·simp only [h3,decide_false,Bool.not_false,decide_eq_true_eq];omega
theorem ord_bne (A B t u:Int) (i j:Nat):(if (A != B) then some (decide (A < B)) else if (t != u) then some (decide (t < u)) else some (decide ((i:Int) < (j:Int))))=some (if A≠B then decide (A < B) else if t≠u then decide (t < u) else decide (i < j)):=by
 by_cases h1:A=B
 ·subst h1
  simp only [bne_self_eq_false,Bool.false_eq_true,if_false,ne_eq,not_true_eq_false]
  by_cases h2:t=u
  ·subst h2
   simp only [bne_self_eq_false,Bool.false_eq_true,if_false,ne_eq,not_true_eq_false,Int.ofNat_lt]
  ·simp only [bne_iff_ne,ne_eq,h2,not_false_eq_true,if_true]
 ·simp only [bne_iff_ne,ne_eq,h1,not_false_eq_true,if_true]
theorem earl_anti (b:S_Box) {i j:Nat} (h:i≠j):earl b j i = !(earl b i j):=ord_anti _ _ _ _ i j h
structure RightF (b:S_Box):Prop where
 nt:1≤b.tracks.length∧b.tracks.length≤8
 np:b.packets.length≤400
 tr:∀ t ∈ b.tracks,trackOk t=true
 sum:∃ n,pkAll b.tracks.length b.packets (List.replicate b.tracks.length (-1)) 0=some n∧n≤60000
theorem right_facts {b:S_Box} (h:rightOk b=true):RightF b:=by
 unfold rightOk tracksOk at h
 simp only [Bool.and_eq_true,decide_eq_true_eq,List.all_eq_true] at h
 obtain ⟨⟨⟨h1,h2⟩,h3⟩,h4⟩ :=h
 refine ⟨h2,h3,h1,?_⟩
 cases hp:pkAll b.tracks.length b.packets (List.replicate b.tracks.length (-1)) 0 with
 | none=>rw [hp] at h4;simp at h4
 | some n=>rw [hp] at h4;exact ⟨n,rfl,by simpa using h4⟩
theorem facts_right {b:S_Box} (h:RightF b):rightOk b=true:=by
 unfold rightOk tracksOk
 obtain ⟨n,h1,h2⟩ :=h.sum
 simp only [Bool.and_eq_true,decide_eq_true_eq,List.all_eq_true]
 exact ⟨⟨⟨h.tr,h.nt⟩,h.np⟩,by rw [h1];simpa using h2⟩
theorem pkAll_range (nt:Nat):∀ (l:List S_Packet) (last:List Int) (s n:Nat),pkAll nt l last s=some n→∀ p ∈ l,(0≤p.track∧p.track < nt)∧(0≤p.time∧p.time≤1000000000)∧(0≤p.span∧p.span≤1000000000)
 | [],last,s,n,h,p,hp=>by simp at hp
 | q::ps,last,s,n,h,p,hp=>by
  simp only [pkAll] at h
  split at h
  ·rename_i hok
   simp only [pkOk,ticksOk,Bool.and_eq_true,decide_eq_true_eq] at hok
   rcases List.mem_cons.1 hp with rfl | hp
   ·exact ⟨hok.1.1.1.1,hok.1.1.1.2,hok.1.1.2⟩
   ·exact pkAll_range nt ps _ _ _ h p hp
  ·simp at h
theorem RightF.pk {b:S_Box} (h:RightF b) {i:Nat} (hi:i < b.packets.length):(0≤(pkAt b i).track∧(pkAt b i).track < b.tracks.length)∧(0≤(pkAt b i).time∧(pkAt b i).time≤1000000000)∧(0≤(pkAt b i).span∧(pkAt b i).span≤1000000000):=by
 obtain ⟨n,h1,_⟩ :=h.sum
 refine pkAll_range _ _ _ _ _ h1 _ ?_
 unfold pkAt
 rw [List.getD_eq_getElem?_getD,List.getElem?_eq_getElem hi]
 simp
theorem RightF.sc {b:S_Box} (h:RightF b) {t:Int} (h0:0≤t) (h1:t < b.tracks.length):1≤scAt b t∧scAt b t≤1000000:=by
 unfold scAt
 have hl:t.toNat < b.tracks.length:=by omega
 have:=h.tr b.tracks[t.toNat] (by simp)
 rw [List.getD_eq_getElem?_getD,List.getElem?_eq_getElem hl]
 simp only [trackOk,Bool.and_eq_true,decide_eq_true_eq] at this
 exact ⟨this.1.2.2.1,this.1.2.2.2.1⟩
theorem rd_pk {b:S_Box} {i:Nat} (hi:i < b.packets.length):rd b.packets (i:Int)=some (pkAt b i):=rd_d default hi
theorem rd_tr {b:S_Box} {t:Int} (h0:0≤t) (h1:t < b.tracks.length):∃ x,rd b.tracks t=some x∧x.scale=scAt b t∧x=b.tracks.getD t.toNat default:=by
 obtain ⟨k,rfl⟩:∃ k:Nat,t=k:=⟨t.toNat,by omega⟩
 refine ⟨b.tracks.getD k default,rd_d default (by omega),?_,?_⟩
 ·simp [scAt]
 ·simp
theorem mul_bound {x y:Int} (h1:0≤x) (h2:x≤1000000000) (h3:0≤y) (h4:y≤1000000):0≤x*y∧x*y≤1000000000000000:=by
 refine ⟨Int.mul_nonneg h1 h3,?_⟩
 have:x*y≤1000000000*1000000:=Int.mul_le_mul h2 h4 h3 (by omega)
 omega
theorem earl_eq {b:S_Box} (h:RightF b) {i j:Nat} (hi:i < b.packets.length) (hj:j < b.packets.length) {f:S_Box→Int→Int→Option Bool}
  (hf:∀ p0 p1 p2,f p0 p1 p2=(rd p0.packets p1).bind fun x0_0=>(rd p0.packets p2).bind fun x0_1=>(rd p0.tracks x0_1.track).bind fun x0_2=>(rd p0.tracks x0_0.track).bind fun x0_3=>
   if ((w64 (x0_0.time*x0_2.scale)) != (w64 (x0_1.time*x0_3.scale))) then some (decide ((w64 (x0_0.time*x0_2.scale)) < (w64 (x0_1.time*x0_3.scale))))
   else if (x0_0.track != x0_1.track) then some (decide (x0_0.track < x0_1.track)) else some (decide (p1 < p2))):f b i j=some (earl b i j):=by
 obtain ⟨a1,a2,_⟩ :=h.pk hi
 obtain ⟨b1,b2,_⟩ :=h.pk hj
 obtain ⟨x2,r2,e2,_⟩ :=rd_tr b1.1 b1.2
 obtain ⟨x3,r3,e3,_⟩ :=rd_tr a1.1 a1.2
 have s2:=h.sc b1.1 b1.2
 have s3:=h.sc a1.1 a1.2
 rw [hf,rd_pk hi]
 simp only [Option.bind_some]
 rw [rd_pk hj]
 simp only [Option.bind_some]
 rw [r2]
 simp only [Option.bind_some]
 rw [r3]
 simp only [Option.bind_some]
 rw [e2,e3]
 have m1:=mul_bound a2.1 a2.2 (y:=scAt b (pkAt b j).track) (by omega) s2.2
 have m2:=mul_bound b2.1 b2.2 (y:=scAt b (pkAt b i).track) (by omega) s3.2
 rw [w64_id (by omega) (by omega),w64_id (by omega) (by omega)]
 exact ord_bne _ _ _ _ i j
theorem spec_good (b:S_Box) (hb:SmB b):m_Sa b=some (goodOk b):=by
 simp only [m_Sa,m_Sa_0]
 rw [spec_right b hb]
 simp only [Option.bind_some]
 unfold goodOk
 cases hr:rightOk b with
 | false=>rfl
 | true=>
  have h:=right_facts hr
  have hnp:=h.np
  simp only [if_true,Bool.true_and]
  have:=loop_all (b:=lp_Sa_15 b) b.packets.length (fun i=>earl b (i - 1) i) 1 (fun i h1 h2=>by
   simp only [lp_Sa_15,m_Sa_15]
   rw [if_pos (by simp;omega),show w64 ((i:Int) - 1)=((i - 1:Nat):Int) by rw [w64_id (by omega) (by omega)];omega,
    earl_eq h (f:=m_Sd) (i:=i - 1) (j:=i) (by omega) h2 (fun _ _ _=>rfl)]
   simp only [Option.bind_some]
   rw [w64_succ (by omega)]
   cases earl b (i - 1) i <;> rfl) (fun i h1 h2=>by
   simp only [lp_Sa_15,m_Sa_15]
   rw [if_neg (by simp;omega)])
  rw [show ((1:Nat):Int)=1 from rfl] at this
  rw [this]
  cases (List.range' 1 (b.packets.length - 1)).all fun i=>earl b (i - 1) i <;> rfl
theorem impl_good (b:S_Box) (hb:SmB b):m_Ia b=some (goodOk b):=by
 simp only [m_Ia,m_Ia_0]
 rw [impl_right b hb]
 simp only [Option.bind_some]
 unfold goodOk
 cases hr:rightOk b with
 | false=>rfl
 | true=>
  have h:=right_facts hr
  have hnp:=h.np
  simp only [if_true,Bool.true_and]
  have:=loop_all (b:=lp_Ia_15 b) b.packets.length (fun i=>earl b (i - 1) i) 1 (fun i h1 h2=>by
   simp only [lp_Ia_15,m_Ia_15]
   rw [if_pos (by simp;omega),show w64 ((i:Int) - 1)=((i - 1:Nat):Int) by rw [w64_id (by omega) (by omega)];omega,
    earl_eq h (f:=m_If) (i:=i) (j:=i - 1) h2 (by omega) (fun _ _ _=>rfl)]
   simp only [Option.bind_some]
   rw [w64_succ (by omega),earl_anti b (i:=i - 1) (j:=i) (by omega)]
   cases earl b (i - 1) i <;> rfl) (fun i h1 h2=>by
   simp only [lp_Ia_15,m_Ia_15]
   rw [if_neg (by simp;omega)])
  rw [show ((1:Nat):Int)=1 from rfl] at this
  rw [this]
  cases (List.range' 1 (b.packets.length - 1)).all fun i=>earl b (i - 1) i <;> rfl
end Go.Proofs.V

namespace Go.Proofs.V
open Go
theorem w64_def (x:Int):w64 x=(x+9223372036854775808) % 18446744073709551616 - 9223372036854775808:=by
 unfold w64;rw [IntKind.wrap_i64]
theorem w64_a (x y:Int):w64 (w64 x+y)=w64 (x+y):=by simp only [w64_def];omega
theorem w64_b (x y:Int):w64 (x+w64 y)=w64 (x+y):=by simp only [w64_def];omega
theorem w64_w (x:Int):w64 (w64 x)=w64 x:=by simp only [w64_def];omega
structure PS where
 wall:Int
 clock:Int
 busy:Int
 gone:List Bool
 drop:List Bool
 shows:List S_Show
def dueF (b:S_Box) (i:Nat):Int:=(pkAt b i).time*1000000 / scAt b (pkAt b i).track
def dues (b:S_Box):List Int:=(List.range b.packets.length).map (dueF b)
def trF (b:S_Box) (i:Nat):Nat:=(pkAt b i).track.toNat
def kindF (b:S_Box) (i:Nat):Int:=(b.tracks.getD (trF b i) default).kind
def doneF (b:S_Box) (sp:Int) (s:PS) (i:Nat):Int:=w64 (mxI s.wall s.busy+Int.tdiv ((pkAt b i).data.length:Int) sp+1)
def drop1 (b:S_Box) (s:PS) (i:Nat):List Bool:=if (pkAt b i).key then s.drop.set (trF b i) false else s.drop
def lateF (b:S_Box) (sp:Int) (s:PS) (i:Nat):Bool:=(decide (kindF b i=3)||decide (kindF b i=4)) && !(pkAt b i).key&&decide (doneF b sp s i > w64 (s.wall+100))
def drop2 (b:S_Box) (sp:Int) (s:PS) (i:Nat):List Bool:=if lateF b sp s i then (drop1 b s i).set (trF b i) true else drop1 b s i
def thr (b:S_Box) (sp:Int) (s:PS) (i:Nat):PS:=
 { s with busy:=if (drop2 b sp s i).getD (trF b i) false then s.busy else doneF b sp s i,drop:=drop2 b sp s i,shows:=s.shows++[⟨s.wall,w64 (Int.tdiv s.clock 1000),i,(drop2 b sp s i).getD (trF b i) false⟩] }
def setG (s:PS) (i:Nat):PS:={ s with gone:=s.gone.set i true }
def stp (b:S_Box) (sp:Int) (s:PS) (i:Nat):PS:=if s.gone.getD i false then s else if dueF b i≤s.clock then thr b sp (setG s i) i else s
def spP (b:S_Box) (sp:Int) (s:PS) (pace:Int) (pl:Bool) (soon:Int):S_l17P:=⟨b,dues b,sp,s.wall,s.clock,pace,pl,s.busy,s.gone,0,soon,s.drop,s.shows⟩
def imP (b:S_Box) (sp:Int) (s:PS) (next:Int):S_zplayer:=⟨b,sp,dues b,s.gone,next,s.drop,s.wall,s.clock,s.busy,s.shows⟩
structure InvP (b:S_Box) (C:Nat) (s:PS):Prop where
 g:s.gone.length=b.packets.length
 d:s.drop.length=b.tracks.length
 n:s.shows.length+s.gone.count false≤C
 c:C≤1000000
 w:w64 s.wall=s.wall
section
variable {b:S_Box} (hr:RightF b) {sp:Int} (hsp:1≤sp)
include hr
theorem due_nn {i:Nat} (hi:i < b.packets.length):0≤dueF b i∧dueF b i≤1000000000000000:=by
 obtain ⟨h1,h2,_⟩ :=hr.pk hi
 have hs:=hr.sc h1.1 h1.2
 unfold dueF
 refine ⟨Int.ediv_nonneg (by omega) (by omega),?_⟩
 have:=Int.ediv_le_self (a:=(pkAt b i).time*1000000) (scAt b (pkAt b i).track) (by omega)
 omega
theorem spec_due {i:Nat} (hi:i < b.packets.length):m_Sj b i=some (dueF b i):=by
 obtain ⟨h1,h2,_⟩ :=hr.pk hi
 have hs:=hr.sc h1.1 h1.2
 obtain ⟨x,r,e,_⟩ :=rd_tr h1.1 h1.2
 simp only [m_Sj,m_Sj_0]
 rw [rd_pk hi]
 simp only [Option.bind_some]
 rw [r]
 simp only [Option.bind_some]
 rw [e,ck_eq (by omega)]
 simp only [Option.bind_some]
 have h3:=due_nn hr hi
 rw [w64_id (x:=(pkAt b i).time*1000000) (by omega) (by omega),Int.tdiv_eq_ediv_of_nonneg (by omega)]
 unfold dueF at h3 ⊢
 rw [w64_id (by omega) (by omega)]
theorem impl_due {i:Nat} (hi:i < b.packets.length):m_Ie b i=some (dueF b i):=spec_due hr hi
theorem dues_len:(dues b).length=b.packets.length:=by simp [dues]
theorem rd_due {i:Nat} (hi:i < b.packets.length):rd (dues b) (i:Int)=some (dueF b i):=by
 rw [rd_eq (by simpa [dues] using hi)]
 simp [dues]
include hsp
theorem spec_from (p:S_l17P):m_Sl p=some (mxI p.wall p.busy,p):=by
 simp only [m_Sl,m_Sl_0,mxI]
 by_cases h:p.busy > p.wall
 ·rw [if_pos (by simpa using h),if_pos h]
 ·rw [if_neg (by simpa using h),if_neg h]
theorem spec_cost (p:S_l17P) (hb:p.b=b) (hs:p.speed=sp) {i:Nat} (hi:i < b.packets.length) :
  m_Sk p i=some (w64 (w64 (Int.tdiv ((pkAt b i).data.length:Int) sp)+1),p):=by
 simp only [m_Sk,m_Sk_0]
 rw [hb,hs,rd_pk hi]
 simp only [Option.bind_some]
 rw [ck_eq (by omega)]
 simp only [Option.bind_some]
theorem impl_done (p:S_zplayer) (hb:p.b=b) (hs:p.speed=sp) {i:Nat} (hi:i < b.packets.length) :
  m_Ig p i=some (w64 (mxI p.wall p.busy+Int.tdiv ((pkAt b i).data.length:Int) sp+1),p):=by
 simp only [m_Ig,m_Ig_0]
 rw [hb,hs,rd_pk hi]
 simp only [Option.bind_some]
 rw [ck_eq (by omega)]
 simp only [Option.bind_some]
 rw [w64_b,w64_a]
theorem done_sp (m q:Int):w64 (m+w64 (w64 q+1))=w64 (m+q+1):=by
 rw [w64_a,w64_b,←Int.add_assoc]
theorem rd_nat {α:Type} (z:α) {l:List α} {t:Int} (h0:0≤t) (h1:t.toNat < l.length):rd l t=some (l.getD t.toNat z):=by
 obtain ⟨k,rfl⟩:∃ k:Nat,t=k:=⟨t.toNat,by omega⟩
 rw [rd_d z (by simpa using h1)];simp
theorem d1_len (s:PS) (i:Nat):(drop1 b s i).length=s.drop.length:=by unfold drop1;split <;> simp
theorem d2_len (s:PS) (i:Nat):(drop2 b sp s i).length=s.drop.length:=by
 unfold drop2;split
 ·rw [List.length_set,d1_len hr hsp]
 ·rw [d1_len hr hsp]
theorem spec_thr {C:Nat} (s:PS) (hI:InvP b C s) (pace:Int) (pl:Bool) (soon:Int) {i:Nat} (hi:i < b.packets.length) :
  m_So (spP b sp s pace pl soon) i=some (spP b sp (thr b sp s i) pace pl soon):=by
 obtain ⟨h1,h2,_⟩ :=hr.pk hi
 obtain ⟨x,r,e,ex⟩ :=rd_tr h1.1 h1.2
 have hg:=hI.g
 have hd:=hI.d
 have hn:=hI.n
 have hc:=hI.c
 simp only [m_So,m_So_0,spP]
 rw [rd_pk hi]
 simp only [Option.bind_some]
 rw [r]
 simp only [Option.bind_some]
 have hk:x.kind=kindF b i:=by rw [ex];rfl
 have e24:∀ (busy:Int) (l:List Bool),l=drop2 b sp s i→busy=(if (drop2 b sp s i).getD (trF b i) false then s.busy else doneF b sp s i)→∀ c:Int,
   m_So_24 i (c,(⟨b,dues b,sp,s.wall,s.clock,pace,pl,s.busy,s.gone,0,soon,drop1 b s i,s.shows⟩:S_l17P)) (pkAt b i) l busy=some (spP b sp (thr b sp s i) pace pl soon):=by
  intro busy l hl hbusy c
  subst hl hbusy
  simp only [m_So_24]
  rw [rd_nat hr hsp false h1.1 (by rw [d2_len hr hsp];omega)]
  simp only [Option.bind_some]
  rw [ck_eq (by simp;omega)]
  rfl
 have e18:∀ (l:List Bool),l=drop2 b sp s i→∀ c:Int,
   m_So_18 i (doneF b sp s i) (c,(⟨b,dues b,sp,s.wall,s.clock,pace,pl,s.busy,s.gone,0,soon,drop1 b s i,s.shows⟩:S_l17P)) (pkAt b i) l=some (spP b sp (thr b sp s i) pace pl soon):=by
  intro l hl c
  subst hl
  simp only [m_So_18]
  rw [rd_nat hr hsp false h1.1 (by rw [d2_len hr hsp];omega)]
  simp only [Option.bind_some]
  have hh:(pkAt b i).track.toNat=trF b i:=rfl
  rw [hh]
  cases hq:(drop2 b sp s i).getD (trF b i) false with
  | true=>exact e24 _ _ rfl (by rw [hq];rfl) c
  | false=>exact e24 _ _ rfl (by rw [hq];rfl) c
 have e15:∀ (l:Bool),l=lateF b sp s i→∀ c:Int,
   m_So_15 i (c,(⟨b,dues b,sp,s.wall,s.clock,pace,pl,s.busy,s.gone,0,soon,drop1 b s i,s.shows⟩:S_l17P)) (pkAt b i) (doneF b sp s i) l=some (spP b sp (thr b sp s i) pace pl soon):=by
  intro l hl c
  subst hl
  simp only [m_So_15]
  have hh:(pkAt b i).track.toNat=trF b i:=rfl
  cases hq:lateF b sp s i with
  | true=>
   rw [if_pos rfl,rd_nat hr hsp false h1.1 (by rw [d1_len hr hsp];omega)]
   simp only [Option.bind_some]
   exact e18 _ (by unfold drop2;rw [hq,Nat.zero_add,hh];rfl) c
  | false=>
   rw [if_neg (by simp)]
   exact e18 _ (by unfold drop2;rw [hq];rfl) c
 have e10:m_So_10 i x (⟨b,dues b,sp,s.wall,s.clock,pace,pl,s.busy,s.gone,0,soon,s.drop,s.shows⟩:S_l17P) (pkAt b i) (drop1 b s i)=some (spP b sp (thr b sp s i) pace pl soon):=by
  simp only [m_So_10]
  rw [spec_from hr hsp]
  simp only [Option.bind_some]
  rw [spec_cost hr hsp _ rfl rfl hi]
  simp only [Option.bind_some]
  rw [done_sp hr hsp,hk]
  have hdn:w64 (mxI s.wall s.busy+Int.tdiv ((pkAt b i).data.length:Int) sp+1)=doneF b sp s i:=rfl
  rw [hdn]
  by_cases k3:kindF b i=3
  ·rw [if_pos (by simpa using k3)]
   cases hkey:(pkAt b i).key with
   | true=>rw [if_pos rfl];exact e15 _ (by simp [lateF,hkey]) _
   | false=>rw [if_neg (by simp)];exact e15 _ (by simp [lateF,hkey,k3]) _
  ·rw [if_neg (by simpa using k3)]
   by_cases k4:kindF b i=4
   ·rw [if_pos (by simpa using k4)]
    cases hkey:(pkAt b i).key with
    | true=>rw [if_pos rfl];exact e15 _ (by simp [lateF,hkey]) _
    | false=>rw [if_neg (by simp)];exact e15 _ (by simp [lateF,hkey,k4]) _
   ·rw [if_neg (by simpa using k4)]
    exact e15 _ (by simp [lateF,k3,k4]) _
 have hh:(pkAt b i).track.toNat=trF b i:=rfl
 cases hkey:(pkAt b i).key with
 | true=>
  rw [if_pos rfl,rd_nat hr hsp false h1.1 (by omega)]
  simp only [Option.bind_some]
  have:s.drop.set (0+Int.toNat (pkAt b i).track) false=drop1 b s i:=by unfold drop1;rw [hkey,Nat.zero_add];rfl
  rw [this]
  exact e10
 | false=>
  rw [if_neg (by simp)]
  have:s.drop=drop1 b s i:=by unfold drop1;rw [hkey];rfl
  have e10':=e10
  rw [←this] at e10'
  exact e10'
theorem count_set {l:List Bool} {i:Nat} (hi:i < l.length) (h:l.getD i false=false):(l.set i true).count false+1=l.count false:=by
 induction l generalizing i with
 | nil=>simp at hi
 | cons a l ih=>
  cases i with
  | zero=>
   simp only [List.getD_cons_zero] at h
   subst h
   simp
  | succ i=>
   simp only [List.getD_cons_succ] at h
   have:=ih (by simpa using hi) h
   simp only [List.set_cons_succ,List.count_cons]
   omega
theorem inv_setG {C:Nat} {s:PS} (hI:InvP b C s) {i:Nat} (hi:i < b.packets.length) (h:s.gone.getD i false=false):InvP b C (setG s i)∧(setG s i).shows.length+(setG s i).gone.count false+1≤C:=by
 have h1:=count_set hr hsp (by rw [hI.g];exact hi) h
 have h2:=hI.n
 have h3:(setG s i).shows.length=s.shows.length:=rfl
 have h4:(setG s i).gone.count false=(s.gone.set i true).count false:=rfl
 exact ⟨⟨by have:=hI.g;simpa [setG] using this,hI.d,by omega,hI.c,hI.w⟩,by omega⟩
theorem inv_thr {C:Nat} {s:PS} (hI:InvP b C s) (i:Nat) (hn:s.shows.length+s.gone.count false+1≤C):InvP b C (thr b sp s i):=by
 refine ⟨hI.g,?_,?_,hI.c,hI.w⟩
 ·show (drop2 b sp s i).length=_
  rw [d2_len hr hsp];exact hI.d
 ·show (s.shows++[_]).length+s.gone.count false≤C
  simp only [List.length_append,List.length_singleton]
  omega
theorem inv_stp {C:Nat} {s:PS} (hI:InvP b C s) {i:Nat} (hi:i < b.packets.length):InvP b C (stp b sp s i):=by
 unfold stp
 cases h:s.gone.getD i false with
 | true=>exact hI
 | false=>
  simp only [Bool.false_eq_true,if_false]
  split
  ·obtain ⟨h1,h2⟩ :=inv_setG hr hsp hI hi h
   exact inv_thr hr hsp h1 i h2
  ·exact hI
def soonG (b:S_Box) (gone:List Bool) (soon:Int) (i:Nat):Int:=if !gone.getD i false&&(decide (soon < 0)||decide (dueF b i < soon)) then dueF b i else soon
def SoonOk (b:S_Box) (gone:List Bool) (k:Nat) (soon:Int):Prop:=∀ i,i < k→gone.getD i false=false→0≤soon∧soon≤dueF b i
theorem soon_step {gone:List Bool} {soon:Int} {i:Nat} (hi:i < b.packets.length) (h:SoonOk b gone i soon):SoonOk b gone (i+1) (soonG b gone soon i):=by
 have hd:=due_nn hr hi
 intro j hj hg
 unfold soonG
 by_cases he:j=i
 ·subst he
  rw [hg]
  simp only [Bool.not_false,Bool.true_and,Bool.or_eq_true,decide_eq_true_eq]
  split
  ·omega
  ·omega
 ·have:=h j (by omega) hg
  split
  ·rename_i hh
   simp only [Bool.and_eq_true,Bool.or_eq_true,decide_eq_true_eq] at hh
   omega
  ·exact this
theorem spec_look (s:PS) (hg:s.gone.length=b.packets.length) (pace:Int) (pl:Bool) (soon:Int) :
  ∃ soon',m_Sm (spP b sp s pace pl soon)=some (spP b sp s pace pl soon')∧SoonOk b s.gone b.packets.length soon':=by
 have hnp:=hr.np
 have:=fold_range (n:=b.packets.length) (σ:=Int) (fun soon i=>((i:Int),soon)) (g:=soonG b s.gone) (I:=fun i soon=>SoonOk b s.gone i soon) (b:=lp_Sm_6 (spP b sp s pace pl soon))
  (e1:=fun soon=>spP b sp s pace pl soon) (fun i so hi hI=>⟨?_,soon_step hr hsp hi hI⟩) (fun so hI=>?_) (-1) (fun i hi=>absurd hi (by omega))
 ·refine ⟨_,?_,this.2⟩
  have h1:=this.1
  rw [show ((0:Nat):Int)=0 from rfl] at h1
  simp only [m_Sm,m_Sm_0]
  rw [h1]
  rfl
 ·dsimp only [lp_Sm_6,m_Sm_6,spP]
  rw [if_pos (by rw [dues_len hr];simpa using hi),rd_d false (by omega)]
  simp only [Option.bind_some]
  unfold soonG
  cases hq:s.gone.getD i false with
  | true=>
   dsimp only [m_Sm_18]
   simp only [if_true,Bool.false_eq_true,if_false,Bool.not_true,Bool.false_and]
   rw [w64_succ (by omega)]
  | false=>
   simp only [Bool.false_eq_true,if_false,Bool.not_false,Bool.true_and]
   by_cases h1:so < 0
   ·rw [if_pos (by simpa using h1),if_pos (by simp [h1])]
    simp only [m_Sm_18,if_true]
    rw [rd_due hr hi]
    simp only [Option.bind_some]
    rw [w64_succ (by omega)]
   ·rw [if_neg (by simpa using h1),rd_due hr hi]
    simp only [Option.bind_some,m_Sm_18]
    by_cases h2:dueF b i < so
    ·rw [if_pos (by simpa using h2),if_pos (by simp [h2])]
     rw [rd_due hr hi]
     simp only [Option.bind_some]
     rw [w64_succ (by omega)]
    ·rw [if_neg (by simpa using h2),if_neg (by simp [h1,h2])]
     rw [w64_succ (by omega)]
 ·dsimp only [lp_Sm_6,m_Sm_6,spP]
  rw [if_neg (by rw [dues_len hr];simp)]
def tickF (b:S_Box) (sp:Int) (s:PS):PS:=(List.range b.packets.length).foldl (stp b sp) s
theorem spec_tickL {C:Nat} (s:PS) (hI:InvP b C s) (p0:S_l17P) (hp:p0.due=dues b) (pace:Int) (pl:Bool) (soon:Int) :
  loopM (lp_Sp_21 p0) (0,b.tracks,b.packets,sp,s.wall,s.clock,pace,pl,s.busy,0,soon,dues b,s.gone,s.drop,s.shows)
   = some (b.tracks,b.packets,sp,(tickF b sp s).wall,(tickF b sp s).clock,pace,pl,(tickF b sp s).busy,0,soon,dues b,(tickF b sp s).gone,(tickF b sp s).drop,(tickF b sp s).shows)∧InvP b C (tickF b sp s):=by
 have hnp:=hr.np
 refine fold_range (n:=b.packets.length) (σ:=PS) (fun s i=>((i:Int),b.tracks,b.packets,sp,s.wall,s.clock,pace,pl,s.busy,0,soon,dues b,s.gone,s.drop,s.shows)) (g:=stp b sp) (I:=fun i s=>InvP b C s) (b:=lp_Sp_21 p0)
  (e1:=fun s=>(b.tracks,b.packets,sp,s.wall,s.clock,pace,pl,s.busy,0,soon,dues b,s.gone,s.drop,s.shows)) (fun i s hi hI=>⟨?_,inv_stp hr hsp hI hi⟩) (fun s hI=>?_) s hI
 ·have hg:=hI.g
  dsimp only [lp_Sp_21,m_Sp_21]
  rw [if_pos (by rw [hp,dues_len hr];simpa using hi),rd_d false (by omega)]
  simp only [Option.bind_some]
  unfold stp
  cases hq:s.gone.getD i false with
  | true=>
   simp only [if_true,m_Sp_33,Bool.false_eq_true,if_false]
   rw [w64_succ (by omega)]
  | false=>
   simp only [Bool.false_eq_true,if_false]
   rw [rd_due hr hi]
   simp only [Option.bind_some,m_Sp_33]
   by_cases h1:dueF b i≤s.clock
   ·rw [if_pos (by simpa using h1),if_pos h1,rd_d false (by omega)]
    simp only [Option.bind_some]
    have:=spec_thr hr hsp (setG s i) (inv_setG hr hsp hI hi hq).1 pace pl soon hi
    simp only [spP,setG] at this
    simp only [Nat.zero_add,Int.toNat_natCast]
    rw [this]
    simp only [Option.bind_some]
    rw [w64_succ (by omega)]
    rfl
   ·rw [if_neg (by simpa using h1),if_neg h1]
    rw [w64_succ (by omega)]
 ·dsimp only [lp_Sp_21,m_Sp_21]
  rw [if_neg (by rw [hp,dues_len hr];simp)]
theorem stp_id {s:PS} {i:Nat} (h:s.gone.getD i false=true∨s.clock < dueF b i):stp b sp s i=s:=by
 unfold stp
 rcases h with h | h
 ·rw [h];rfl
 ·rw [if_neg (show ¬ dueF b i≤s.clock by omega)];simp
theorem fold_id {s:PS} {l:List Nat} (h:∀ i ∈ l,s.gone.getD i false=true∨s.clock < dueF b i):l.foldl (stp b sp) s=s:=by
 induction l with
 | nil=>rfl
 | cons a l ih=>
  rw [List.foldl_cons,stp_id hr hsp (h a (by simp))]
  exact ih (fun i hi=>h i (by simp [hi]))
def onF (s:PS) (pace:Int):PS:={ s with wall:=w64 (s.wall+1),clock:=w64 (s.clock+w64 (10*pace)) }
def tkF (b:S_Box) (sp pace:Int) (s:PS):PS:=tickF b sp (onF s pace)
theorem inv_on {C:Nat} {s:PS} (hI:InvP b C s) (pace:Int):InvP b C (onF s pace):=⟨hI.g,hI.d,hI.n,hI.c,w64_w _⟩
theorem inv_tick {C:Nat} {s:PS} (hI:InvP b C s):InvP b C (tickF b sp s):=(spec_tickL hr hsp s hI (spP b sp s 0 false 0) rfl 0 false 0).2
theorem spec_tick {C:Nat} (s:PS) (hI:InvP b C s) (pace:Int) (soon:Int) (hs:SoonOk b s.gone b.packets.length soon) :
  ∃ soon',m_Sp (spP b sp s pace true soon)=some (spP b sp (tkF b sp pace s) pace true soon')∧SoonOk b (tkF b sp pace s).gone b.packets.length soon':=by
 dsimp only [m_Sp,m_Sp_0,spP]
 rw [if_pos rfl]
 by_cases h1:soon < 0∨soon > (onF s pace).clock
 ·have he:tkF b sp pace s=onF s pace:=by
   unfold tkF tickF
   refine fold_id hr hsp (fun i hi=>?_)
   cases hq:(onF s pace).gone.getD i false with
   | true=>exact .inl rfl
   | false=>
    have:=hs i (by simpa using hi) hq
    exact .inr (by omega)
  refine ⟨soon,?_,?_⟩
  ·rw [he]
   by_cases h2:soon < 0
   ·rw [if_pos (by simpa using h2)];rfl
   ·rw [if_neg (by simpa using h2)]
    have h3:soon > w64 (s.clock+w64 (10*pace)):=h1.elim (fun h=>absurd h h2) (fun h=>h)
    rw [if_pos (by simpa using h3)];rfl
  ·rw [he];exact hs
 ·have h2 : ¬ soon < 0:=fun h=>h1 (.inl h)
  have h3 : ¬ soon > w64 (s.clock+w64 (10*pace)):=fun h=>h1 (.inr h)
  rw [if_neg (by simpa using h2),if_neg (by simpa using h3)]
  have:=(spec_tickL hr hsp (onF s pace) (inv_on hr hsp hI pace) (spP b sp s pace true soon) rfl pace true soon).1
  simp only [onF,spP] at this
  rw [this]
  simp only [Option.bind_some,m_Sp_39]
  obtain ⟨so,h4,h5⟩ :=spec_look hr hsp (tkF b sp pace s) (inv_tick hr hsp (inv_on hr hsp hI pace)).g pace true soon
  refine ⟨so,?_,h5⟩
  simp only [spP,tkF,onF] at h4 ⊢
  rw [h4]
  rfl
end
end Go.Proofs.V

namespace Go.Proofs.V
open Go
theorem ediv_mono {a c s t K:Int} (hs:0 < s) (ht:0 < t) (hK:0≤K) (h:a*t≤c*s):a*K / s≤c*K / t:=by
 rw [Int.le_ediv_iff_mul_le ht]
 have h1:a*K / s*s≤a*K:=Int.ediv_mul_le _ (by omega)
 have h2:a*K / s*t*s≤c*K*s:=by
  have e1:a*K / s*t*s=a*K / s*s*t:=by rw [Int.mul_right_comm]
  have e2:a*K / s*s*t≤a*K*t:=Int.mul_le_mul_of_nonneg_right h1 (by omega)
  have e3:a*K*t=a*t*K:=by rw [Int.mul_right_comm]
  have e4:a*t*K≤c*s*K:=Int.mul_le_mul_of_nonneg_right h hK
  have e5:c*s*K=c*K*s:=by rw [Int.mul_right_comm]
  omega
 exact Int.le_of_mul_le_mul_right h2 hs
section
variable {b:S_Box} (hgood:goodOk b=true)
include hgood
theorem good_right:RightF b:=by
 unfold goodOk at hgood
 simp only [Bool.and_eq_true] at hgood
 exact right_facts hgood.1
theorem earl_ok {i:Nat} (h0:1≤i) (hi:i < b.packets.length):earl b (i - 1) i=true:=by
 unfold goodOk at hgood
 simp only [Bool.and_eq_true,List.all_eq_true] at hgood
 exact hgood.2 i (by simp [List.mem_range'_1];omega)
theorem due_step {i:Nat} (hi:i+1 < b.packets.length):dueF b i≤dueF b (i+1):=by
 have hr:=good_right hgood
 have he:=earl_ok hgood (i:=i+1) (by omega) hi
 obtain ⟨a1,a2,_⟩ :=hr.pk (i:=i) (by omega)
 obtain ⟨b1,b2,_⟩ :=hr.pk (i:=i+1) hi
 have s1:=hr.sc a1.1 a1.2
 have s2:=hr.sc b1.1 b1.2
 unfold dueF
 refine ediv_mono (by omega) (by omega) (by omega) ?_
 unfold earl at he
 simp only [Nat.add_sub_cancel] at he
 split at he
 ·simp only [decide_eq_true_eq] at he;omega
 ·rename_i hh
  have:(pkAt b i).time*scAt b (pkAt b (i+1)).track=(pkAt b (i+1)).time*scAt b (pkAt b i).track:=Decidable.not_not.1 hh
  omega
theorem due_mono {i j:Nat} (hij:i≤j) (hj:j < b.packets.length):dueF b i≤dueF b j:=by
 induction j with
 | zero=>
  have:i=0:=by omega
  subst this;exact Int.le_refl _
 | succ j ih=>
  by_cases h:i=j+1
  ·subst h;exact Int.le_refl _
  ·have:=ih (by omega) (by omega)
   have:=due_step hgood hj
   omega
end
section
variable {b:S_Box} (hgood:goodOk b=true) {sp:Int} (hsp:1≤sp)
include hgood hsp
theorem impl_thr {C:Nat} (s:PS) (hI:InvP b C s) {i:Nat} (hi:i < b.packets.length) (hq:s.gone.getD i false=false) (hdue:dueF b i≤s.clock) :
  m_Ii_2 b.tracks b.packets sp i s.wall s.clock s.busy (dues b) s.gone s.drop s.shows
   = some (.inl (b.tracks,b.packets,sp,((i+1:Nat):Int),s.wall,s.clock,(thr b sp (setG s i) i).busy,dues b,s.gone.set i true,(thr b sp (setG s i) i).drop,(thr b sp (setG s i) i).shows)):=by
 have hr:=good_right hgood
 obtain ⟨h1,h2,_⟩ :=hr.pk hi
 obtain ⟨x,r,e,ex⟩ :=rd_tr h1.1 h1.2
 have hg:=hI.g
 have hd:=hI.d
 have hn:=hI.n
 have hc:=hI.c
 have hnp:=hr.np
 dsimp only [m_Ii_2]
 rw [if_pos (by rw [dues_len hr];simpa using hi),rd_d false (by omega)]
 simp only [Option.bind_some]
 rw [hq,if_neg (by simp),rd_due hr hi]
 simp only [Option.bind_some]
 rw [if_neg (by simp;omega),rd_pk hi]
 simp only [Option.bind_some,Nat.zero_add,Int.toNat_natCast]
 have hk:x.kind=kindF b i:=by rw [ex];rfl
 have hh:(pkAt b i).track.toNat=trF b i:=rfl
 have e47:∀ (busy:Int) (l:List Bool),l=drop2 b sp (setG s i) i→busy=(if (drop2 b sp (setG s i) i).getD (trF b i) false then s.busy else doneF b sp s i)→
   m_Ii_47 i (pkAt b i) b.tracks b.packets sp i s.wall s.clock busy (dues b) (s.gone.set i true) l s.shows=some (.inl (b.tracks,b.packets,sp,((i+1:Nat):Int),s.wall,s.clock,(thr b sp (setG s i) i).busy,dues b,s.gone.set i true,(thr b sp (setG s i) i).drop,(thr b sp (setG s i) i).shows)):=by
  intro busy l hl hbusy
  subst hl hbusy
  dsimp only [m_Ii_47]
  rw [rd_nat hr hsp false h1.1 (by rw [d2_len hr hsp];simp only [setG];omega)]
  simp only [Option.bind_some]
  rw [ck_eq (by simp;omega)]
  simp only [Option.bind_some,m_Ii_49]
  rw [w64_succ (by omega)]
  rfl
 have e41:∀ (l:List Bool),l=drop2 b sp (setG s i) i→∀ c:Int,
   m_Ii_41 i (c,(⟨b,sp,dues b,s.gone.set i true,i,drop1 b s i,s.wall,s.clock,s.busy,s.shows⟩:S_zplayer)) (pkAt b i) l=some (.inl (b.tracks,b.packets,sp,((i+1:Nat):Int),s.wall,s.clock,(thr b sp (setG s i) i).busy,dues b,s.gone.set i true,(thr b sp (setG s i) i).drop,(thr b sp (setG s i) i).shows)):=by
  intro l hl c
  subst hl
  dsimp only [m_Ii_41]
  rw [rd_nat hr hsp false h1.1 (by rw [d2_len hr hsp];simp only [setG];omega)]
  simp only [Option.bind_some]
  rw [hh]
  cases hq:(drop2 b sp (setG s i) i).getD (trF b i) false with
  | true=>exact e47 _ _ rfl (by rw [hq];rfl)
  | false=>
   rw [if_neg (by simp),impl_done hr hsp _ rfl rfl hi]
   exact e47 _ _ rfl (by rw [hq];rfl)
 have e38:∀ (l:Bool),l=lateF b sp s i→∀ c:Int,
   m_Ii_38 i (c,(⟨b,sp,dues b,s.gone.set i true,i,drop1 b s i,s.wall,s.clock,s.busy,s.shows⟩:S_zplayer)) (pkAt b i) l=some (.inl (b.tracks,b.packets,sp,((i+1:Nat):Int),s.wall,s.clock,(thr b sp (setG s i) i).busy,dues b,s.gone.set i true,(thr b sp (setG s i) i).drop,(thr b sp (setG s i) i).shows)):=by
  intro l hl c
  subst hl
  dsimp only [m_Ii_38]
  have hl2:lateF b sp (setG s i) i=lateF b sp s i:=rfl
  have hd2:drop1 b (setG s i) i=drop1 b s i:=rfl
  cases hq:lateF b sp s i with
  | true=>
   rw [if_pos rfl,rd_nat hr hsp false h1.1 (by rw [d1_len hr hsp];omega)]
   simp only [Option.bind_some]
   exact e41 _ (by unfold drop2;rw [hl2,hq,Nat.zero_add,hh];rfl) c
  | false=>
   rw [if_neg (by simp)]
   exact e41 _ (by unfold drop2;rw [hl2,hq];rfl) c
 have e31:m_Ii_31 i b.tracks b.packets sp s.wall s.clock s.busy (pkAt b i) (dues b) s.shows (s.gone.set i true) (drop1 b s i)=some (.inl (b.tracks,b.packets,sp,((i+1:Nat):Int),s.wall,s.clock,(thr b sp (setG s i) i).busy,dues b,s.gone.set i true,(thr b sp (setG s i) i).drop,(thr b sp (setG s i) i).shows)):=by
  dsimp only [m_Ii_31]
  rw [r]
  simp only [Option.bind_some]
  rw [impl_done hr hsp _ rfl rfl hi]
  simp only [Option.bind_some]
  have hdn:w64 (mxI s.wall s.busy+Int.tdiv ((pkAt b i).data.length:Int) sp+1)=doneF b sp s i:=rfl
  rw [hdn,hk]
  by_cases hlate:doneF b sp s i > w64 (s.wall+100)
  ·rw [if_pos (by simpa using hlate)]
   cases hkey:(pkAt b i).key with
   | true=>rw [if_pos rfl];exact e38 _ (by simp [lateF,hkey]) _
   | false=>
    rw [if_neg (by simp)]
    by_cases k3:kindF b i=3
    ·rw [if_pos (by simpa using k3)]
     exact e38 _ (by simp [lateF,hkey,k3];omega) _
    ·rw [if_neg (by simpa using k3)]
     have:lateF b sp s i=(kindF b i == 4):=by
      simp only [lateF,hkey,k3,hlate,decide_false,decide_true,Bool.false_or,Bool.not_false,Bool.and_true]
      by_cases k4:kindF b i=4
      ·simp [k4]
      ·simp [k4]
     exact e38 _ this.symm _
  ·rw [if_neg (by simpa using hlate)]
   exact e38 _ (by simp [lateF,hlate]) _
 cases hkey:(pkAt b i).key with
 | true=>
  rw [if_pos rfl,rd_nat hr hsp false h1.1 (by omega)]
  simp only [Option.bind_some]
  have:s.drop.set (Int.toNat (pkAt b i).track) false=drop1 b s i:=by unfold drop1;rw [hkey];rfl
  rw [this]
  exact e31
 | false=>
  rw [if_neg (by simp)]
  have:s.drop=drop1 b s i:=by unfold drop1;rw [hkey];rfl
  have e31':=e31
  rw [←this] at e31'
  exact e31'
theorem stp_keep (s:PS) (i:Nat):(stp b sp s i).wall=s.wall∧(stp b sp s i).clock=s.clock:=by
 unfold stp;split
 ·exact ⟨rfl,rfl⟩
 ·split <;> exact ⟨rfl,rfl⟩
theorem getD_set (l:List Bool) (i j:Nat) (h:l.getD j false=true):(l.set i true).getD j false=true:=by
 rw [List.getD_eq_getElem?_getD] at h ⊢
 rw [List.getElem?_set]
 by_cases hij:i=j
 ·subst hij
  by_cases hl:i < l.length
  ·simp [hl]
  ·rw [List.getElem?_eq_none (by omega)] at h;simp at h
 ·rw [if_neg hij];exact h
theorem impl_show_loop {C:Nat} : ∀ (d i:Nat) (s:PS),i+d=b.packets.length→InvP b C s→(∀ j,j < i→s.gone.getD j false=true)→
  ∃ nx:Nat,nx≤b.packets.length∧loopM lp_Ii_2 (b.tracks,b.packets,sp,(i:Int),s.wall,s.clock,s.busy,dues b,s.gone,s.drop,s.shows)=some (imP b sp ((List.range' i d).foldl (stp b sp) s) nx)
   ∧∀ j,j < nx→((List.range' i d).foldl (stp b sp) s).gone.getD j false=true:=by
 have hr:=good_right hgood
 have hnp:=hr.np
 intro d
 induction d with
 | zero=>
  intro i s hi hI hgone
  refine ⟨i,by omega,?_,hgone⟩
  rw [loopM_eq]
  dsimp only [lp_Ii_2,m_Ii_2]
  rw [if_neg (by rw [dues_len hr];simp;omega)]
  rfl
 | succ d ih=>
  intro i s hi hI hgone
  have hlt:i < b.packets.length:=by omega
  have hg:=hI.g
  rw [List.range'_succ,List.foldl_cons]
  cases hq:s.gone.getD i false with
  | true=>
   have hst:stp b sp s i=s:=stp_id hr hsp (.inl hq)
   rw [hst,loopM_eq]
   dsimp only [lp_Ii_2,m_Ii_2]
   rw [if_pos (by rw [dues_len hr];simpa using hlt),rd_d false (by omega)]
   simp only [Option.bind_some]
   rw [hq,if_pos rfl]
   dsimp only [m_Ii_49]
   rw [w64_succ (by omega)]
   exact ih (i+1) s (by omega) hI (fun j hj=>by
    by_cases hji:j=i
    ·subst hji;exact hq
    ·exact hgone j (by omega))
  | false=>
   by_cases hdue:dueF b i≤s.clock
   ·have hst:stp b sp s i=thr b sp (setG s i) i:=by unfold stp;rw [hq,if_neg (by simp),if_pos hdue]
    have h1:=impl_thr hgood hsp s hI hlt hq hdue
    rw [loopM_eq]
    dsimp only [lp_Ii_2]
    rw [h1,hst]
    obtain ⟨i1,i2⟩ :=inv_setG hr hsp hI hlt hq
    exact ih (i+1) (thr b sp (setG s i) i) (by omega) (inv_thr hr hsp i1 i i2) (fun j hj=>by
     show (s.gone.set i true).getD j false=true
     by_cases hji:j=i
     ·subst hji
      rw [List.getD_eq_getElem?_getD,List.getElem?_set_self (by omega)];rfl
     ·exact getD_set hgood hsp _ _ _ (hgone j (by omega)))
   ·have hst:stp b sp s i=s:=stp_id hr hsp (.inr (by omega))
    have hall:(List.range' (i+1) d).foldl (stp b sp) s=s:=fold_id hr hsp (fun j hj=>by
     rw [List.mem_range'_1] at hj
     have:=due_mono hgood (i:=i) (j:=j) (by omega) (by omega)
     exact .inr (by omega))
    rw [hst,hall]
    refine ⟨i,by omega,?_,hgone⟩
    rw [loopM_eq]
    dsimp only [lp_Ii_2,m_Ii_2]
    rw [if_pos (by rw [dues_len hr];simpa using hlt),rd_d false (by omega)]
    simp only [Option.bind_some]
    rw [hq,if_neg (by simp),rd_due hr hlt]
    simp only [Option.bind_some]
    rw [if_pos (by simp;omega)]
    rfl
theorem impl_tick {C:Nat} (s:PS) (hI:InvP b C s) (pace:Int) (nx:Nat) (hnx:nx≤b.packets.length) (hgone:∀ j,j < nx→s.gone.getD j false=true) :
  ∃ nx' : Nat,nx'≤b.packets.length∧m_Ii (imP b sp (onF s pace) nx)=some (imP b sp (tkF b sp pace s) nx')∧∀ j,j < nx'→(tkF b sp pace s).gone.getD j false=true:=by
 have hr:=good_right hgood
 have hsplit:tkF b sp pace s=(List.range' nx (b.packets.length - nx)).foldl (stp b sp) (onF s pace):=by
  unfold tkF tickF
  rw [List.range_eq_range',show b.packets.length=nx+(b.packets.length - nx) by omega,←List.range'_append_1,List.foldl_append,fold_id hr hsp (l:=List.range' 0 nx) (fun j hj=>.inl (by
   rw [List.mem_range'_1] at hj;exact hgone j (by omega)))]
  simp
 obtain ⟨n2,h1,h2,h3⟩ :=impl_show_loop hgood hsp (b.packets.length - nx) nx (onF s pace) (by omega) (inv_on hr hsp hI pace) hgone
 refine ⟨n2,h1,?_,?_⟩
 ·dsimp only [m_Ii,m_Ii_0,imP]
  rw [h2,hsplit]
  rfl
 ·rw [hsplit];exact h3
end
end Go.Proofs.V

namespace Go.Proofs.V
open Go
theorem filled {α τ ε:Type} {n:Nat} {v:α} {b:τ→Option (τ⊕ε)} (mk:Nat→List α→τ) (e:List α→ε)
  (step:∀ (i:Nat) (l:List α),i < n→l.length=n→b (mk i l)=some (.inl (mk (i+1) (l.set i v)))) (done:∀ l:List α,l.length=n→b (mk n l)=some (.inr (e l)))
  (l0:List α) (h0:l0.length=n):loopM b (mk 0 l0)=some (e (List.replicate n v)):=by
 obtain ⟨r,h1,h2⟩ :=loopM_inv (b:=b) mk n (fun i (l:List α)=>l.length=n∧∀ j,j < i→l[j]? = some v) (fun r=>r=e (List.replicate n v)) (fun i l hi hI=>.inl ⟨l.set i v,step i l hi hI.1,by simpa using hI.1,fun j hj=>by
   rw [List.getElem?_set]
   by_cases hij:i=j
   ·subst hij;rw [if_pos rfl,if_pos (by omega)]
   ·rw [if_neg hij];exact hI.2 j (by omega)⟩) (fun l hI=>⟨_,done l hI.1,by
   congr 1
   apply List.ext_getElem?
   intro j
   rw [List.getElem?_replicate]
   by_cases hj:j < n
   ·rw [if_pos hj];exact hI.2 j hj
   ·rw [if_neg hj];exact List.getElem?_eq_none (by omega)⟩) (s:=l0) ⟨h0,fun j hj=>absurd hj (by omega)⟩
 rw [h1,h2]
def tickN (b:S_Box) (sp pace:Int):Nat→PS→PS
 | 0,s=>s
 | k+1,s=>tkF b sp pace (tickN b sp pace k s)
abbrev spT (b:S_Box) (sp:Int) (s:PS) (pace:Int) (pl:Bool) (soon:Int):List S_Track×List S_Packet×Int×Int×Int×Int×Bool×Int×Int×Int×List Int×List Bool×List Bool×List S_Show:=
 (b.tracks,b.packets,sp,s.wall,s.clock,pace,pl,s.busy,0,soon,dues b,s.gone,s.drop,s.shows)
abbrev imT (b:S_Box) (sp:Int) (s:PS) (nx:Int):List S_Track×List S_Packet×Int×Int×Int×Int×Int×List Int×List Bool×List Bool×List S_Show:=
 (b.tracks,b.packets,sp,nx,s.wall,s.clock,s.busy,dues b,s.gone,s.drop,s.shows)
def GoneTo (s:PS) (nx:Nat):Prop:=∀ j,j < nx→s.gone.getD j false=true
section
variable {b:S_Box} (hgood:goodOk b=true) {sp:Int} (hsp:1≤sp)
include hgood hsp
theorem spec_wait_on {C:Nat} (p2:List S_Act) (i0:Int) (x:S_Act) (v:Nat) (hx:x.value=v) (hv:v≤100000) (s:PS) (hI:InvP b C s) (pace soon:Int) (hs:SoonOk b s.gone b.packets.length soon) :
  ∃ soon',loopM (lp_Sb_92 p2 i0 x) (0,spT b sp s pace true soon)=some (spT b sp (tickN b sp pace v s) pace true soon')∧InvP b C (tickN b sp pace v s)∧SoonOk b (tickN b sp pace v s).gone b.packets.length soon':=by
 have hr:=good_right hgood
 obtain ⟨e,h1,so,h2,h3,h4⟩ :=loopM_inv (b:=lp_Sb_92 p2 i0 x) (fun i (y:PS×Int)=>((i:Int),spT b sp y.1 pace true y.2)) v
  (fun i y=>y.1=tickN b sp pace i s∧InvP b C y.1∧SoonOk b y.1.gone b.packets.length y.2)
  (fun e=>∃ so,e=spT b sp (tickN b sp pace v s) pace true so∧InvP b C (tickN b sp pace v s)∧SoonOk b (tickN b sp pace v s).gone b.packets.length so)
  (fun i y hi hJ=>.inl (by
   obtain ⟨s',so⟩ :=y
   obtain ⟨j1,j2,j3⟩ :=hJ
   obtain ⟨so',k1,k2⟩ :=spec_tick hr hsp s' j2 pace so j3
   refine ⟨(tkF b sp pace s',so'),?_,?_,inv_tick hr hsp (inv_on hr hsp j2 pace),k2⟩
   ·dsimp only [lp_Sb_92,m_Sb_92,spT]
    rw [if_pos (by rw [hx];simpa using hi)]
    simp only [spP] at k1
    rw [k1]
    simp only [Option.bind_some]
    rw [w64_succ (by omega)]
   ·show tkF b sp pace s' = tkF b sp pace (tickN b sp pace i s)
    rw [←j1]))
  (fun y hJ=>by
   obtain ⟨s',so⟩ :=y
   obtain ⟨j1,j2,j3⟩ :=hJ
   refine ⟨_,?_,so,rfl,by rw [←j1];exact j2,by rw [←j1];exact j3⟩
   dsimp only [lp_Sb_92,m_Sb_92,spT]
   rw [if_neg (by rw [hx];simp)]
   simp only at j1
   rw [j1]) (s:=(s,soon)) ⟨rfl,hI,hs⟩
 exact ⟨so,by rw [←h2];exact h1,h3,h4⟩
theorem spec_wait_off {C:Nat} (p2:List S_Act) (i0:Int) (x:S_Act) (v:Nat) (hx:x.value=v) (hv:v≤100000) (s:PS) (hI:InvP b C s) (pace soon:Int) :
  loopM (lp_Sb_92 p2 i0 x) (0,spT b sp s pace false soon)=some (spT b sp { s with wall:=w64 (s.wall+v) } pace false soon):=by
 have h:=loopM_fun (b:=lp_Sb_92 p2 i0 x) (fun i (w:Int)=>((i:Int),spT b sp { s with wall:=w } pace false soon)) v (fun i=>w64 (s.wall+(i:Nat)))
  (e:=spT b sp { s with wall:=w64 (s.wall+v) } pace false soon) (fun i hi=>by
   dsimp only [lp_Sb_92,m_Sb_92,spT,m_Sp,m_Sp_0]
   rw [if_pos (by rw [hx];simpa using hi),if_neg (by simp)]
   simp only [Option.bind_some]
   rw [w64_succ (by omega),w64_a,show s.wall+(i:Int)+1=s.wall+((i+1:Nat):Int) by omega]) (by
   dsimp only [lp_Sb_92,m_Sb_92,spT]
   rw [if_neg (by rw [hx];simp)])
 have hw:w64 (s.wall+((0:Nat):Int))=s.wall:=by rw [show s.wall+((0:Nat):Int)=s.wall by omega];exact hI.w
 rw [hw] at h
 exact h
theorem impl_wait_on {C:Nat} (p2:List S_Act) (i0:Int) (x:S_Act) (v:Nat) (hx:x.value=v) (hv:v≤100000) (s:PS) (hI:InvP b C s) (pace:Int) (nx:Nat) (hn:nx≤b.packets.length) (hg:GoneTo s nx) :
  ∃ nx' : Nat,nx'≤b.packets.length∧loopM (lp_Ib_105 pace true p2 i0 x) (0,imT b sp s nx)=some (pace,true,imT b sp (tickN b sp pace v s) nx')∧GoneTo (tickN b sp pace v s) nx':=by
 have hr:=good_right hgood
 obtain ⟨e,h1,n2,h2,h3,h4⟩ :=loopM_inv (b:=lp_Ib_105 pace true p2 i0 x) (fun i (y:PS×Nat)=>((i:Int),imT b sp y.1 y.2)) v
  (fun i y=>y.1=tickN b sp pace i s∧InvP b C y.1∧y.2≤b.packets.length∧GoneTo y.1 y.2)
  (fun e=>∃ n2:Nat,e=(pace,true,imT b sp (tickN b sp pace v s) n2)∧n2≤b.packets.length∧GoneTo (tickN b sp pace v s) n2)
  (fun i y hi hJ=>.inl (by
   obtain ⟨s',n1⟩ :=y
   obtain ⟨j1,j2,j3,j4⟩ :=hJ
   obtain ⟨n2,k0,k1,k2⟩ :=impl_tick hgood hsp s' j2 pace n1 j3 j4
   refine ⟨(tkF b sp pace s',n2),?_,?_,inv_tick hr hsp (inv_on hr hsp j2 pace),k0,k2⟩
   ·dsimp only [lp_Ib_105,m_Ib_105,imT]
    rw [if_pos (by rw [hx];simpa using hi)]
    simp only [imP,onF] at k1
    rw [k1]
    simp only [Option.bind_some]
    rw [w64_succ (by omega)]
   ·show tkF b sp pace s' = tkF b sp pace (tickN b sp pace i s)
    rw [←j1]))
  (fun y hJ=>by
   obtain ⟨s',n1⟩ :=y
   obtain ⟨j1,j2,j3,j4⟩ :=hJ
   refine ⟨_,?_,n1,rfl,j3,by rw [←j1];exact j4⟩
   dsimp only [lp_Ib_105,m_Ib_105,imT]
   rw [if_neg (by rw [hx];simp)]
   simp only at j1
   rw [j1]) (s:=(s,nx)) ⟨rfl,hI,hn,hg⟩
 exact ⟨n2,h3,by rw [←h2];exact h1,h4⟩
end
def upd (b:S_Box) (ck v0:Int) (t i:Nat) (v:Int):Int:=if trF b i=t∧((ck < dueF b i∧v=v0)∨(dueF b i≤ck∧(pkAt b i).key=true)) then i else v
def FF (b:S_Box) (ck v0:Int) (t:Nat):Nat→Int
 | 0=>v0
 | i+1=>upd b ck v0 t i (FF b ck v0 t i)
theorem FF_rel (b:S_Box) (ck:Int) (N:Nat) (t:Nat):∀ i,i≤N→(FF b ck N t i=N∧FF b ck (-1) t i = -1)∨(FF b ck N t i=FF b ck (-1) t i∧0≤FF b ck (-1) t i∧FF b ck (-1) t i < N)
 | 0,_=>.inl ⟨rfl,rfl⟩
 | i+1,h=>by
  have ih:=FF_rel b ck N t i (by omega)
  simp only [FF,upd]
  by_cases h1:trF b i=t
  ·by_cases h2:dueF b i≤ck
   ·have h3 : ¬ ck < dueF b i:=by omega
    by_cases h4:(pkAt b i).key=true
    ·rw [if_pos ⟨h1,.inr ⟨h2,h4⟩⟩,if_pos ⟨h1,.inr ⟨h2,h4⟩⟩]
     exact .inr ⟨rfl,by omega,by omega⟩
    ·rw [if_neg (by simp [h1,h2,h3,h4]),if_neg (by simp [h1,h2,h3,h4])]
     exact ih
   ·have h3:ck < dueF b i:=by omega
    rcases ih with ⟨e1,e2⟩ | ⟨e1,e2,e3⟩
    ·rw [if_pos ⟨h1,.inl ⟨h3,e1⟩⟩,if_pos ⟨h1,.inl ⟨h3,e2⟩⟩]
     exact .inr ⟨rfl,by omega,by omega⟩
    ·rw [if_neg (fun hh=>by rcases hh.2 with hh | hh <;> omega),if_neg (fun hh=>by rcases hh.2 with hh | hh <;> omega)]
     exact .inr ⟨e1,e2,e3⟩
  ·rw [if_neg (fun hh=>h1 hh.1),if_neg (fun hh=>h1 hh.1)]
   exact ih
theorem FF_up (b:S_Box) (ck:Int) (t i:Nat):∀ k,0≤FF b ck (-1) t i→0≤FF b ck (-1) t (i+k)
 | 0,h=>h
 | k+1,h=>by
  have ih:=FF_up b ck t i k h
  show 0≤upd b ck (-1) t (i+k) _
  unfold upd
  split
  ·omega
  ·exact ih
theorem FF_key (b:S_Box) (ck:Int) {t j:Nat} (h1:trF b j=t) (h2:(pkAt b j).key=true):0≤FF b ck (-1) t (j+1):=by
 simp only [FF,upd]
 by_cases h3:dueF b j≤ck
 ·rw [if_pos ⟨h1,.inr ⟨h3,h2⟩⟩];omega
 ·rcases FF_rel b ck (j+1) t j (by omega) with ⟨_,e⟩ | ⟨_,e,_⟩
  ·rw [if_pos ⟨h1,.inl ⟨by omega,e⟩⟩];omega
  ·split
   ·omega
   ·exact e
theorem pkAll_key (nt:Nat):∀ (l:List S_Packet) (last:List Int) (s n:Nat),last.length=nt→pkAll nt l last s=some n→∀ (i:Nat) (h:i < l.length),0≤last.getD l[i].track.toNat 0∨∃ (j:Nat) (h' : j < l.length),j≤i∧l[j].track.toNat=l[i].track.toNat∧l[j].key=true
 | [],last,s,n,hl,h,i,hi=>by simp at hi
 | p::ps,last,s,n,hl,h,i,hi=>by
  simp only [pkAll] at h
  split at h
  ·rename_i hok
   simp only [pkOk,ticksOk,Bool.and_eq_true,decide_eq_true_eq,Bool.or_eq_true] at hok
   cases i with
   | zero=>
    rcases hok.2 with h1 | h1
    ·exact .inl h1
    ·exact .inr ⟨0,hi,Nat.le_refl _,rfl,h1⟩
   | succ i=>
    have hi' : i < ps.length:=by simpa using hi
    simp only [List.getElem_cons_succ]
    rcases pkAll_key nt ps (last.set p.track.toNat p.time) _ n (by simpa using hl) h i hi' with h1 | ⟨j,h',h1,h2,h3⟩
    ·by_cases he:p.track.toNat=ps[i].track.toNat
     ·rcases hok.2 with h4 | h4
      ·exact .inl (by rw [←he];exact h4)
      ·exact .inr ⟨0,by simp,by omega,he,h4⟩
     ·left
      rw [List.getD_eq_getElem?_getD,List.getElem?_set,if_neg he,←List.getD_eq_getElem?_getD] at h1
      exact h1
    ·exact .inr ⟨j+1,by simpa using h',by omega,by simpa using h2,by simpa using h3⟩
  ·simp at h
section
variable {b:S_Box} (hr:RightF b)
include hr
theorem key_ahead {i:Nat} (hi:i < b.packets.length):∃ j,j≤i∧trF b j=trF b i∧(pkAt b j).key=true:=by
 obtain ⟨n,h1,_⟩ :=hr.sum
 have hg:∀ k (hk:k < b.packets.length),pkAt b k=b.packets[k]:=fun k hk=>by
  unfold pkAt;rw [List.getD_eq_getElem?_getD,List.getElem?_eq_getElem hk];rfl
 rcases pkAll_key _ _ _ _ _ (by simp) h1 i hi with h | ⟨j,h',h2,h3,h4⟩
 ·rw [List.getD_eq_getElem?_getD,List.getElem?_replicate] at h
  split at h <;> simp at h
  have:=(hr.pk hi).1
  rw [hg i hi] at this
  omega
 ·exact ⟨j,h2,by unfold trF;rw [hg i hi,hg j h'];exact h3,by rw [hg j h'];exact h4⟩
theorem FF_same (ck:Int) {i:Nat} (hi:i < b.packets.length):FF b ck b.packets.length (trF b i) b.packets.length=FF b ck (-1) (trF b i) b.packets.length:=by
 obtain ⟨j,h1,h2,h3⟩ :=key_ahead hr hi
 have h4:=FF_up b ck (trF b i) (j+1) (b.packets.length - (j+1)) (FF_key b ck h2 h3)
 rw [show j+1+(b.packets.length - (j+1))=b.packets.length by omega] at h4
 rcases FF_rel b ck b.packets.length (trF b i) b.packets.length (Nat.le_refl _) with ⟨_,e⟩ | ⟨e,_,_⟩
 ·omega
 ·exact e
end
end Go.Proofs.V

namespace Go.Proofs.V
open Go
def skF (b:S_Box) (sp:Int) (s:PS) (i:Nat):PS:=
 { s with gone:=s.gone.set i (decide ((i:Int) < FF b s.clock (-1) (trF b i) b.packets.length)||decide (dueF b i < s.clock)),busy:=if !decide ((i:Int) < FF b s.clock (-1) (trF b i) b.packets.length)&&decide (dueF b i < s.clock) then doneF b sp s i else s.busy }
def atF (b:S_Box) (s:PS) (ms:Int):PS:={ s with clock:=w64 (ms*1000),drop:=List.replicate b.tracks.length false }
def seekF (b:S_Box) (sp:Int) (s:PS) (ms:Int):PS:=(List.range b.packets.length).foldl (skF b sp) (atF b s ms)
section
variable {b:S_Box} (hr:RightF b) {sp:Int} (hsp:1≤sp)
include hr hsp
theorem tr_lt {i:Nat} (hi:i < b.packets.length):trF b i < b.tracks.length∧(pkAt b i).track=(trF b i:Int):=by
 have:=(hr.pk hi).1
 unfold trF
 omega
structure InvS (b:S_Box) (C:Nat) (s:PS):Prop where
 g:s.gone.length=b.packets.length
 d:s.drop.length=b.tracks.length
 n:s.shows.length≤C
 c:C+b.packets.length≤1000000
 w:w64 s.wall=s.wall
theorem inv_sk {C:Nat} {s:PS} (h:InvS b C s) (i:Nat):InvS b C (skF b sp s i):=⟨by simpa [skF] using h.g,h.d,h.n,h.c,h.w⟩
theorem invS_P {C:Nat} {s:PS} (h:InvS b C s):InvP b (C+b.packets.length) s:=
 ⟨h.g,h.d,by have h1:=h.n;have h2:=h.g;have h3:=List.count_le_length (a:=false) (l:=s.gone);omega,h.c,h.w⟩
theorem inv_at {C:Nat} {s:PS} (h:InvP b C s) (hc:C+b.packets.length≤1000000) (ms:Int):InvS b C (atF b s ms):=⟨h.g,by simp [atF],by have:=h.n;show s.shows.length≤C;omega,hc,h.w⟩
theorem spec_first (p0:S_l17P) (hb:p0.b=b) (hd:p0.due=dues b) (ck:Int) :
  ∃ l:List Int,loopM (lp_Sn_26 p0 ck) (0,List.replicate b.tracks.length (b.packets.length:Int))=some l∧l.length=b.tracks.length∧∀ t,t < b.tracks.length→l.getD t 0=FF b ck b.packets.length t b.packets.length:=by
 have hnp:=hr.np
 refine loopM_inv (b:=lp_Sn_26 p0 ck) (fun i (l:List Int)=>((i:Int),l)) b.packets.length (fun i l=>l.length=b.tracks.length∧∀ t,t < b.tracks.length→l.getD t 0=FF b ck b.packets.length t i)
  (fun l=>l.length=b.tracks.length∧∀ t,t < b.tracks.length→l.getD t 0=FF b ck b.packets.length t b.packets.length) (fun i l hi hI=>.inl ?_) (fun l hI=>⟨l,?_,hI⟩) (s:=List.replicate b.tracks.length (b.packets.length:Int)) ⟨by simp,fun t ht=>by
   rw [List.getD_eq_getElem?_getD,List.getElem?_replicate,if_pos ht];rfl⟩
 ·obtain ⟨htr,etr⟩ :=tr_lt hr hsp hi
  obtain ⟨hl,hv⟩ :=hI
  have hn1:∀ t,t≠trF b i→FF b ck b.packets.length t (i+1)=FF b ck b.packets.length t i:=fun t ht=>by
   simp only [FF,upd];rw [if_neg (fun hh=>ht hh.1.symm)]
  have no:∀ hcond : ¬ ((ck < dueF b i∧FF b ck b.packets.length (trF b i) i=b.packets.length)∨(dueF b i≤ck∧(pkAt b i).key=true)),
    l.length=b.tracks.length∧∀ t,t < b.tracks.length→l.getD t 0=FF b ck b.packets.length t (i+1):=fun hcond=>⟨hl,fun t ht=>by
   by_cases he:t=trF b i
   ·subst he
    rw [hv _ ht];simp only [FF,upd];rw [if_neg (fun hh=>hcond hh.2)]
   ·rw [hn1 t he,hv t ht]⟩
  have yes:∀ hcond:((ck < dueF b i∧FF b ck b.packets.length (trF b i) i=b.packets.length)∨(dueF b i≤ck∧(pkAt b i).key=true)),
    (l.set (trF b i) (i:Int)).length=b.tracks.length∧∀ t,t < b.tracks.length→(l.set (trF b i) (i:Int)).getD t 0=FF b ck b.packets.length t (i+1):=fun hcond=>⟨by simpa using hl,fun t ht=>by
   by_cases he:t=trF b i
   ·subst he
    rw [List.getD_eq_getElem?_getD,List.getElem?_set_self (by omega)];simp only [FF,upd];rw [if_pos ⟨trivial,hcond⟩];rfl
   ·rw [hn1 t he,List.getD_eq_getElem?_getD,List.getElem?_set,if_neg (fun h=>he h.symm),←List.getD_eq_getElem?_getD,hv t ht]⟩
  have eno:m_Sn_38 i p0 ck (pkAt b i) l false=some (.inl (((i+1:Nat):Int),l)):=by
   dsimp only [m_Sn_38]
   rw [if_neg (by simp),w64_succ (by omega)]
  have eyes:m_Sn_38 i p0 ck (pkAt b i) l true=some (.inl (((i+1:Nat):Int),l.set (trF b i) (i:Int))):=by
   dsimp only [m_Sn_38]
   rw [if_pos rfl,etr,rd_d 0 (by omega)]
   simp only [Option.bind_some]
   rw [w64_succ (by omega),Nat.zero_add,Int.toNat_natCast]
  dsimp only [lp_Sn_26,m_Sn_26]
  rw [hb,hd,if_pos (by simpa using hi),rd_pk hi]
  simp only [Option.bind_some]
  rw [rd_due hr hi]
  simp only [Option.bind_some]
  by_cases h1:dueF b i > ck
  ·rw [if_pos (by simpa using h1)]
   have e1:rd l (pkAt b i).track=some (FF b ck b.packets.length (trF b i) i):=by rw [etr,rd_d 0 (by omega),hv _ htr]
   rw [e1]
   simp only [Option.bind_some]
   rw [dues_len hr]
   by_cases h2:FF b ck b.packets.length (trF b i) i=b.packets.length
   ·rw [if_pos (by rw [h2];simp),eyes]
    exact ⟨_,rfl,yes (.inl ⟨h1,h2⟩)⟩
   ·rw [if_neg (by simpa using h2),if_neg (by simp;omega),eno]
    exact ⟨_,rfl,no (fun hh=>hh.elim (fun hh=>by exact h2 hh.2) (fun hh=>by omega))⟩
  ·rw [if_neg (by simpa using h1),if_pos (by simp;omega)]
   cases hk:(pkAt b i).key with
   | true=>rw [eyes];exact ⟨_,rfl,yes (.inr ⟨by omega,hk⟩)⟩
   | false=>rw [eno];exact ⟨_,rfl,no (fun hh=>hh.elim (fun hh=>by omega) (fun hh=>by rw [hk] at hh;exact absurd hh.2 (by simp)))⟩
 ·dsimp only [lp_Sn_26,m_Sn_26]
  rw [hb,if_neg (by simp)]
theorem spec_seek_loop {C:Nat} (p0:S_l17P) (hb:p0.b=b) (fl:List Int) (hl:fl.length=b.tracks.length) (ck:Int) (hv:∀ t,t < b.tracks.length→fl.getD t 0=FF b ck b.packets.length t b.packets.length) (s:PS) (hI:InvS b C s) (hck:s.clock=ck) (pace:Int) (pl:Bool) (soon:Int) :
  loopM (lp_Sn_64 p0 fl) (0,spT b sp s pace pl soon)=some (spT b sp ((List.range b.packets.length).foldl (skF b sp) s) pace pl soon)∧InvS b C ((List.range b.packets.length).foldl (skF b sp) s)∧((List.range b.packets.length).foldl (skF b sp) s).clock=ck:=by
 have hnp:=hr.np
 refine fold_range (n:=b.packets.length) (σ:=PS) (fun s i=>((i:Int),spT b sp s pace pl soon)) (g:=skF b sp) (I:=fun i s=>InvS b C s∧s.clock=ck) (b:=lp_Sn_64 p0 fl)
  (e1:=fun s=>spT b sp s pace pl soon) (fun i s hi hJ=>⟨?_,inv_sk hr hsp hJ.1 i,hJ.2⟩) (fun s hJ=>?_) s ⟨hI,hck⟩
 ·obtain ⟨hJ,hc⟩ :=hJ
  obtain ⟨htr,etr⟩ :=tr_lt hr hsp hi
  have hg:=hJ.g
  have e1:rd fl (pkAt b i).track=some (FF b s.clock (-1) (trF b i) b.packets.length):=by rw [etr,rd_d 0 (by omega),hv _ htr,hc,FF_same hr ck hi]
  dsimp only [lp_Sn_64,m_Sn_64,spT]
  rw [hb,if_pos (by simpa using hi),rd_pk hi]
  simp only [Option.bind_some]
  rw [e1]
  simp only [Option.bind_some]
  unfold skF
  generalize hf:FF b s.clock (-1) (trF b i) b.packets.length=f at e1
  by_cases h1:(i:Int) < f
  ·rw [if_pos (by simpa using h1),rd_d false (by omega)]
   simp only [Option.bind_some,Nat.zero_add,Int.toNat_natCast,h1,decide_true,Bool.true_or,Bool.not_true,Bool.false_and]
   dsimp only [m_Sn_76]
   rw [e1]
   simp only [Option.bind_some]
   rw [if_neg (by simp;omega)]
   dsimp only [m_Sn_78]
   rw [if_neg (by simp),w64_succ (by omega)]
   rfl
  ·rw [if_neg (by simpa using h1),rd_due hr hi]
   simp only [Option.bind_some]
   rw [rd_d false (by omega)]
   simp only [Option.bind_some,Nat.zero_add,Int.toNat_natCast,h1,decide_false,Bool.false_or,Bool.not_false,Bool.true_and]
   dsimp only [m_Sn_76]
   rw [e1]
   simp only [Option.bind_some]
   rw [if_pos (by simp;omega),rd_due hr hi]
   simp only [Option.bind_some]
   dsimp only [m_Sn_78]
   by_cases h2:dueF b i < s.clock
   ·simp only [h2,decide_true,if_true]
    rw [spec_from hr hsp]
    simp only [Option.bind_some]
    rw [spec_cost hr hsp _ rfl rfl hi]
    simp only [Option.bind_some]
    rw [w64_succ (by omega),done_sp hr hsp]
    rfl
   ·simp only [h2,decide_false,Bool.false_eq_true,if_false]
    rw [w64_succ (by omega)]
 ·dsimp only [lp_Sn_64,m_Sn_64]
  rw [hb,if_neg (by simp)]
theorem spec_seek {C:Nat} (s:PS) (hI:InvP b C s) (hC:C+b.packets.length≤1000000) (pace:Int) (pl:Bool) (soon:Int) (ms:Int) :
  ∃ soon',m_Sn (spP b sp s pace pl soon) ms=some (spP b sp (seekF b sp s ms) pace pl soon')∧InvP b (C+b.packets.length) (seekF b sp s ms)∧SoonOk b (seekF b sp s ms).gone b.packets.length soon':=by
 have hnp:=hr.np
 have hnt:=hr.nt
 obtain ⟨l,h1,h2,h3⟩ :=spec_first hr hsp (spP b sp s pace pl soon) rfl rfl (w64 (ms*1000))
 obtain ⟨h4,h5,h6⟩ :=spec_seek_loop hr hsp (spP b sp s pace pl soon) rfl l h2 (w64 (ms*1000)) h3 (atF b s ms) (inv_at hr hsp hI hC ms) rfl pace pl soon
 obtain ⟨so,h7,h8⟩ :=spec_look hr hsp (seekF b sp s ms) h5.g pace pl soon
 refine ⟨so,?_,invS_P hr hsp h5,h8⟩
 dsimp only [m_Sn,m_Sn_0]
 have e0:(spP b sp s pace pl soon).b=b:=rfl
 rw [e0,ck_eq (by omega)]
 simp only [Option.bind_some,Int.toNat_natCast]
 have f1:=filled (n:=b.tracks.length) (v:=(b.packets.length:Int)) (b:=lp_Sn_9 (spP b sp s pace pl soon)) (fun i l=>((b.tracks.length:Int),(i:Int),w64 (ms*1000),l)) (fun l=>(w64 (ms*1000),l)) (fun i l hi hl=>by
  dsimp only [lp_Sn_9,m_Sn_9,spP]
  rw [if_pos (by simpa using hi),rd_d 0 (by omega)]
  simp only [Option.bind_some,Nat.zero_add,Int.toNat_natCast]
  rw [w64_succ (by omega),dues_len hr]) (fun l hl=>by
  dsimp only [lp_Sn_9,m_Sn_9,spP]
  rw [if_neg (by simp)]) (List.replicate b.tracks.length 0) (by simp)
 have f1' : loopM (lp_Sn_9 (spP b sp s pace pl soon)) ((b.tracks.length:Int),0,w64 (ms*1000),List.replicate b.tracks.length 0)=some (w64 (ms*1000),List.replicate b.tracks.length (b.packets.length:Int)):=f1
 rw [f1']
 simp only [Option.bind_some]
 dsimp only [m_Sn_21]
 rw [h1]
 simp only [Option.bind_some]
 dsimp only [m_Sn_42]
 have f2:=filled (n:=b.tracks.length) (v:=false) (b:=lp_Sn_47 (spP b sp s pace pl soon) (w64 (ms*1000)) l) (fun i l=>((i:Int),l)) (fun l=>l) (fun i l hi hl=>by
  dsimp only [lp_Sn_47,m_Sn_47,spP]
  rw [if_pos (by rw [hI.d];simpa using hi),rd_d false (by omega)]
  simp only [Option.bind_some,Nat.zero_add,Int.toNat_natCast]
  rw [w64_succ (by omega)]) (fun l hl=>by
  dsimp only [lp_Sn_47,m_Sn_47,spP]
  rw [if_neg (by rw [hI.d];simp)]) s.drop hI.d
 have f2' : loopM (lp_Sn_47 (spP b sp s pace pl soon) (w64 (ms*1000)) l) (0,(spP b sp s pace pl soon).drop)=some (List.replicate b.tracks.length false):=f2
 rw [f2']
 simp only [Option.bind_some]
 dsimp only [m_Sn_59]
 have h4' : loopM (lp_Sn_64 (spP b sp s pace pl soon) l) (0,(spP b sp s pace pl soon).b.tracks,(spP b sp s pace pl soon).b.packets,(spP b sp s pace pl soon).speed,(spP b sp s pace pl soon).wall,w64 (ms*1000),(spP b sp s pace pl soon).pace,(spP b sp s pace pl soon).playing,(spP b sp s pace pl soon).busy,(spP b sp s pace pl soon).left,(spP b sp s pace pl soon).soon,(spP b sp s pace pl soon).due,(spP b sp s pace pl soon).gone,List.replicate b.tracks.length false,(spP b sp s pace pl soon).shows)=some (spT b sp (seekF b sp s ms) pace pl soon):=h4
 rw [h4']
 simp only [Option.bind_some]
 dsimp only [m_Sn_82]
 have h7' : m_Sm (S_l17P.mk (S_Box.mk b.tracks b.packets) (dues b) sp (seekF b sp s ms).wall (seekF b sp s ms).clock pace pl (seekF b sp s ms).busy (seekF b sp s ms).gone 0 soon (seekF b sp s ms).drop (seekF b sp s ms).shows)=some (spP b sp (seekF b sp s ms) pace pl so):=h7
 rw [h7']
 rfl
theorem impl_first (p0:S_zplayer) (hb:p0.b=b) (hd:p0.due=dues b) (ck n9:Int) (t:Nat) (ht:t < b.tracks.length) (dl:List Bool) (l0:List Int) (hl0:l0.length=b.tracks.length) :
  ∃ l:List Int,loopM (lp_Ih_26 (t:Int) n9 p0 ck dl) (0,l0.set t (-1))=some l∧l.length=b.tracks.length∧l.getD t 0=FF b ck (-1) t b.packets.length∧∀ u,u≠t→l.getD u 0=l0.getD u 0:=by
 have hnp:=hr.np
 refine loopM_inv (b:=lp_Ih_26 (t:Int) n9 p0 ck dl) (fun i (l:List Int)=>((i:Int),l)) b.packets.length (fun i l=>l.length=b.tracks.length∧l.getD t 0=FF b ck (-1) t i∧∀ u,u≠t→l.getD u 0=l0.getD u 0)
  (fun l=>l.length=b.tracks.length∧l.getD t 0=FF b ck (-1) t b.packets.length∧∀ u,u≠t→l.getD u 0=l0.getD u 0) (fun i l hi hI=>.inl ?_) (fun l hI=>⟨l,?_,hI⟩) (s:=l0.set t (-1)) ⟨by simpa using hl0,by
   rw [List.getD_eq_getElem?_getD,List.getElem?_set_self (by omega)];rfl,fun u hu=>by
   rw [List.getD_eq_getElem?_getD,List.getElem?_set,if_neg (fun h=>hu h.symm),←List.getD_eq_getElem?_getD]⟩
 ·obtain ⟨htr,etr⟩ :=tr_lt hr hsp hi
  obtain ⟨hl,hv,hu⟩ :=hI
  have no:∀ hcond : ¬ (trF b i=t∧((ck < dueF b i∧FF b ck (-1) t i = -1)∨(dueF b i≤ck∧(pkAt b i).key=true))),
    l.length=b.tracks.length∧l.getD t 0=FF b ck (-1) t (i+1)∧∀ u,u≠t→l.getD u 0=l0.getD u 0:=fun hcond=>⟨hl,by rw [hv];simp only [FF,upd];rw [if_neg hcond],hu⟩
  have yes:∀ hcond:(trF b i=t∧((ck < dueF b i∧FF b ck (-1) t i = -1)∨(dueF b i≤ck∧(pkAt b i).key=true))),
    (l.set t (i:Int)).length=b.tracks.length∧(l.set t (i:Int)).getD t 0=FF b ck (-1) t (i+1)∧∀ u,u≠t→(l.set t (i:Int)).getD u 0=l0.getD u 0:=fun hcond=>⟨by simpa using hl,by
   rw [List.getD_eq_getElem?_getD,List.getElem?_set_self (by omega)];simp only [FF,upd];rw [if_pos hcond];rfl,fun u hne=>by
   rw [List.getD_eq_getElem?_getD,List.getElem?_set,if_neg (fun h=>hne h.symm),←List.getD_eq_getElem?_getD,hu u hne]⟩
  have eno:m_Ih_38 t i n9 p0 ck l dl false=some (.inl (((i+1:Nat):Int),l)):=by
   dsimp only [m_Ih_38]
   rw [if_neg (by simp),w64_succ (by omega)]
  have eyes:m_Ih_38 t i n9 p0 ck l dl true=some (.inl (((i+1:Nat):Int),l.set t (i:Int))):=by
   dsimp only [m_Ih_38]
   rw [if_pos rfl,rd_d 0 (by omega)]
   simp only [Option.bind_some]
   rw [w64_succ (by omega),Nat.zero_add,Int.toNat_natCast]
  have e1:rd l (t:Int)=some (FF b ck (-1) t i):=by rw [rd_d 0 (by omega),hv]
  have hneg:FF b ck (-1) t i < 0↔FF b ck (-1) t i = -1:=by
   rcases FF_rel b ck b.packets.length t i (by omega) with ⟨_,e⟩ | ⟨_,e,_⟩
   ·rw [e];omega
   ·omega
  dsimp only [lp_Ih_26,m_Ih_26]
  rw [hb,hd,if_pos (by simpa using hi),rd_pk hi]
  simp only [Option.bind_some]
  rw [etr]
  by_cases ht2:trF b i=t
  ·rw [if_pos (by rw [ht2];simp)]
   cases hk:(pkAt b i).key with
   | true=>
    rw [if_pos rfl,rd_due hr hi]
    simp only [Option.bind_some]
    by_cases h1:dueF b i≤ck
    ·rw [if_pos (by simpa using h1),eyes]
     exact ⟨_,rfl,yes ⟨ht2,.inr ⟨h1,hk⟩⟩⟩
    ·rw [if_neg (by simpa using h1),e1]
     simp only [Option.bind_some]
     by_cases h2:FF b ck (-1) t i < 0
     ·have h3:decide (dueF b i > ck)=true:=by simp;omega
      rw [if_pos (by simpa using h2),h3,eyes]
      exact ⟨_,rfl,yes ⟨ht2,.inl ⟨by omega,hneg.1 h2⟩⟩⟩
     ·rw [if_neg (by simpa using h2),eno]
      exact ⟨_,rfl,no (fun hh=>hh.2.elim (fun hh=>by exact h2 (hneg.2 hh.2)) (fun hh=>by exact h1 hh.1))⟩
   | false=>
    rw [if_neg (by simp),e1]
    simp only [Option.bind_some]
    by_cases h2:FF b ck (-1) t i < 0
    ·rw [if_pos (by simpa using h2),rd_due hr hi]
     simp only [Option.bind_some]
     by_cases h3:dueF b i > ck
     ·rw [show decide (dueF b i > ck)=true by simpa using h3,eyes]
      exact ⟨_,rfl,yes ⟨ht2,.inl ⟨by omega,hneg.1 h2⟩⟩⟩
     ·rw [show decide (dueF b i > ck)=false by simpa using h3,eno]
      exact ⟨_,rfl,no (fun hh=>hh.2.elim (fun hh=>by omega) (fun hh=>by rw [hk] at hh;exact absurd hh.2 (by simp)))⟩
    ·rw [if_neg (by simpa using h2),eno]
     exact ⟨_,rfl,no (fun hh=>hh.2.elim (fun hh=>by exact h2 (hneg.2 hh.2)) (fun hh=>by rw [hk] at hh;exact absurd hh.2 (by simp)))⟩
  ·rw [if_neg (by simp;omega),eno]
   exact ⟨_,rfl,no (fun hh=>ht2 hh.1)⟩
 ·dsimp only [lp_Ih_26,m_Ih_26]
  rw [hb,if_neg (by simp)]
theorem impl_firsts (p0:S_zplayer) (hb:p0.b=b) (hd:p0.due=dues b) (ck:Int) (d0:List Bool) (hd0:d0.length=b.tracks.length) :
  ∃ l:List Int,loopM (lp_Ih_9 p0) ((b.tracks.length:Int),0,ck,List.replicate b.tracks.length 0,d0)=some (ck,l,List.replicate b.tracks.length false)∧l.length=b.tracks.length∧∀ t,t < b.tracks.length→l.getD t 0=FF b ck (-1) t b.packets.length:=by
 have hnt:=hr.nt
 obtain ⟨e,h1,l,h2,h3,h4⟩ :=loopM_inv (b:=lp_Ih_9 p0) (fun t (y:List Int×List Bool)=>((b.tracks.length:Int),(t:Int),ck,y.1,y.2)) b.tracks.length
  (fun t y=>y.1.length=b.tracks.length∧y.2.length=b.tracks.length∧∀ u,u < t→y.1.getD u 0=FF b ck (-1) u b.packets.length∧y.2[u]? = some false)
  (fun e=>∃ l:List Int,e=(ck,l,List.replicate b.tracks.length false)∧l.length=b.tracks.length∧∀ t,t < b.tracks.length→l.getD t 0=FF b ck (-1) t b.packets.length)
  (fun t y ht hI=>.inl (by
   obtain ⟨l,dl⟩ :=y
   obtain ⟨i1,i2,i3⟩ :=hI
   simp only at i1 i2 i3
   obtain ⟨l',k1,k2,k3,k4⟩ :=impl_first hr hsp p0 hb hd ck (b.tracks.length:Int) t ht dl l i1
   refine ⟨(l',dl.set t false),?_,k2,by simpa using i2,fun u hu=>?_⟩
   ·dsimp only [lp_Ih_9,m_Ih_9]
    rw [if_pos (by simpa using ht),rd_d 0 (by omega)]
    simp only [Option.bind_some,Nat.zero_add,Int.toNat_natCast]
    rw [k1]
    simp only [Option.bind_some]
    dsimp only [m_Ih_42]
    rw [rd_d false (by omega)]
    simp only [Option.bind_some,Nat.zero_add,Int.toNat_natCast]
    rw [w64_succ (by omega)]
   ·simp only
    by_cases he:u=t
    ·subst he
     exact ⟨k3,by rw [List.getElem?_set_self (by omega)]⟩
    ·obtain ⟨i4,i5⟩ :=i3 u (by omega)
     exact ⟨by rw [k4 u he,i4],by rw [List.getElem?_set,if_neg (fun h=>he h.symm)];exact i5⟩))
  (fun y hI=>by
   obtain ⟨l,dl⟩ :=y
   obtain ⟨i1,i2,i3⟩ :=hI
   simp only at i1 i2 i3
   have:dl=List.replicate b.tracks.length false:=by
    apply List.ext_getElem?
    intro j
    rw [List.getElem?_replicate]
    by_cases hj:j < b.tracks.length
    ·rw [if_pos hj];exact (i3 j hj).2
    ·rw [if_neg hj];exact List.getElem?_eq_none (by omega)
   refine ⟨_,?_,l,rfl,i1,fun t ht=>(i3 t ht).1⟩
   dsimp only [lp_Ih_9,m_Ih_9]
   rw [if_neg (by simp),this]) (s:=(List.replicate b.tracks.length 0,d0)) ⟨by simp,hd0,fun u hu=>absurd hu (by omega)⟩
 exact ⟨l,by rw [←h2];exact h1,h3,h4⟩
theorem impl_seek_loop {C:Nat} (p0:S_zplayer) (hb:p0.b=b) (fl:List Int) (hl:fl.length=b.tracks.length) (ck:Int) (hv:∀ t,t < b.tracks.length→fl.getD t 0=FF b ck (-1) t b.packets.length) (s:PS) (hI:InvS b C s) (hck:s.clock=ck) (nx:Int) :
  loopM (lp_Ih_49 p0 fl) (0,imT b sp s nx)=some (imT b sp ((List.range b.packets.length).foldl (skF b sp) s) nx)∧InvS b C ((List.range b.packets.length).foldl (skF b sp) s)∧((List.range b.packets.length).foldl (skF b sp) s).clock=ck:=by
 have hnp:=hr.np
 refine fold_range (n:=b.packets.length) (σ:=PS) (fun s i=>((i:Int),imT b sp s nx)) (g:=skF b sp) (I:=fun i s=>InvS b C s∧s.clock=ck) (b:=lp_Ih_49 p0 fl)
  (e1:=fun s=>imT b sp s nx) (fun i s hi hJ=>⟨?_,inv_sk hr hsp hJ.1 i,hJ.2⟩) (fun s hJ=>?_) s ⟨hI,hck⟩
 ·obtain ⟨hJ,hc⟩ :=hJ
  obtain ⟨htr,etr⟩ :=tr_lt hr hsp hi
  have hg:=hJ.g
  have e1:rd fl (pkAt b i).track=some (FF b s.clock (-1) (trF b i) b.packets.length):=by rw [etr,rd_d 0 (by omega),hv _ htr,hc]
  dsimp only [lp_Ih_49,m_Ih_49,imT]
  rw [hb,if_pos (by simpa using hi),rd_pk hi]
  simp only [Option.bind_some]
  rw [e1]
  simp only [Option.bind_some]
  rw [rd_d false (by omega)]
  simp only [Option.bind_some,Nat.zero_add,Int.toNat_natCast]
  unfold skF
  generalize hf:FF b s.clock (-1) (trF b i) b.packets.length=f
  by_cases h1:(i:Int) < f
  ·rw [if_pos (by simpa using h1)]
   dsimp only [m_Ih_63]
   rw [if_neg (by simp),w64_succ (by omega)]
   simp only [h1,decide_true,Bool.true_or,Bool.not_true,Bool.false_and,Bool.false_eq_true,if_false]
  ·rw [if_neg (by simpa using h1),rd_due hr hi]
   simp only [Option.bind_some]
   dsimp only [m_Ih_63]
   simp only [h1,decide_false,Bool.false_or,Bool.not_false,Bool.true_and]
   by_cases h2:dueF b i < s.clock
   ·simp only [h2,decide_true,if_true]
    rw [rd_d false (by simp;omega)]
    simp only [Option.bind_some,Nat.zero_add,Int.toNat_natCast,List.set_set]
    rw [impl_done hr hsp _ rfl rfl hi]
    simp only [Option.bind_some]
    rw [w64_succ (by omega)]
    rfl
   ·simp only [h2,decide_false,Bool.false_eq_true,if_false]
    rw [w64_succ (by omega)]
 ·dsimp only [lp_Ih_49,m_Ih_49]
  rw [hb,if_neg (by simp)]
theorem impl_seek {C:Nat} (s:PS) (hI:InvP b C s) (hC:C+b.packets.length≤1000000) (nx ms:Int) :
  m_Ih (imP b sp s nx) ms=some (imP b sp (seekF b sp s ms) 0):=by
 have hnp:=hr.np
 have hnt:=hr.nt
 obtain ⟨l,h1,h2,h3⟩ :=impl_firsts hr hsp (imP b sp s nx) rfl rfl (w64 (ms*1000)) s.drop hI.d
 obtain ⟨h4,h5,h6⟩ :=impl_seek_loop hr hsp (imP b sp s nx) rfl l h2 (w64 (ms*1000)) h3 (atF b s ms) (inv_at hr hsp hI hC ms) rfl nx
 dsimp only [m_Ih,m_Ih_0]
 have e0:(imP b sp s nx).b=b:=rfl
 have e1:(imP b sp s nx).dropping=s.drop:=rfl
 rw [e0,e1,ck_eq (by omega),Int.mul_comm 1000 ms]
 simp only [Option.bind_some,Int.toNat_natCast]
 rw [h1]
 simp only [Option.bind_some]
 dsimp only [m_Ih_44]
 have h4' : loopM (lp_Ih_49 (imP b sp s nx) l) (0,(imP b sp s nx).b.tracks,(imP b sp s nx).b.packets,(imP b sp s nx).speed,(imP b sp s nx).next,(imP b sp s nx).wall,w64 (ms*1000),(imP b sp s nx).busy,(imP b sp s nx).due,(imP b sp s nx).gone,List.replicate b.tracks.length false,(imP b sp s nx).shows)=some (imT b sp (seekF b sp s ms) nx):=h4
 rw [h4']
 rfl
end
end Go.Proofs.V

namespace Go.Proofs.V
open Go
def actOk (a:S_Act):Bool:=
 if a.kind == 1||a.kind == 2 then a.value == 0 else if a.kind == 3 then decide (0≤a.value)&&decide (a.value≤359999999) else if a.kind == 4 then decide (0≤a.value)&&decide (a.value≤100000)
 else if a.kind == 5 then decide (25≤a.value)&&decide (a.value≤400) else false
theorem act_12 (a:S_Act):m_Si_12 a false=some (if a.kind == 3 then decide (0≤a.value)&&decide (a.value≤359999999) else if a.kind == 4 then decide (0≤a.value)&&decide (a.value≤100000)
 else if a.kind == 5 then decide (25≤a.value)&&decide (a.value≤400) else false):=by
 unfold m_Si_12
 simp only [Bool.false_eq_true,if_false]
 cases h3:(a.kind == 3) with
 | true=>simp only [if_true];by_cases h:0≤a.value <;> simp [h]
 | false=>
  simp only [Bool.false_eq_true,if_false]
  cases h4:(a.kind == 4) with
  | true=>simp only [if_true];by_cases h:0≤a.value <;> simp [h]
  | false=>
   simp only [Bool.false_eq_true,if_false]
   cases h5:(a.kind == 5) with
   | true=>simp only [if_true];by_cases h:25≤a.value <;> simp [h]
   | false=>simp only [Bool.false_eq_true,if_false]
theorem spec_act (a:S_Act):m_Si a=some (actOk a):=by
 unfold m_Si m_Si_0 actOk
 cases h1:(a.kind == 1) with
 | true=>rfl
 | false=>
  rw [if_neg (by simp)]
  cases h2:(a.kind == 2) with
  | true=>rfl
  | false=>
   rw [act_12]
   rfl
theorem impl_in (lo hi:Int) (a:S_Act):m_Id lo hi a=some ((decide (lo≤a.value)&&decide (a.value≤hi)),a):=by
 simp only [m_Id,m_Id_0]
 by_cases h:lo≤a.value
 ·rw [if_pos (by simpa using h)];simp [h]
 ·rw [if_neg (by simpa using h)];simp [h]
theorem impl_act (a:S_Act):m_Ic a=some (actOk a):=by
 have h14:∀ q,m_Ic_14 a q=m_Si_12 a q:=by
  intro q
  cases q with
  | true=>rfl
  | false=>
   rw [act_12]
   simp only [m_Ic_14,impl_in,Option.bind_some,Bool.false_eq_true,if_false]
   cases h3:(a.kind == 3) with
   | true=>simp only [if_true]
   | false=>
    simp only [Bool.false_eq_true,if_false]
    cases h4:(a.kind == 4) with
    | true=>simp only [if_true]
    | false=>
     simp only [Bool.false_eq_true,if_false]
     cases h5:(a.kind == 5) with
     | true=>simp only [if_true]
     | false=>simp only [Bool.false_eq_true,if_false]
 have:=spec_act a
 unfold m_Si m_Si_0 at this
 unfold m_Ic m_Ic_0
 rw [h14,h14]
 exact this
structure PA where
 s:PS
 pace:Int
 pl:Bool
def actF (b:S_Box) (sp:Int) (x:PA) (a:S_Act):PA:=
 if a.kind=1 then { x with pl:=true } else if a.kind=2 then { x with pl:=false } else if a.kind=5 then { x with pace:=a.value }
 else if a.kind=3 then { x with s:=seekF b sp x.s a.value } else if x.pl then { x with s:=tickN b sp x.pace a.value.toNat x.s } else { x with s:={ x.s with wall:=w64 (x.s.wall+a.value) } }
section
variable {b:S_Box} (hgood:goodOk b=true) {sp:Int} (hsp:1≤sp)
include hgood hsp
theorem invP_le {C D:Nat} {s:PS} (h:InvP b C s) (hCD:C≤D) (hD:D≤1000000):InvP b D s:=⟨h.g,h.d,by have:=h.n;omega,hD,h.w⟩
theorem spec_main {C:Nat} (p2:List S_Act) (i:Nat) (hi:i < p2.length) (hn:p2.length≤500) (hok:actOk p2[i]=true) (x:PA) (hI:InvP b C x.s) (hC:C+b.packets.length≤1000000) (soon:Int) (hs:SoonOk b x.s.gone b.packets.length soon) :
  ∃ soon',lp_Sb_59 p2 ((i:Int),spT b sp x.s x.pace x.pl soon)=some (.inl (((i+1:Nat):Int),spT b sp (actF b sp x p2[i]).s (actF b sp x p2[i]).pace (actF b sp x p2[i]).pl soon'))
   ∧InvP b (C+b.packets.length) (actF b sp x p2[i]).s∧SoonOk b (actF b sp x p2[i]).s.gone b.packets.length soon':=by
 have hr:=good_right hgood
 have hup:=invP_le hgood hsp hI (Nat.le_add_right C b.packets.length) hC
 dsimp only [lp_Sb_59,m_Sb_59,spT]
 rw [if_pos (by simpa using hi),rd_eq hi]
 simp only [Option.bind_some]
 generalize p2[i]=a at hok
 unfold actF
 dsimp only [m_Sb_102]
 rw [w64_succ (by omega)]
 by_cases h1:a.kind=1
 ·rw [if_pos (by simpa using h1),if_pos h1]
  exact ⟨soon,rfl,hup,hs⟩
 ·rw [if_neg (by simpa using h1),if_neg h1]
  by_cases h2:a.kind=2
  ·rw [if_pos (by simpa using h2),if_pos h2]
   exact ⟨soon,rfl,hup,hs⟩
  ·rw [if_neg (by simpa using h2),if_neg h2]
   by_cases h5:a.kind=5
   ·rw [if_pos (by simpa using h5),if_pos h5]
    exact ⟨soon,rfl,hup,hs⟩
   ·rw [if_neg (by simpa using h5),if_neg h5]
    by_cases h3:a.kind=3
    ·rw [if_pos (by simpa using h3),if_pos h3]
     obtain ⟨so,k1,k2,k3⟩ :=spec_seek hr hsp x.s hI hC x.pace x.pl soon a.value
     simp only [spP] at k1
     rw [k1]
     exact ⟨so,rfl,k2,k3⟩
    ·rw [if_neg (by simpa using h3),if_neg h3]
     have hv:a.kind=4∧0≤a.value∧a.value≤100000:=by
      unfold actOk at hok
      rw [if_neg (by simp [h1,h2]),if_neg (by simpa using h3)] at hok
      by_cases h4:a.kind=4
      ·rw [if_pos (by simpa using h4)] at hok
       simpa [h4] using hok
      ·rw [if_neg (by simpa using h4),if_neg (by simpa using h5)] at hok
       simp at hok
     obtain ⟨v,hv4⟩:∃ v:Nat,a.value=v:=⟨a.value.toNat,by omega⟩
     obtain ⟨s,pace,pl⟩ :=x
     simp only at hI hup hs ⊢
     cases pl with
     | true=>
      obtain ⟨so,k1,k2,k3⟩ :=spec_wait_on hgood hsp p2 i a v hv4 (by omega) s hI pace soon hs
      have e:a.value.toNat=v:=by omega
      rw [k1,if_pos rfl,e]
      exact ⟨so,rfl,invP_le hgood hsp k2 (Nat.le_add_right _ _) hC,k3⟩
     | false=>
      have k1:=spec_wait_off hgood hsp p2 i a v hv4 (by omega) s hI pace soon
      rw [k1,if_neg (by simp),hv4]
      exact ⟨soon,rfl,⟨hup.g,hup.d,hup.n,hup.c,w64_w _⟩,hs⟩
theorem impl_main {C:Nat} (p2:List S_Act) (i:Nat) (hi:i < p2.length) (hn:p2.length≤500) (hok:actOk p2[i]=true) (x:PA) (hI:InvP b C x.s) (hC:C+b.packets.length≤1000000) (nx:Nat) (hnx:nx≤b.packets.length) (hg:GoneTo x.s nx) :
  ∃ nx' : Nat,lp_Ib_61 p2 (x.pace,x.pl,(i:Int),imT b sp x.s nx)=some (.inl ((actF b sp x p2[i]).pace,(actF b sp x p2[i]).pl,((i+1:Nat):Int),imT b sp (actF b sp x p2[i]).s nx'))
   ∧nx'≤b.packets.length∧GoneTo (actF b sp x p2[i]).s nx':=by
 have hr:=good_right hgood
 dsimp only [lp_Ib_61,m_Ib_61,imT]
 rw [if_pos (by simpa using hi),rd_eq hi]
 simp only [Option.bind_some]
 generalize p2[i]=a at hok
 unfold actF
 dsimp only [m_Ib_80,m_Ib_120]
 rw [w64_succ (by omega)]
 by_cases h1:a.kind=1
 ·have e1:(a.kind == 1)=true:=by simpa using h1
  rw [e1,if_pos rfl,if_pos rfl,if_pos h1]
  exact ⟨nx,rfl,hnx,hg⟩
 ·have e1:(a.kind == 1)=false:=by simpa using h1
  rw [e1,if_neg (by simp),if_neg h1]
  by_cases h2:a.kind=2
  ·have e2:(a.kind == 2)=true:=by simpa using h2
   rw [e2,if_pos rfl,if_pos h2]
   exact ⟨nx,rfl,hnx,hg⟩
  ·have e2:(a.kind == 2)=false:=by simpa using h2
   rw [e2,if_neg (by simp),if_neg h2]
   by_cases h5:a.kind=5
   ·rw [if_pos (by simpa using h5),if_pos h5]
    exact ⟨nx,rfl,hnx,hg⟩
   ·rw [if_neg (by simpa using h5),if_neg h5]
    by_cases h3:a.kind=3
    ·rw [if_pos (by simpa using h3),if_pos h3]
     have k1:=impl_seek hr hsp x.s hI hC nx a.value
     simp only [imP] at k1
     rw [k1]
     exact ⟨0,rfl,Nat.zero_le _,fun j hj=>absurd hj (by omega)⟩
    ·rw [if_neg (by simpa using h3),if_neg h3]
     have hv:a.kind=4∧0≤a.value∧a.value≤100000:=by
      unfold actOk at hok
      rw [if_neg (by simp [h1,h2]),if_neg (by simpa using h3)] at hok
      by_cases h4:a.kind=4
      ·rw [if_pos (by simpa using h4)] at hok
       simpa [h4] using hok
      ·rw [if_neg (by simpa using h4),if_neg (by simpa using h5)] at hok
       simp at hok
     rw [if_pos (by simpa using hv.1)]
     obtain ⟨v,hv4⟩:∃ v:Nat,a.value=v:=⟨a.value.toNat,by omega⟩
     obtain ⟨s,pace,pl⟩ :=x
     simp only at hI hg ⊢
     cases pl with
     | true=>
      obtain ⟨n2,k0,k1,k2⟩ :=impl_wait_on hgood hsp p2 i a v hv4 (by omega) s hI pace nx hnx hg
      have e:a.value.toNat=v:=by omega
      rw [if_pos rfl,if_pos rfl,k1,e]
      exact ⟨n2,rfl,k0,k2⟩
     | false=>
      rw [if_neg (by simp),if_neg (by simp)]
      exact ⟨nx,rfl,hnx,hg⟩
def initF (b:S_Box):PA:=⟨⟨0,0,0,List.replicate b.packets.length false,List.replicate b.tracks.length false,[]⟩,100,false⟩
def runF (b:S_Box) (sp:Int) (l:List S_Act):PA:=l.foldl (actF b sp) (initF b)
theorem inv_init:InvP b (400*1) (initF b).s:=by
 have hr:=good_right hgood
 have hnp:=hr.np
 refine ⟨by simp [initF],by simp [initF],?_,by omega,by simp [initF];exact w64_id (by omega) (by omega)⟩
 have:=List.count_le_length (a:=false) (l:=List.replicate b.packets.length false)
 simp only [List.length_replicate] at this
 show 0+(List.replicate b.packets.length false).count false≤400
 omega
theorem run_succ (p2:List S_Act) (i:Nat) (hi:i < p2.length):runF b sp (p2.take (i+1))=actF b sp (runF b sp (p2.take i)) p2[i]:=by
 unfold runF
 rw [List.take_succ_eq_append_getElem hi,List.foldl_append]
 rfl
theorem spec_run (p2:List S_Act) (hn:p2.length≤500) (hok:∀ a ∈ p2,actOk a=true) (soon:Int) (hs:SoonOk b (initF b).s.gone b.packets.length soon) :
  ∃ so,loopM (lp_Sb_59 p2) (0,spT b sp (initF b).s 100 false soon)=some (spT b sp (runF b sp p2).s (runF b sp p2).pace (runF b sp p2).pl so)∧InvP b (400*(p2.length+1)) (runF b sp p2).s:=by
 have hr:=good_right hgood
 have hnp:=hr.np
 obtain ⟨e,h1,so,h2,h3⟩ :=loopM_inv (b:=lp_Sb_59 p2) (fun i (y:PA×Int)=>((i:Int),spT b sp y.1.s y.1.pace y.1.pl y.2)) p2.length
  (fun i y=>y.1=runF b sp (p2.take i)∧InvP b (400*(i+1)) y.1.s∧SoonOk b y.1.s.gone b.packets.length y.2)
  (fun e=>∃ so,e=spT b sp (runF b sp p2).s (runF b sp p2).pace (runF b sp p2).pl so∧InvP b (400*(p2.length+1)) (runF b sp p2).s)
  (fun i y hi hJ=>.inl (by
   obtain ⟨x,so⟩ :=y
   obtain ⟨j1,j2,j3⟩ :=hJ
   obtain ⟨so',k1,k2,k3⟩ :=spec_main hgood hsp p2 i hi hn (hok _ (by simp)) x j2 (by omega) so j3
   exact ⟨(actF b sp x p2[i],so'),k1,by rw [run_succ hgood hsp p2 i hi,←j1],invP_le hgood hsp k2 (by omega) (by omega),k3⟩))
  (fun y hJ=>by
   obtain ⟨x,so⟩ :=y
   obtain ⟨j1,j2,j3⟩ :=hJ
   rw [List.take_length] at j1
   simp only at j1
   subst j1
   refine ⟨_,?_,so,rfl,j2⟩
   dsimp only [lp_Sb_59,m_Sb_59]
   rw [if_neg (by simp)]) (s:=(initF b,soon)) ⟨rfl,inv_init hgood hsp,hs⟩
 exact ⟨so,by rw [←h2];exact h1,h3⟩
theorem impl_run (p2:List S_Act) (hn:p2.length≤500) (hok:∀ a ∈ p2,actOk a=true) :
  ∃ nx:Nat,loopM (lp_Ib_61 p2) (100,false,0,imT b sp (initF b).s 0)=some (imT b sp (runF b sp p2).s nx):=by
 have hr:=good_right hgood
 have hnp:=hr.np
 obtain ⟨e,h1,nx,h2⟩ :=loopM_inv (b:=lp_Ib_61 p2) (fun i (y:PA×Nat)=>(y.1.pace,y.1.pl,(i:Int),imT b sp y.1.s y.2)) p2.length
  (fun i y=>y.1=runF b sp (p2.take i)∧InvP b (400*(i+1)) y.1.s∧y.2≤b.packets.length∧GoneTo y.1.s y.2)
  (fun e=>∃ nx:Nat,e=imT b sp (runF b sp p2).s nx)
  (fun i y hi hJ=>.inl (by
   obtain ⟨x,nx⟩ :=y
   obtain ⟨j1,j2,j3,j4⟩ :=hJ
   obtain ⟨n2,k1,k2,k3⟩ :=impl_main hgood hsp p2 i hi hn (hok _ (by simp)) x j2 (by omega) nx j3 j4
   obtain ⟨so,_,hso⟩ :=spec_look hr hsp x.s j2.g 0 false 0
   obtain ⟨so',_,k5,_⟩ :=spec_main hgood hsp p2 i hi hn (hok _ (by simp)) x j2 (by omega) so hso
   exact ⟨(actF b sp x p2[i],n2),k1,by rw [run_succ hgood hsp p2 i hi,←j1],invP_le hgood hsp k5 (by omega) (by omega),k2,k3⟩))
  (fun y hJ=>by
   obtain ⟨x,nx⟩ :=y
   obtain ⟨j1,j2,j3,j4⟩ :=hJ
   rw [List.take_length] at j1
   simp only at j1
   subst j1
   refine ⟨_,?_,nx,rfl⟩
   dsimp only [lp_Ib_61,m_Ib_61]
   rw [if_neg (by simp)]) (s:=(initF b,0)) ⟨rfl,inv_init hgood hsp,Nat.zero_le _,fun j hj=>absurd hj (by omega)⟩
 exact ⟨nx,by rw [←h2];exact h1⟩
def playedF (b:S_Box) (sp:Int) (p2:List S_Act):S_Played:=⟨0,(runF b sp p2).s.shows,(runF b sp p2).s.wall,w64 (Int.tdiv (runF b sp p2).s.clock 1000)⟩
theorem dues_spec (p2:List S_Act):loopM (lp_Sb_40 p2 b sp) (0,([]:List Int),List.replicate b.packets.length false,List.replicate b.tracks.length false)=some (dues b,List.replicate b.packets.length false,List.replicate b.tracks.length false):=by
 have hr:=good_right hgood
 have hnp:=hr.np
 have h:=loopM_fun (b:=lp_Sb_40 p2 b sp) (fun i (l:List Int)=>((i:Int),l,List.replicate b.packets.length false,List.replicate b.tracks.length false)) b.packets.length (fun i=>(List.range i).map (dueF b))
  (e:=(dues b,List.replicate b.packets.length false,List.replicate b.tracks.length false)) (fun i hi=>by
   dsimp only [lp_Sb_40,m_Sb_40]
   rw [if_pos (by simpa using hi),spec_due hr hi]
   simp only [Option.bind_some]
   rw [ck_eq (by simp;omega)]
   simp only [Option.bind_some]
   rw [w64_succ (by omega),List.range_succ,List.map_append]
   rfl) (by
   dsimp only [lp_Sb_40,m_Sb_40]
   rw [if_neg (by simp)]
   rfl)
 exact h
theorem dues_impl (p2:List S_Act):loopM (lp_Ib_42 p2 b sp) (0,([]:List Int),List.replicate b.packets.length false,List.replicate b.tracks.length false)=some (dues b,List.replicate b.packets.length false,List.replicate b.tracks.length false):=by
 have hr:=good_right hgood
 have hnp:=hr.np
 have h:=loopM_fun (b:=lp_Ib_42 p2 b sp) (fun i (l:List Int)=>((i:Int),l,List.replicate b.packets.length false,List.replicate b.tracks.length false)) b.packets.length (fun i=>(List.range i).map (dueF b))
  (e:=(dues b,List.replicate b.packets.length false,List.replicate b.tracks.length false)) (fun i hi=>by
   dsimp only [lp_Ib_42,m_Ib_42]
   rw [if_pos (by simpa using hi),impl_due hr hi]
   simp only [Option.bind_some]
   rw [ck_eq (by simp;omega)]
   simp only [Option.bind_some]
   rw [w64_succ (by omega),List.range_succ,List.map_append]
   rfl) (by
   dsimp only [lp_Ib_42,m_Ib_42]
   rw [if_neg (by simp)]
   rfl)
 exact h
theorem spec_33 (p2:List S_Act) (hn:p2.length≤500) (hok:∀ a ∈ p2,actOk a=true):m_Sb_33 sp p2 b=some (playedF b sp p2):=by
 have hr:=good_right hgood
 have hnp:=hr.np
 have hnt:=hr.nt
 obtain ⟨so,l1,l2⟩ :=spec_look hr hsp (initF b).s (inv_init hgood hsp).g 100 false 0
 obtain ⟨so2,r1,r2⟩ :=spec_run hgood hsp p2 hn hok so l2
 dsimp only [m_Sb_33]
 rw [ck_eq (by omega)]
 simp only [Option.bind_some]
 rw [ck_eq (by omega)]
 simp only [Option.bind_some,Int.toNat_natCast]
 rw [dues_spec hgood hsp]
 simp only [Option.bind_some]
 dsimp only [m_Sb_52]
 have l1' : m_Sm (S_l17P.mk b (dues b) sp 0 0 100 false 0 (List.replicate b.packets.length false) 0 0 (List.replicate b.tracks.length false) [])=some (spP b sp (initF b).s 100 false so):=l1
 rw [l1']
 simp only [Option.bind_some]
 have r1' : loopM (lp_Sb_59 p2) (0,(spP b sp (initF b).s 100 false so).b.tracks,(spP b sp (initF b).s 100 false so).b.packets,(spP b sp (initF b).s 100 false so).speed,(spP b sp (initF b).s 100 false so).wall,(spP b sp (initF b).s 100 false so).clock,(spP b sp (initF b).s 100 false so).pace,(spP b sp (initF b).s 100 false so).playing,(spP b sp (initF b).s 100 false so).busy,(spP b sp (initF b).s 100 false so).left,(spP b sp (initF b).s 100 false so).soon,(spP b sp (initF b).s 100 false so).due,(spP b sp (initF b).s 100 false so).gone,(spP b sp (initF b).s 100 false so).drop,(spP b sp (initF b).s 100 false so).shows)=some (spT b sp (runF b sp p2).s (runF b sp p2).pace (runF b sp p2).pl so2):=r1
 rw [r1']
 rfl
theorem impl_33 (p2:List S_Act) (hn:p2.length≤500) (hok:∀ a ∈ p2,actOk a=true):m_Ib_33 sp p2 b=some (playedF b sp p2):=by
 have hr:=good_right hgood
 have hnp:=hr.np
 have hnt:=hr.nt
 obtain ⟨nx,r1⟩ :=impl_run hgood hsp p2 hn hok
 dsimp only [m_Ib_33]
 rw [ck_eq (by omega)]
 simp only [Option.bind_some]
 rw [ck_eq (by omega)]
 simp only [Option.bind_some,Int.toNat_natCast]
 rw [dues_impl hgood hsp]
 simp only [Option.bind_some]
 dsimp only [m_Ib_54]
 have r1' : loopM (lp_Ib_61 p2) (100,false,0,b.tracks,b.packets,sp,0,0,0,0,dues b,List.replicate b.packets.length false,List.replicate b.tracks.length false,([]:List S_Show))=some (imT b sp (runF b sp p2).s nx):=r1
 rw [r1']
 rfl
end
theorem core_RunPlayer (b:S_Box) (sp:Int) (p2:List S_Act) (hb:SmB b) (hp:p2.length≤1048576) :
  ∃ w:S_Played,m_Sb b sp p2=some w∧m_Ib b sp p2=some w∧w.shows.length≤1048576:=by
 have bad:∃ w:S_Played,m_Sb_5 sp p2 b true=some w∧m_Ib_5 sp p2 b true=some w∧w.shows.length≤1048576:=⟨⟨1,[],0,0⟩,rfl,rfl,by simp⟩
 simp only [m_Sb,m_Sb_0,m_Ib,m_Ib_0]
 rw [spec_good b hb,impl_good b hb]
 simp only [Option.bind_some]
 cases hg:goodOk b with
 | false=>exact bad
 | true=>
  simp only [if_true]
  cases hq1:decide (sp < 1) with
  | true=>simp only [if_true];exact bad
  | false=>
   have h1:=of_decide_eq_false hq1
   simp only [Bool.false_eq_true,if_false]
   cases hq2:decide (sp > 1000) with
   | true=>simp only [if_true];exact bad
   | false=>
    have h2:=of_decide_eq_false hq2
    simp only [Bool.false_eq_true,if_false]
    by_cases h3:(p2.length:Int) > 500
    ·rw [show decide ((p2.length:Int) > 500)=true by simpa using h3];exact bad
    ·rw [show decide ((p2.length:Int) > 500)=false by simpa using h3]
     have hs:=all_fold (l:=p2) (σ:=Unit) (fun _ i=>(i:Int)) (q:=actOk) (g:=fun _ _=>()) (I:=fun _ _=>True) (b:=lp_Sb_15 sp p2 b) (e0:=.inl (S_Played.mk 1 ([]:List S_Show) 0 0)) (e1:=fun _=>.inr ())
      (fun i s h _=>by
       have e:lp_Sb_15 sp p2 b (i:Int)=if actOk p2[i] then some (.inl (((i+1:Nat):Int))) else some (.inr (.inl (S_Played.mk 1 ([]:List S_Show) 0 0))):=by
        dsimp only [lp_Sb_15,m_Sb_15]
        rw [if_pos (by simpa using h),rd_eq h]
        simp only [Option.bind_some]
        rw [spec_act]
        simp only [Option.bind_some]
        rw [w64_succ (by omega)]
       exact ⟨fun hq=>⟨by rw [e,hq];rfl,trivial⟩,fun hq=>by rw [e,hq];rfl⟩)
      (fun _ _=>by dsimp only [lp_Sb_15,m_Sb_15];rw [if_neg (by simp)]) () trivial
     have hm:=all_fold (l:=p2) (σ:=Unit) (fun _ i=>(i:Int)) (q:=actOk) (g:=fun _ _=>()) (I:=fun _ _=>True) (b:=lp_Ib_15 sp p2 b) (e0:=.inl (S_Played.mk 1 ([]:List S_Show) 0 0)) (e1:=fun _=>.inr ())
      (fun i s h _=>by
       have e:lp_Ib_15 sp p2 b (i:Int)=if actOk p2[i] then some (.inl (((i+1:Nat):Int))) else some (.inr (.inl (S_Played.mk 1 ([]:List S_Show) 0 0))):=by
        dsimp only [lp_Ib_15,m_Ib_15]
        rw [if_pos (by simpa using h),rd_eq h]
        simp only [Option.bind_some]
        rw [impl_act]
        simp only [Option.bind_some]
        rw [w64_succ (by omega)]
       exact ⟨fun hq=>⟨by rw [e,hq];rfl,trivial⟩,fun hq=>by rw [e,hq];rfl⟩)
      (fun _ _=>by dsimp only [lp_Ib_15,m_Ib_15];rw [if_neg (by simp)]) () trivial
     have hs' : loopM (lp_Sb_15 sp p2 b) 0=some (bif p2.all actOk then .inr () else .inl (S_Played.mk 1 ([]:List S_Show) 0 0)):=hs
     have hm' : loopM (lp_Ib_15 sp p2 b) 0=some (bif p2.all actOk then .inr () else .inl (S_Played.mk 1 ([]:List S_Show) 0 0)):=hm
     dsimp only [m_Sb_5,m_Ib_5]
     rw [if_neg (by simp),if_neg (by simp),hs',hm']
     cases ha:p2.all actOk with
     | false=>exact ⟨⟨1,[],0,0⟩,rfl,rfl,by simp⟩
     | true=>
      simp only [cond_true,Option.bind_some]
      have hall:∀ a ∈ p2,actOk a=true:=by simpa [List.all_eq_true] using ha
      refine ⟨playedF b sp p2,spec_33 hg (by omega) p2 (by omega) hall,impl_33 hg (by omega) p2 (by omega) hall,?_⟩
      obtain ⟨so,_,l2⟩ :=spec_look (good_right hg) (sp:=sp) (by omega) (initF b).s (inv_init hg (sp:=sp) (by omega)).g 100 false 0
      obtain ⟨so2,_,r2⟩ :=spec_run hg (sp:=sp) (by omega) p2 (by omega) hall so l2
      have:=r2.n
      show (runF b sp p2).s.shows.length≤1048576
      omega
end Go.Proofs.V

namespace Go.Proofs.V
open Go
theorem bstr_one (v:Int) (h0:0≤v) (h1:v≤255):∃ x,bstr [v]=some x∧x.size=1:=by
 refine ⟨⟨#[v.toNat.toUInt8]⟩,?_,rfl⟩
 simp [bstr,bytesOf,rI,h0,h1]
theorem markText_go (n:Nat):∀ (i:Nat) (s:ByteArray),i≤n→s.size+i≤9223372036854775800→∃ e,loopM lp_Lt_15 ((i:Int),s)=some e∧e.size≤s.size+i:=by
 induction n with
 | zero=>
  intro i s hi hs
  obtain rfl:i=0:=by omega
  refine ⟨s,?_,by omega⟩
  rw [loopM_eq]
  simp only [lp_Lt_15,m_Lt_15]
  rw [if_neg (by simp)]
 | succ n ih=>
  intro i s hi hs
  by_cases h0:i=0
  ·subst h0
   refine ⟨s,?_,by omega⟩
   rw [loopM_eq]
   simp only [lp_Lt_15,m_Lt_15]
   rw [if_neg (by simp)]
  ·have hm:Int.tmod (i:Int) 10=((i % 10:Nat):Int):=by rw [Int.tmod_eq_emod_of_nonneg (by omega)];omega
   have hd:Int.tdiv (i:Int) 10=((i / 10:Nat):Int):=by rw [Int.tdiv_eq_ediv_of_nonneg (by omega)];omega
   obtain ⟨x,hx,hxs⟩ :=bstr_one (wr .u8 (w64 (48+((i % 10:Nat):Int)))) (by rw [w64_id (by omega) (by omega),wu8_id (by omega) (by omega)];omega) (by rw [w64_id (by omega) (by omega),wu8_id (by omega) (by omega)];omega)
   obtain ⟨e,he,hes⟩ :=ih (i / 10) (x++s) (by omega) (by rw [ByteArray.size_append];omega)
   refine ⟨e,?_,by rw [ByteArray.size_append] at hes;omega⟩
   rw [loopM_eq]
   simp only [lp_Lt_15,m_Lt_15]
   rw [if_pos (by simp;omega),hm,hd,hx]
   simp only [Option.bind_some]
   rw [ck_eq (by omega),w64_id (by omega) (by omega)]
   simpa using he
theorem markText_some (k:Nat) (h:k≤4611686018427387904):∃ w,m_Lt k=some w:=by
 simp only [m_Lt,m_Lt_0]
 by_cases h0:(k:Int)≤0
 ·exact ⟨_,by rw [if_pos (by simpa using h0)]⟩
 ·rw [if_neg (by simpa using h0)]
  obtain ⟨e,he,hs⟩ :=markText_go k k (ByteArray.mk #[]) (Nat.le_refl _) (by show 0+k≤_;omega)
  rw [he]
  simp only [Option.bind_some,m_Lt_25]
  have:(ByteArray.mk #[]).size=0:=rfl
  have h1:(ByteArray.mk #[109]).size=1:=rfl
  rw [ck_eq (by omega)]
  exact ⟨_,rfl⟩
end Go.Proofs.V

namespace Go.Proofs.V
open Go
def wfS_Track (x:S_Track):Prop:=inK .i64 x.kind∧inK .i64 x.scale∧x.name.size≤maxLen∧True
def wfS_Packet (x:S_Packet):Prop:=inK .i64 x.track∧inK .i64 x.time∧inK .i64 x.span∧True∧(x.data.length≤maxLen∧∀ y0 ∈ x.data,inK .u8 y0)∧True
def wfS_Box (x:S_Box):Prop:=(x.tracks.length≤maxLen∧∀ y0 ∈ x.tracks,wfS_Track y0)∧(x.packets.length≤maxLen∧∀ y0 ∈ x.packets,wfS_Packet y0)∧True
def wfS_Act (x:S_Act):Prop:=inK .i64 x.kind∧inK .i64 x.value∧True
def Sm_S_Track (x:S_Track):Prop:=x.name.size≤1048576
theorem sz_Track (x:S_Track) (hx:wfS_Track x) (left:Int) (h0:0≤left) (h1:left≤1048576):∃ v,m_Lba x left=some v∧(v < 0∨0≤v∧v≤left∧Sm_S_Track x):=by
 simp only [m_Lba,m_Lba_0]
 have hy1:x.name.size≤9223372036854775807:=hx.2.2.1
 rw [w64_id (by omega) (by omega)]
 try simp only [decide_eq_true_eq]
 by_cases c1:left - (x.name.size:Int) < 0
 ·exact ⟨-1,by rw [if_pos c1],.inl (by omega)⟩
 rw [if_neg c1]
 have d1:x.name.size≤1048576:=by omega
 exact ⟨_,rfl,.inr ⟨by omega,by omega,d1⟩⟩
theorem sz_TrackS (x:(List S_Track)) (hx:(x.length≤maxLen∧∀ y0 ∈ x,wfS_Track y0)) (left:Int) (h0:0≤left) (h1:left≤1048576):∃ v,m_Lbb x left=some v∧(v < 0∨0≤v∧v≤left∧(x.length≤1048576∧∀ y0 ∈ x,Sm_S_Track y0)):=by
 have hm:x.length≤9223372036854775807:=hx.1
 simp only [m_Lbb,m_Lbb_0,m_Lbb_35]
 rw [w64_id (by omega) (by omega)]
 try simp only [decide_eq_true_eq]
 by_cases h:left - (x.length:Int) < 0
 ·exact ⟨-1,if_pos h,.inl (by omega)⟩
 rw [if_neg h]
 have key:=sz_list (l:=x) (b:=lp_Lbb_17 x) (Sm:=fun y=>Sm_S_Track y) (fun left i hi h0 h1=>?_) (fun left=>?_) (left - x.length) (by omega) (by omega)
 ·obtain ⟨e,he,hr⟩ :=key
  rw [he]
  rcases hr with rfl | ⟨s,rfl,h3,h4,h5⟩
  ·exact ⟨-1,rfl,.inl (by omega)⟩
  ·exact ⟨s,rfl,.inr ⟨h3,by omega,by omega,h5⟩⟩
 ·simp only [lp_Lbb_17,m_Lbb_17]
  rw [if_pos (by simp <;> omega),rd_eq hi]
  simp only [Option.bind_some]
  obtain ⟨v,hv,hc⟩ :=sz_Track x[i] (hx.2 _ (List.getElem_mem hi)) left h0 h1
  rw [hv]
  simp only [Option.bind_some]
  rcases hc with hc | hc
  ·left;rw [if_pos (by simpa using hc)]
  ·right;rw [if_neg (by simp <;> omega),w64_succ (by omega)]
   exact ⟨_,rfl,hc.1,hc.2.1,hc.2.2⟩
 ·simp only [lp_Lbb_17,m_Lbb_17]
  rw [if_neg (by simp)]
theorem sz_ByteS (x:(List Int)) (hx:(x.length≤maxLen∧∀ y0 ∈ x,inK .u8 y0)) (left:Int) (h0:0≤left) (h1:left≤1048576):∃ v,m_Lx x left=some v∧(v < 0∨0≤v∧v≤left∧x.length≤1048576):=by
 have hm:x.length≤9223372036854775807:=hx.1
 simp only [m_Lx,m_Lx_0]
 rw [w64_id (by omega) (by omega)]
 try simp only [decide_eq_true_eq]
 by_cases h:left - (x.length:Int) < 0
 ·exact ⟨-1,if_pos h,.inl (by omega)⟩
 ·exact ⟨_,if_neg h,.inr ⟨by omega,by omega,by omega⟩⟩
def Sm_S_Packet (x:S_Packet):Prop:=x.data.length≤1048576
theorem sz_Packet (x:S_Packet) (hx:wfS_Packet x) (left:Int) (h0:0≤left) (h1:left≤1048576):∃ v,m_Ly x left=some v∧(v < 0∨0≤v∧v≤left∧Sm_S_Packet x):=by
 simp only [m_Ly,m_Ly_0]
 obtain ⟨v1,e1,c1⟩ :=sz_ByteS x.data (hx.2.2.2.2.1) left (by omega) (by omega)
 rw [e1]
 simp only [Option.bind_some,decide_eq_true_eq]
 rcases c1 with c1 | ⟨d1,f1,g1⟩
 ·exact ⟨-1,by rw [if_pos c1],.inl (by omega)⟩
 rw [if_neg (by omega)]
 exact ⟨_,rfl,.inr ⟨by omega,by omega,g1⟩⟩
theorem sz_PacketS (x:(List S_Packet)) (hx:(x.length≤maxLen∧∀ y0 ∈ x,wfS_Packet y0)) (left:Int) (h0:0≤left) (h1:left≤1048576):∃ v,m_Lz x left=some v∧(v < 0∨0≤v∧v≤left∧(x.length≤1048576∧∀ y0 ∈ x,Sm_S_Packet y0)):=by
 have hm:x.length≤9223372036854775807:=hx.1
 simp only [m_Lz,m_Lz_0,m_Lz_35]
 rw [w64_id (by omega) (by omega)]
 try simp only [decide_eq_true_eq]
 by_cases h:left - (x.length:Int) < 0
 ·exact ⟨-1,if_pos h,.inl (by omega)⟩
 rw [if_neg h]
 have key:=sz_list (l:=x) (b:=lp_Lz_17 x) (Sm:=fun y=>Sm_S_Packet y) (fun left i hi h0 h1=>?_) (fun left=>?_) (left - x.length) (by omega) (by omega)
 ·obtain ⟨e,he,hr⟩ :=key
  rw [he]
  rcases hr with rfl | ⟨s,rfl,h3,h4,h5⟩
  ·exact ⟨-1,rfl,.inl (by omega)⟩
  ·exact ⟨s,rfl,.inr ⟨h3,by omega,by omega,h5⟩⟩
 ·simp only [lp_Lz_17,m_Lz_17]
  rw [if_pos (by simp <;> omega),rd_eq hi]
  simp only [Option.bind_some]
  obtain ⟨v,hv,hc⟩ :=sz_Packet x[i] (hx.2 _ (List.getElem_mem hi)) left h0 h1
  rw [hv]
  simp only [Option.bind_some]
  rcases hc with hc | hc
  ·left;rw [if_pos (by simpa using hc)]
  ·right;rw [if_neg (by simp <;> omega),w64_succ (by omega)]
   exact ⟨_,rfl,hc.1,hc.2.1,hc.2.2⟩
 ·simp only [lp_Lz_17,m_Lz_17]
  rw [if_neg (by simp)]
def Sm_S_Box (x:S_Box):Prop:=(x.tracks.length≤1048576∧∀ y0 ∈ x.tracks,Sm_S_Track y0)∧(x.packets.length≤1048576∧∀ y0 ∈ x.packets,Sm_S_Packet y0)
theorem sz_Box (x:S_Box) (hx:wfS_Box x) (left:Int) (h0:0≤left) (h1:left≤1048576):∃ v,m_Lw x left=some v∧(v < 0∨0≤v∧v≤left∧Sm_S_Box x):=by
 simp only [m_Lw,m_Lw_0]
 obtain ⟨v1,e1,c1⟩ :=sz_TrackS x.tracks (hx.1) left (by omega) (by omega)
 rw [e1]
 simp only [Option.bind_some,decide_eq_true_eq]
 rcases c1 with c1 | ⟨d1,f1,g1⟩
 ·exact ⟨-1,by rw [if_pos c1],.inl (by omega)⟩
 rw [if_neg (by omega)]
 obtain ⟨v2,e2,c2⟩ :=sz_PacketS x.packets (hx.2.1) v1 (by omega) (by omega)
 rw [e2]
 simp only [Option.bind_some,decide_eq_true_eq]
 rcases c2 with c2 | ⟨d2,f2,g2⟩
 ·exact ⟨-1,by rw [if_pos c2],.inl (by omega)⟩
 rw [if_neg (by omega)]
 exact ⟨_,rfl,.inr ⟨by omega,by omega,g1,g2⟩⟩
theorem sz_ActS (x:(List S_Act)) (hx:(x.length≤maxLen∧∀ y0 ∈ x,wfS_Act y0)) (left:Int) (h0:0≤left) (h1:left≤1048576):∃ v,m_Lv x left=some v∧(v < 0∨0≤v∧v≤left∧x.length≤1048576):=by
 have hm:x.length≤9223372036854775807:=hx.1
 simp only [m_Lv,m_Lv_0]
 rw [w64_id (by omega) (by omega)]
 try simp only [decide_eq_true_eq]
 by_cases h:left - (x.length:Int) < 0
 ·exact ⟨-1,if_pos h,.inl (by omega)⟩
 ·exact ⟨_,if_neg h,.inr ⟨by omega,by omega,by omega⟩⟩
theorem to_Track (x:S_Track) (hx:Sm_S_Track x):m_Lbi x=some x:=by
 simp only [m_Lbi,m_Lbi_0]
 try rfl
theorem to_TrackS (x:(List S_Track)) (hx:(x.length≤1048576∧∀ y0 ∈ x,Sm_S_Track y0)):m_Lbj x=some x:=by
 have hl:x.length≤1048576:=hx.1
 simp only [m_Lbj,m_Lbj_0,m_Lbj_19]
 rw [ck_eq (by omega)]
 simp only [Option.bind_some]
 suffices key:∀ z,loopM (lp_Lbj_9 x) (0,List.replicate (Int.toNat (x.length:Int)) z)=some x by
  rw [key]
  rfl
 intro z
 refine to_list (l:=x) (fun i out hi ho=>?_) (fun out=>?_) z
 ·simp only [lp_Lbj_9,m_Lbj_9]
  rw [if_pos (by simp <;> omega),rd_eq hi]
  simp only [Option.bind_some]
  rw [to_Track x[i] (hx.2 _ (List.getElem_mem hi))]
  simp only [Option.bind_some]
  rw [rd_eq (by omega)]
  simp only [Option.bind_some]
  rw [w64_succ (by omega)]
 ·simp only [lp_Lbj_9,m_Lbj_9]
  rw [if_neg (by simp)]
theorem to_ByteS (x:(List Int)) (hx:x.length≤1048576):m_Lbf x=some x:=by
 have hl:x.length≤1048576:=hx
 simp only [m_Lbf,m_Lbf_0,m_Lbf_19]
 rw [ck_eq (by omega)]
 simp only [Option.bind_some]
 suffices key:∀ z,loopM (lp_Lbf_9 x) (0,List.replicate (Int.toNat (x.length:Int)) z)=some x by
  rw [key]
  rfl
 intro z
 refine to_list (l:=x) (fun i out hi ho=>?_) (fun out=>?_) z
 ·simp only [lp_Lbf_9,m_Lbf_9]
  rw [if_pos (by simp <;> omega),rd_eq hi]
  simp only [Option.bind_some]
  rw [rd_eq (by omega)]
  simp only [Option.bind_some]
  rw [w64_succ (by omega)]
 ·simp only [lp_Lbf_9,m_Lbf_9]
  rw [if_neg (by simp)]
theorem to_Packet (x:S_Packet) (hx:Sm_S_Packet x):m_Lbg x=some x:=by
 simp only [m_Lbg,m_Lbg_0]
 rw [to_ByteS x.data hx]
 simp only [Option.bind_some]
theorem to_PacketS (x:(List S_Packet)) (hx:(x.length≤1048576∧∀ y0 ∈ x,Sm_S_Packet y0)):m_Lbh x=some x:=by
 have hl:x.length≤1048576:=hx.1
 simp only [m_Lbh,m_Lbh_0,m_Lbh_19]
 rw [ck_eq (by omega)]
 simp only [Option.bind_some]
 suffices key:∀ z,loopM (lp_Lbh_9 x) (0,List.replicate (Int.toNat (x.length:Int)) z)=some x by
  rw [key]
  rfl
 intro z
 refine to_list (l:=x) (fun i out hi ho=>?_) (fun out=>?_) z
 ·simp only [lp_Lbh_9,m_Lbh_9]
  rw [if_pos (by simp <;> omega),rd_eq hi]
  simp only [Option.bind_some]
  rw [to_Packet x[i] (hx.2 _ (List.getElem_mem hi))]
  simp only [Option.bind_some]
  rw [rd_eq (by omega)]
  simp only [Option.bind_some]
  rw [w64_succ (by omega)]
 ·simp only [lp_Lbh_9,m_Lbh_9]
  rw [if_neg (by simp)]
theorem to_Box (x:S_Box) (hx:Sm_S_Box x):m_Lbe x=some x:=by
 simp only [m_Lbe,m_Lbe_0]
 rw [to_TrackS x.tracks hx.1]
 simp only [Option.bind_some]
 rw [to_PacketS x.packets hx.2]
 simp only [Option.bind_some]
theorem to_Act (x:S_Act):m_Lbc x=some x:=by
 simp only [m_Lbc,m_Lbc_0]
 try rfl
theorem to_ActS (x:(List S_Act)) (hx:x.length≤1048576):m_Lbd x=some x:=by
 have hl:x.length≤1048576:=hx
 simp only [m_Lbd,m_Lbd_0,m_Lbd_19]
 rw [ck_eq (by omega)]
 simp only [Option.bind_some]
 suffices key:∀ z,loopM (lp_Lbd_9 x) (0,List.replicate (Int.toNat (x.length:Int)) z)=some x by
  rw [key]
  rfl
 intro z
 refine to_list (l:=x) (fun i out hi ho=>?_) (fun out=>?_) z
 ·simp only [lp_Lbd_9,m_Lbd_9]
  rw [if_pos (by simp <;> omega),rd_eq hi]
  simp only [Option.bind_some]
  rw [to_Act x[i]]
  simp only [Option.bind_some]
  rw [rd_eq (by omega)]
  simp only [Option.bind_some]
  rw [w64_succ (by omega)]
 ·simp only [lp_Lbd_9,m_Lbd_9]
  rw [if_neg (by simp)]
theorem eq_Show (x:S_Show):m_Lh x x=some true:=by
 simp only [m_Lh,m_Lh_0]
 rw [if_neg (by simp)]
 rw [if_neg (by simp)]
 rw [if_neg (by simp)]
 rw [if_pos (by simp)]
theorem eq_ShowS (x:(List S_Show)) (hx:x.length≤1048576):m_Li x x=some true:=by
 have hl:x.length≤1048576:=hx
 simp only [m_Li,m_Li_0,m_Li_31]
 rw [if_neg (by simp)]
 suffices key:loopM (lp_Li_15 x x) 0=some (.inr ()) by
  rw [key]
  rfl
 refine eq_list (n:=x.length) (fun i hi=>?_) ?_
 ·simp only [lp_Li_15,m_Li_15]
  rw [if_pos (by simp <;> omega),rd_eq hi]
  simp only [Option.bind_some]
  rw [eq_Show x[i]]
  simp only [Option.bind_some,if_true]
  rw [w64_succ (by omega)]
 ·simp only [lp_Li_15,m_Li_15]
  rw [if_neg (by simp)]
def Sm_S_Played (x:S_Played):Prop:=x.shows.length≤1048576
theorem eq_Played (x:S_Played) (hx:Sm_S_Played x):m_Lg x x=some true:=by
 simp only [m_Lg,m_Lg_0]
 rw [if_neg (by simp)]
 rw [eq_ShowS x.shows hx]
 simp only [Option.bind_some,if_true]
 rw [if_neg (by simp)]
 rw [if_neg (by simp)]
theorem eq_Track (x:S_Track) (hx:Sm_S_Track x):m_Lj x x=some true:=by
 simp only [m_Lj,m_Lj_0]
 rw [if_neg (by simp)]
 rw [if_neg (by simp)]
 rw [if_pos (by simp)]
theorem eq_TrackS (x:(List S_Track)) (hx:(x.length≤1048576∧∀ y0 ∈ x,Sm_S_Track y0)):m_Lk x x=some true:=by
 have hl:x.length≤1048576:=hx.1
 simp only [m_Lk,m_Lk_0,m_Lk_31]
 rw [if_neg (by simp)]
 suffices key:loopM (lp_Lk_15 x x) 0=some (.inr ()) by
  rw [key]
  rfl
 refine eq_list (n:=x.length) (fun i hi=>?_) ?_
 ·simp only [lp_Lk_15,m_Lk_15]
  rw [if_pos (by simp <;> omega),rd_eq hi]
  simp only [Option.bind_some]
  rw [eq_Track x[i] (hx.2 _ (List.getElem_mem hi))]
  simp only [Option.bind_some,if_true]
  rw [w64_succ (by omega)]
 ·simp only [lp_Lk_15,m_Lk_15]
  rw [if_neg (by simp)]
theorem eq_ByteS (x:(List Int)) (hx:x.length≤1048576):m_Ld x x=some true:=by
 have hl:x.length≤1048576:=hx
 simp only [m_Ld,m_Ld_0,m_Ld_31]
 rw [if_neg (by simp)]
 suffices key:loopM (lp_Ld_15 x x) 0=some (.inr ()) by
  rw [key]
  rfl
 refine eq_list (n:=x.length) (fun i hi=>?_) ?_
 ·simp only [lp_Ld_15,m_Ld_15]
  rw [if_pos (by simp <;> omega),rd_eq hi]
  simp only [Option.bind_some]
  rw [if_neg (by simp),w64_succ (by omega)]
 ·simp only [lp_Ld_15,m_Ld_15]
  rw [if_neg (by simp)]
theorem eq_Packet (x:S_Packet) (hx:Sm_S_Packet x):m_Le x x=some true:=by
 simp only [m_Le,m_Le_0]
 rw [if_neg (by simp)]
 rw [if_neg (by simp)]
 rw [if_neg (by simp)]
 rw [if_pos (by simp)]
 rw [eq_ByteS x.data hx]
 simp only [Option.bind_some,if_true]
theorem eq_PacketS (x:(List S_Packet)) (hx:(x.length≤1048576∧∀ y0 ∈ x,Sm_S_Packet y0)):m_Lf x x=some true:=by
 have hl:x.length≤1048576:=hx.1
 simp only [m_Lf,m_Lf_0,m_Lf_31]
 rw [if_neg (by simp)]
 suffices key:loopM (lp_Lf_15 x x) 0=some (.inr ()) by
  rw [key]
  rfl
 refine eq_list (n:=x.length) (fun i hi=>?_) ?_
 ·simp only [lp_Lf_15,m_Lf_15]
  rw [if_pos (by simp <;> omega),rd_eq hi]
  simp only [Option.bind_some]
  rw [eq_Packet x[i] (hx.2 _ (List.getElem_mem hi))]
  simp only [Option.bind_some,if_true]
  rw [w64_succ (by omega)]
 ·simp only [lp_Lf_15,m_Lf_15]
  rw [if_neg (by simp)]
theorem eq_Box (x:S_Box) (hx:Sm_S_Box x):m_Lc x x=some true:=by
 simp only [m_Lc,m_Lc_0]
 rw [eq_TrackS x.tracks hx.1]
 simp only [Option.bind_some,if_true]
 rw [eq_PacketS x.packets hx.2]
 simp only [Option.bind_some,if_true]
theorem eq_Act (x:S_Act):m_La x x=some true:=by
 simp only [m_La,m_La_0]
 rw [if_neg (by simp)]
 rw [if_neg (by simp)]
theorem eq_ActS (x:(List S_Act)) (hx:x.length≤1048576):m_Lb x x=some true:=by
 have hl:x.length≤1048576:=hx
 simp only [m_Lb,m_Lb_0,m_Lb_31]
 rw [if_neg (by simp)]
 suffices key:loopM (lp_Lb_15 x x) 0=some (.inr ()) by
  rw [key]
  rfl
 refine eq_list (n:=x.length) (fun i hi=>?_) ?_
 ·simp only [lp_Lb_15,m_Lb_15]
  rw [if_pos (by simp <;> omega),rd_eq hi]
  simp only [Option.bind_some]
  rw [eq_Act x[i]]
  simp only [Option.bind_some,if_true]
  rw [w64_succ (by omega)]
 ·simp only [lp_Lb_15,m_Lb_15]
  rw [if_neg (by simp)]
theorem mark_TrackS (x:(List S_Track)) (k:Nat) (hx:(x.length≤1048576∧∀ y0 ∈ x,Sm_S_Track y0)) (hk:k+3145728≤4611686018427387904):∃ (x' : (List S_Track)) (k' : Nat),m_Lu x k=some ((k' : Int),x')∧x'.length=x.length∧k≤k'∧k'≤k+3145728:=by
 have hl:x.length≤1048576:=hx.1
 have hlc:x.length*3≤3145728:=by omega
 have key:=mark_list0 (Sm:=fun y=>Sm_S_Track y) 3 (b:=lp_Lu_7) (fun l i k hi hl hk hs=>?_) (fun l k=>?_) x k hl (by omega) hx.2
 ·obtain ⟨l1,k1,e1,e2,e3,e4⟩ :=key
  refine ⟨l1,k1,?_,e2,e3,by omega⟩
  ·simp only [m_Lu,m_Lu_0]
   rw [e1]
   rfl
 ·skip
  obtain ⟨w0,hw0⟩ :=markText_some (k+1+1) (by omega)
  refine ⟨⟨(k:Int),((k+1:Nat):Int),w0⟩,k+1+1+1,?_,by omega,by omega⟩
  ·simp only [lp_Lu_7,m_Lu_7]
   rw [if_pos (by simp <;> omega),rd_eq hi]
   simp only [Option.bind_some]
   simp (disch:=omega) only [w64_succ]
   rw [hw0]
   simp only [Option.bind_some]
   try simp (disch:=omega) only [w64_succ]
   simp
 ·simp only [lp_Lu_7,m_Lu_7]
  rw [if_neg (by simp)]
theorem mark_ByteS (x:(List Int)) (k:Nat) (hx:x.length≤1048576) (hk:k+1048576≤4611686018427387904):∃ (x' : (List Int)) (k' : Nat),m_Lp x k=some ((k' : Int),x')∧x'.length=x.length∧k≤k'∧k'≤k+1048576:=by
 have hl:x.length≤1048576:=hx
 have hlc:x.length*1≤1048576:=by omega
 have key:=mark_list0 (Sm:=fun y=>True) 1 (b:=lp_Lp_7) (fun l i k hi hl hk hs=>?_) (fun l k=>?_) x k hl (by omega) (fun _ _=>trivial)
 ·obtain ⟨l1,k1,e1,e2,e3,e4⟩ :=key
  refine ⟨l1,k1,?_,e2,e3,by omega⟩
  ·simp only [m_Lp,m_Lp_0]
   rw [e1]
   rfl
 ·refine ⟨(wr .u8 (k:Int)),k+1,?_,by omega,by omega⟩
  ·simp only [lp_Lp_7,m_Lp_7]
   rw [if_pos (by simp <;> omega),rd_eq hi]
   simp only [Option.bind_some]
   rw [w64_succ (by omega),w64_succ (by omega)]
   simp
 ·simp only [lp_Lp_7,m_Lp_7]
  rw [if_neg (by simp)]
theorem mark_PacketS (x:(List S_Packet)) (k:Nat) (hx:(x.length≤1048576∧∀ y0 ∈ x,Sm_S_Packet y0)) (hk:k+1099515822080≤4611686018427387904):∃ (x' : (List S_Packet)) (k' : Nat),m_Lq x k=some ((k' : Int),x')∧x'.length=x.length∧k≤k'∧k'≤k+1099515822080:=by
 have hl:x.length≤1048576:=hx.1
 have hlc:x.length*1048580≤1099515822080:=by omega
 have key:=mark_list0 (Sm:=fun y=>Sm_S_Packet y) 1048580 (b:=lp_Lq_7) (fun l i k hi hl hk hs=>?_) (fun l k=>?_) x k hl (by omega) hx.2
 ·obtain ⟨l1,k1,e1,e2,e3,e4⟩ :=key
  refine ⟨l1,k1,?_,e2,e3,by omega⟩
  ·simp only [m_Lq,m_Lq_0]
   rw [e1]
   rfl
 ·skip
  obtain ⟨y0,k0,a0,b0,c0,d0⟩ :=mark_ByteS l[i].data (k+1+1+1+1) hs (by omega)
  refine ⟨⟨(k:Int),((k+1:Nat):Int),((k+1+1:Nat):Int),(Int.tmod ((k+1+1+1:Nat):Int) 3 == 0),y0⟩,k0,?_,by omega,by omega⟩
  ·simp only [lp_Lq_7,m_Lq_7]
   rw [if_pos (by simp <;> omega),rd_eq hi]
   simp only [Option.bind_some]
   simp (disch:=omega) only [w64_succ]
   rw [a0]
   simp only [Option.bind_some]
   rw [ck_eq b0]
   simp only [Option.bind_some]
   try simp (disch:=omega) only [w64_succ]
   simp
 ·simp only [lp_Lq_7,m_Lq_7]
  rw [if_neg (by simp)]
theorem mark_Box (x:S_Box) (k:Nat) (hx:Sm_S_Box x) (hk:k+1099518967808≤4611686018427387904):∃ (l_tracks:(List S_Track)) (l_packets:(List S_Packet)) (k' : Nat),m_Lo x k=some ((k' : Int),(⟨l_tracks,l_packets⟩:S_Box))∧l_tracks.length=x.tracks.length∧l_packets.length=x.packets.length∧k≤k'∧k'≤k+1099518967808:=by
 obtain ⟨y0,k0,a0,b0,c0,d0⟩ :=mark_TrackS x.tracks k hx.1 (by omega)
 obtain ⟨y1,k1,a1,b1,c1,d1⟩ :=mark_PacketS x.packets k0 hx.2 (by omega)
 refine ⟨y0,y1,k1,?_,b0,b1,by omega,by omega⟩
 ·simp only [m_Lo,m_Lo_0]
  rw [a0]
  simp only [Option.bind_some]
  rw [ck_eq b0]
  simp only [Option.bind_some]
  rw [a1]
  simp only [Option.bind_some]
  rw [ck_eq b1]
  simp only [Option.bind_some]
  try rfl
theorem mark_ActS (x:(List S_Act)) (k:Nat) (hx:x.length≤1048576) (hk:k+2097152≤4611686018427387904):∃ (x' : (List S_Act)) (k' : Nat),m_Ln x k=some ((k' : Int),x')∧x'.length=x.length∧k≤k'∧k'≤k+2097152:=by
 have hl:x.length≤1048576:=hx
 have hlc:x.length*2≤2097152:=by omega
 have key:=mark_list0 (Sm:=fun y=>True) 2 (b:=lp_Ln_7) (fun l i k hi hl hk hs=>?_) (fun l k=>?_) x k hl (by omega) (fun _ _=>trivial)
 ·obtain ⟨l1,k1,e1,e2,e3,e4⟩ :=key
  refine ⟨l1,k1,?_,e2,e3,by omega⟩
  ·simp only [m_Ln,m_Ln_0]
   rw [e1]
   rfl
 ·skip
  refine ⟨⟨(k:Int),((k+1:Nat):Int)⟩,k+1+1,?_,by omega,by omega⟩
  ·simp only [lp_Ln_7,m_Ln_7]
   rw [if_pos (by simp <;> omega),rd_eq hi]
   simp only [Option.bind_some]
   simp (disch:=omega) only [w64_succ]
   simp
 ·simp only [lp_Ln_7,m_Ln_7]
  rw [if_neg (by simp)]
theorem mark_ShowS (x:(List S_Show)) (k:Nat) (hx:x.length≤1048576) (hk:k+4194304≤4611686018427387904):∃ (x' : (List S_Show)) (k' : Nat),m_Ls x k=some ((k' : Int),x')∧x'.length=x.length∧k≤k'∧k'≤k+4194304∧m_Lm x' k=some (k' : Int):=by
 have hl:x.length≤1048576:=hx
 have hlc:x.length*4≤4194304:=by omega
 have key:=mark_list (Sm:=fun y=>True) 4 (b:=lp_Ls_7) (bh:=lp_Lm_7) (fun l i k hi hl hk hs=>?_) (fun l k=>?_) (fun l k=>?_) x k hl (by omega) (fun _ _=>trivial)
 ·obtain ⟨l1,k1,e1,e2,e3,e4,e5⟩ :=key
  refine ⟨l1,k1,?_,e2,e3,by omega,?_⟩
  ·simp only [m_Ls,m_Ls_0]
   rw [e1]
   rfl
  ·simp only [m_Lm,m_Lm_0]
   rw [e5]
   rfl
 ·skip
  refine ⟨⟨(k:Int),((k+1:Nat):Int),((k+1+1:Nat):Int),(Int.tmod ((k+1+1+1:Nat):Int) 3 == 0)⟩,k+1+1+1+1,?_,by omega,by omega,fun l' h' hl' hx'=>?_⟩
  ·simp only [lp_Ls_7,m_Ls_7]
   rw [if_pos (by simp <;> omega),rd_eq hi]
   simp only [Option.bind_some]
   simp (disch:=omega) only [w64_succ]
   simp
  ·simp only [lp_Lm_7,m_Lm_7]
   rw [if_pos (by simp <;> omega),rd_eq h',hx']
   simp only [Option.bind_some]
   simp (disch:=omega) only [w64_succ]
   rw [if_neg (by simp)]
   rw [if_neg (by simp)]
   rw [if_neg (by simp)]
   rw [if_pos (by simp)]
 ·simp only [lp_Ls_7,m_Ls_7]
  rw [if_neg (by simp)]
 ·simp only [lp_Lm_7,m_Lm_7]
  rw [if_neg (by simp)]
theorem mark_Played (x:S_Played) (k:Nat) (hx:Sm_S_Played x) (hk:k+4194304≤4611686018427387904):∃ (l_shows:(List S_Show)) (k' : Nat),m_Lr x k=some ((k' : Int),(⟨x.err,l_shows,x.wall,x.clock⟩:S_Played))∧l_shows.length=x.shows.length∧k≤k'∧k'≤k+4194304∧m_Ll ⟨x.err,l_shows,x.wall,x.clock⟩ k=some (k' : Int):=by
 obtain ⟨y0,k0,a0,b0,c0,d0,e0⟩ :=mark_ShowS x.shows k hx (by omega)
 refine ⟨y0,k0,?_,b0,by omega,by omega,?_⟩
 ·simp only [m_Lr,m_Lr_0]
  rw [a0]
  simp only [Option.bind_some]
  rw [ck_eq b0]
  simp only [Option.bind_some]
  try rfl
 ·simp only [m_Ll,m_Ll_0]
  rw [e0]
  simp only [Option.bind_some]
  rw [if_neg (by simp <;> omega)]
theorem plain_FnExactRunPlayer (p0:S_Box) (hp0:wfS_Box p0) (p1:Int) (hp1:inK .i64 p1) (p2:(List S_Act)) (hp2:(p2.length≤maxLen∧∀ y0 ∈ p2,wfS_Act y0)) (core:(Sm_S_Box p0)→(p2.length≤1048576)→∃ w:S_Played,m_Sb p0 p1 p2=some w∧m_Ib p0 p1 p2=some w∧Sm_S_Played w):m_laws_FnExactRunPlayer p0 p1 p2=some true:=by
 simp only [m_laws_FnExactRunPlayer,m_laws_FnExactRunPlayer_0,decide_eq_true_eq]
 obtain ⟨v1,e1,c1⟩ :=sz_Box p0 hp0 1048576 (by omega) (by omega)
 rw [e1]
 simp only [Option.bind_some,decide_eq_true_eq]
 rcases c1 with c1 | c1
 ·rw [if_pos (by simpa using c1)]
 rw [if_neg (by simp <;> omega)]
 have sm_p0:Sm_S_Box p0:=c1.2.2
 obtain ⟨v2,e2,c2⟩ :=sz_ActS p2 hp2 v1 (by omega) (by omega)
 rw [e2]
 simp only [Option.bind_some,decide_eq_true_eq]
 rcases c2 with c2 | c2
 ·rw [if_pos (by simpa using c2)]
 rw [if_neg (by simp <;> omega)]
 have sm_p2:p2.length≤1048576:=c2.2.2
 rw [to_Box p0 sm_p0]
 simp only [Option.bind_some]
 rw [to_ActS p2 sm_p2]
 simp only [Option.bind_some]
 obtain ⟨w,hsp,him,sm0⟩ :=core sm_p0 sm_p2
 rw [hsp]
 simp only [Option.bind_some]
 rw [him]
 simp only [Option.bind_some]
 rw [eq_Played w sm0]
 simp only [Option.bind_some,if_true]
 rw [eq_Box p0 sm_p0]
 simp only [Option.bind_some,if_true]
 rw [eq_ActS p2 sm_p2]
 simp only [Option.bind_some,if_true]
 obtain ⟨y1_0,y1_1,k1,a1,b1_0,b1_1,c1x,d1⟩ :=mark_Box p0 1 sm_p0 (by omega)
 replace a1:m_Lo p0 1=_:=a1
 rw [a1]
 simp only [Option.bind_some]
 rw [ck_eq (by first | assumption | rfl)]
 simp only [Option.bind_some]
 rw [ck_eq (by first | assumption | rfl)]
 simp only [Option.bind_some]
 obtain ⟨y2,k2,a2,b2,c2x,d2⟩ :=mark_ActS p2 k1 sm_p2 (by omega)
 replace a2:m_Ln p2 (k1:Int)=_:=a2
 rw [a2]
 simp only [Option.bind_some]
 rw [ck_eq (by first | assumption | rfl)]
 simp only [Option.bind_some]
 rw [if_neg (by simp <;> omega)]
 obtain ⟨y3_0,k3,a3,b3_0,c3x,d3,f3⟩ :=mark_Played w 1 sm0 (by omega)
 replace a3:m_Lr w 1=_:=a3
 rw [a3]
 simp only [Option.bind_some]
 replace f3:m_Ll _ 1=_:=f3
 rw [ck_eq (by first | assumption | rfl)]
 simp only [Option.bind_some]
 rw [f3]
 simp only [Option.bind_some]
 rw [if_neg (by simp <;> omega)]
 rw [if_neg (by simp)]
end Go.Proofs.V

namespace Go.Proofs.V
open Go
theorem final_FnExactRunPlayer (x0:S_Box) (w0:wfS_Box x0) (x1:Int) (w1:inK .i64 x1) (x2:List S_Act) (w2:(x2.length≤maxLen∧∀ y0 ∈ x2,wfS_Act y0)):m_laws_FnExactRunPlayer x0 x1 x2=some true:=
 plain_FnExactRunPlayer x0 w0 x1 w1 x2 w2 fun h1 h2=>core_RunPlayer x0 x1 x2 h1 h2
end Go.Proofs.V
