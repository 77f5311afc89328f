import Derived.Test.YtcppkjgbnhcikaaFnExactMakeIndexV2
import Derived.Laws.Strings
set_option linter.unusedVariables false
set_option maxRecDepth 100000
namespace Go.Proofs.V
open Go
structure S_Entry where
 track:Int
 time:Int
 at_:Int
 deriving DecidableEq,Inhabited
structure S_Track where
 kind:Int
 scale:Int
 name:ByteArray
 deriving DecidableEq,Inhabited
structure S_Packet where
 track:Int
 time:Int
 span:Int
 key:Bool
 data:(List Int)
 deriving DecidableEq,Inhabited
structure S_Box where
 tracks:(List S_Track)
 packets:(List S_Packet)
 deriving DecidableEq,Inhabited
structure S_l16R where
 data:(List Int)
 at_:Int
 err:Int
 box:S_Box
 due:Int
 bytes:Int
 index:(List S_Entry)
 deriving DecidableEq,Inhabited
structure S_Number where
 ok:Bool
 value:Int
 next:Int
 deriving DecidableEq,Inhabited
structure S_zreader where
 b:(List Int)
 at_:Int
 err:Int
 deriving DecidableEq,Inhabited
def rS_Entry (x:S_Entry):List T:=[.lit (.int .i64 x.track),.lit (.int .i64 x.time),.lit (.int .i64 x.at_)]
def rS_Track (x:S_Track):List T:=[.lit (.int .i64 x.kind),.lit (.int .i64 x.scale),.lit (.string x.name)]
def rS_Packet (x:S_Packet):List T:=[.lit (.int .i64 x.track),.lit (.int .i64 x.time),.lit (.int .i64 x.span),.lit (.bool x.key),.sl (x.data.map (rI .u8))]
noncomputable def m_Lg_19 (l19_0:(List Int)):Option ((List Int)):=
 some l19_0
noncomputable def m_Lg_9 (p0:(List Int)) (i9_0:Int) (l9_1:(List Int)):Option ((Int×(List Int))⊕(((List Int)))):=
 if (decide (i9_0 < (p0.length:Int))) then
  (rd p0 i9_0).bind fun x9_1=>
  (rd l9_1 i9_0).bind fun _=>
  some (.inl ((w64 (i9_0+1)),(l9_1.set (0+Int.toNat i9_0) x9_1)))
 else
  some (.inr l9_1)
noncomputable def lp_Lg_9 (p0:(List Int)) (s:Int×(List Int)):Option ((Int×(List Int))⊕(((List Int)))):=m_Lg_9 p0 s.1 s.2
noncomputable def m_Lg_0 (p0:(List Int)):Option ((List Int)):=
 (ck (decide ((0:Int)≤(p0.length:Int)∧(p0.length:Int)≤(140737488355328:Int)))).bind fun _=>
 (loopM (lp_Lg_9 p0) (0,(List.replicate (Int.toNat (p0.length:Int)) (0:Int)))).bind fun e=>m_Lg_19 e
noncomputable def m_Lg (p0:(List Int)):Option ((List Int)):=m_Lg_0 p0
noncomputable def m_Sg_0 (p1:Int) (p0:S_l16R):Option (S_l16R):=
 if (p0.err == 0) then
  some (S_l16R.mk p0.data p0.at_ p1 p0.box p0.due p0.bytes p0.index)
 else
  some p0
noncomputable def m_Sg (p0:S_l16R) (p1:Int):Option (S_l16R):=m_Sg_0 p1 p0
noncomputable def m_Sn_8 (p1:Int) (l8_0:(List Int)) (i8_1 i8_2 i8_3 i8_4:Int) (l8_5:(List S_Track)) (l8_6:(List S_Packet)) (l8_7:(List S_Entry)):Option ((List Int)×S_l16R):=
 if (i8_2 != 0) then
  some (([]:List Int),(S_l16R.mk l8_0 i8_1 i8_2 (S_Box.mk l8_5 l8_6) i8_3 i8_4 l8_7))
 else
  (ck (decide ((0:Int)≤(w64 (i8_1+p1))∧(w64 (i8_1+p1))≤(l8_0.length:Int)))).bind fun _=>
  (ck (decide ((0:Int)≤(w64 ((w64 (i8_1+p1)) - p1))∧(w64 ((w64 (i8_1+p1)) - p1))≤((Int.toNat (w64 (i8_1+p1))):Int)))).bind fun _=>
  some (((l8_0.take (Int.toNat (w64 (i8_1+p1)))).drop (Int.toNat (w64 ((w64 (i8_1+p1)) - p1)))),(S_l16R.mk l8_0 (w64 (i8_1+p1)) i8_2 (S_Box.mk l8_5 l8_6) i8_3 i8_4 l8_7))
noncomputable def m_Sn_5 (p1:Int) (p0:S_l16R) (b5_0:Bool):Option ((List Int)×S_l16R):=
 if b5_0 then
  (m_Sg p0 2).bind fun x5_1=>
  m_Sn_8 p1 x5_1.data x5_1.at_ x5_1.err x5_1.due x5_1.bytes x5_1.box.tracks x5_1.box.packets x5_1.index
 else
  m_Sn_8 p1 p0.data p0.at_ p0.err p0.due p0.bytes p0.box.tracks p0.box.packets p0.index
noncomputable def m_Sn_0 (p1:Int) (p0:S_l16R):Option ((List Int)×S_l16R):=
 if (p0.err == 0) then
  m_Sn_5 p1 p0 (decide (p1 > (w64 ((p0.data.length:Int) - p0.at_))))
 else
  m_Sn_5 p1 p0 false
noncomputable def m_Sn (p0:S_l16R) (p1:Int):Option ((List Int)×S_l16R):=m_Sn_0 p1 p0
noncomputable def m_Sf_0 (p0:S_l16R):Option (Int×S_l16R):=
 (m_Sn p0 1).bind fun x0_0=>
 if (x0_0.2.err != 0) then
  some (0,x0_0.2)
 else
  (rd x0_0.1 0).bind fun x0_2=>
  some ((w64 x0_2),x0_0.2)
noncomputable def m_Sf (p0:S_l16R):Option (Int×S_l16R):=m_Sf_0 p0
noncomputable def m_Sb_51 (p1 i17_1 i51_0:Int) (b51_1:Bool):Option ((Int×Int)⊕(((Unit))⊕(S_Number))):=
 if b51_1 then
  some (.inr (.inr (S_Number.mk false 0 0)))
 else
  some (.inr (.inr (S_Number.mk true i51_0 (w64 ((w64 (p1+i17_1))+1)))))
noncomputable def m_Sb_38 (p0:(List Int)) (p1 i17_0 i17_1 i38_0:Int) (b38_1:Bool):Option ((Int×Int)⊕(((Unit))⊕(S_Number))):=
 if b38_1 then
  some (.inr (.inr (S_Number.mk false 0 0)))
 else
  (ck (decide ((0:Int)≤(wr .u64 (w64 (7*i17_1)))))).bind fun _=>
  if (decide (i38_0 < 128)) then
   if (i38_0 == 0) then
    m_Sb_51 p1 i17_1 (orI .u64 i17_0 (shlI .u64 (Int.tmod i38_0 128) (wr .u64 (w64 (7*i17_1))))) (decide (i17_1 > 0))
   else
    m_Sb_51 p1 i17_1 (orI .u64 i17_0 (shlI .u64 (Int.tmod i38_0 128) (wr .u64 (w64 (7*i17_1))))) false
  else
   some (.inl ((orI .u64 i17_0 (shlI .u64 (Int.tmod i38_0 128) (wr .u64 (w64 (7*i17_1))))),(w64 (i17_1+1))))
noncomputable def m_Sb_28 (p0:(List Int)) (p1 i17_0 i17_1:Int) (b28_0:Bool):Option ((Int×Int)⊕(((Unit))⊕(S_Number))):=
 if b28_0 then
  some (.inr (.inr (S_Number.mk false 0 0)))
 else
  (rd p0 (w64 (p1+i17_1))).bind fun x28_1=>
  if (i17_1 == 9) then
   m_Sb_38 p0 p1 i17_0 i17_1 (wr .u64 x28_1) (decide ((wr .u64 x28_1) > 1))
  else
   m_Sb_38 p0 p1 i17_0 i17_1 (wr .u64 x28_1) false
noncomputable def m_Sb_61:Option (S_Number):=
 some (S_Number.mk false 0 0)
noncomputable def m_Sb_17 (p0:(List Int)) (p1 i17_0 i17_1:Int):Option ((Int×Int)⊕(((Unit))⊕(S_Number))):=
 if (decide (i17_1 < 10)) then
  if (decide (p1≥(p0.length:Int))) then
   m_Sb_28 p0 p1 i17_0 i17_1 true
  else
   m_Sb_28 p0 p1 i17_0 i17_1 (decide (i17_1 > (w64 ((w64 ((p0.length:Int) - 1)) - p1))))
 else
  some (.inr (.inl ()))
noncomputable def lp_Sb_17 (p0:(List Int)) (p1:Int) (s:Int×Int):Option ((Int×Int)⊕(((Unit))⊕(S_Number))):=m_Sb_17 p0 p1 s.1 s.2
noncomputable def m_Sb_0 (p0:(List Int)) (p1:Int):Option (S_Number):=
 if (decide (p1 < 0)) then
  some (S_Number.mk false 0 0)
 else
  (loopM (lp_Sb_17 p0 p1) (0,0)).bind fun e=>match e with | .inl e=>m_Sb_61 | .inr e=>some e
noncomputable def m_Sb (p0:(List Int)) (p1:Int):Option (S_Number):=m_Sb_0 p0 p1
noncomputable def m_Sj_32 (p0:S_l16R) (b32_0:Bool):Option (Int×S_l16R):=
 if b32_0 then
  (m_Sg p0 2).bind fun x32_1=>
  some (0,x32_1)
 else
  (m_Sg p0 5).bind fun x32_1=>
  some (0,x32_1)
noncomputable def m_Sj_29 (p0:S_l16R) (i29_0:Int):Option (Int×S_l16R):=
 if (i29_0 == (p0.data.length:Int)) then
  m_Sj_32 p0 (decide (i29_0 < (w64 (p0.at_+10))))
 else
  m_Sj_32 p0 false
noncomputable def m_Sj_21 (p0:S_l16R) (i21_0:Int):Option ((Int)⊕((Int))):=
 if (decide (i21_0 < (p0.data.length:Int))) then
  if (decide (i21_0 < (w64 (p0.at_+10)))) then
   (rd p0.data i21_0).bind fun x21_2=>
   if (decide (x21_2≥128)) then
    some (.inl (w64 (i21_0+1)))
   else
    some (.inr i21_0)
  else
   some (.inr i21_0)
 else
  some (.inr i21_0)
noncomputable def lp_Sj_21 (p0:S_l16R) (s:Int):Option ((Int)⊕((Int))):=m_Sj_21 p0 s
noncomputable def m_Sj_0 (p0:S_l16R):Option (Int×S_l16R):=
 if (p0.err != 0) then
  some (0,p0)
 else
  (m_Sb p0.data p0.at_).bind fun x0_1=>
  if x0_1.ok then
   if (decide (x0_1.value > 4611686018427387904)) then
    (m_Sg p0 5).bind fun x0_4=>
    some (0,x0_4)
   else
    some ((w64 x0_1.value),(S_l16R.mk p0.data x0_1.next p0.err p0.box p0.due p0.bytes p0.index))
  else
   (loopM (lp_Sj_21 p0) p0.at_).bind fun e=>m_Sj_29 p0 e
noncomputable def m_Sj (p0:S_l16R):Option (Int×S_l16R):=m_Sj_0 p0
noncomputable def m_Sd_23:Option (Bool):=
 some true
noncomputable def m_Sd_7 (p0:ByteArray) (i7_0:Int):Option ((Int)⊕((Bool)⊕((Unit)))):=
 if (decide (i7_0 < (p0.size:Int))) then
  (sat p0 i7_0).bind fun x7_1=>
  if (decide (x7_1 < 32)) then
   some (.inr (.inl false))
  else
   if (decide (x7_1 > 126)) then
    some (.inr (.inl false))
   else
    some (.inl (w64 (i7_0+1)))
 else
  some (.inr (.inr ()))
noncomputable def lp_Sd_7 (p0:ByteArray) (s:Int):Option ((Int)⊕((Bool)⊕((Unit)))):=m_Sd_7 p0 s
noncomputable def m_Sd_0 (p0:ByteArray):Option (Bool):=
 (loopM (lp_Sd_7 p0) 0).bind fun e=>match e with | .inl e=>some e | .inr e=>m_Sd_23
noncomputable def m_Sd (p0:ByteArray):Option (Bool):=m_Sd_0 p0
noncomputable def m_Sp_0 (p0:S_Track):Option (Bool):=
 if (decide (p0.kind≥1)) then
  if (decide (p0.kind≤6)) then
   if (decide (p0.scale≥1)) then
    if (decide (p0.scale≤1000000)) then
     if (decide ((p0.name.size:Int)≤40)) then
      (m_Sd p0.name).bind fun x0_5=>
      some x0_5
     else
      some false
    else
     some false
   else
    some false
  else
   some false
 else
  some false
noncomputable def m_Sp (p0:S_Track):Option (Bool):=m_Sp_0 p0
noncomputable def m_Sq_21 (i21_0:Int):Option (Int):=
 some i21_0
noncomputable def m_Sq_9 (p0:(List Int)) (i9_0 i9_1:Int):Option ((Int×Int)⊕((Int))):=
 if (decide (i9_1 < (p0.length:Int))) then
  (rd p0 i9_1).bind fun x9_1=>
  some (.inl ((w64 ((w64 (i9_0*256))+(w64 x9_1))),(w64 (i9_1+1))))
 else
  some (.inr i9_0)
noncomputable def lp_Sq_9 (p0:(List Int)) (s:Int×Int):Option ((Int×Int)⊕((Int))):=m_Sq_9 p0 s.1 s.2
noncomputable def m_Sq_0 (p0:(List Int)):Option (Int):=
 (loopM (lp_Sq_9 p0) (0,0)).bind fun e=>m_Sq_21 e
noncomputable def m_Sq (p0:(List Int)):Option (Int):=m_Sq_0 p0
noncomputable def m_Sa_43 (p0:(List Int)) (i9_1 i43_0:Int):Option ((Int×Int)⊕((Int))):=
 some (.inl (i43_0,(w64 (i9_1+1))))
noncomputable def m_Sa_25 (p0:(List Int)) (i9_1 i25_0 i25_1:Int):Option ((Int×Int)⊕((Int))):=
 if (decide (i25_1 < 8)) then
  if ((andI .u32 i25_0 1) == 1) then
   some (.inl ((xorI .u32 (shrI .u32 i25_0 1) 3988292384),(w64 (i25_1+1))))
  else
   some (.inl ((shrI .u32 i25_0 1),(w64 (i25_1+1))))
 else
  some (.inr i25_0)
noncomputable def lp_Sa_25 (p0:(List Int)) (i9_1:Int) (s:Int×Int):Option ((Int×Int)⊕((Int))):=m_Sa_25 p0 i9_1 s.1 s.2
noncomputable def m_Sa_44 (i44_0:Int):Option (Int):=
 some (notI .u32 i44_0)
noncomputable def m_Sa_9 (p0:(List Int)) (i9_0 i9_1:Int):Option ((Int×Int)⊕((Int))):=
 if (decide (i9_1 < (p0.length:Int))) then
  (rd p0 i9_1).bind fun x9_1=>
  (loopM (lp_Sa_25 p0 i9_1) ((xorI .u32 i9_0 (wr .u32 x9_1)),0)).bind fun e=>m_Sa_43 p0 i9_1 e
 else
  some (.inr i9_0)
noncomputable def lp_Sa_9 (p0:(List Int)) (s:Int×Int):Option ((Int×Int)⊕((Int))):=m_Sa_9 p0 s.1 s.2
noncomputable def m_Sa_0 (p0:(List Int)):Option (Int):=
 (loopM (lp_Sa_9 p0) (4294967295,0)).bind fun e=>m_Sa_44 e
noncomputable def m_Sa (p0:(List Int)):Option (Int):=m_Sa_0 p0
noncomputable def m_Sm_6 (x0_0:(List Int)×S_l16R) (b6_0:Bool):Option (S_l16R):=
 if b6_0 then
  (m_Sg x0_0.2 3).bind fun x6_1=>
  some x6_1
 else
  some x0_0.2
noncomputable def m_Sm_0 (p1:Int) (p0:S_l16R):Option (S_l16R):=
 (m_Sn p0 4).bind fun x0_0=>
 if (x0_0.2.err == 0) then
  (m_Sq x0_0.1).bind fun x0_2=>
  (ck (decide ((0:Int)≤p0.at_∧p0.at_≤(x0_0.2.data.length:Int)))).bind fun _=>
  (ck (decide ((0:Int)≤p1∧p1≤((Int.toNat p0.at_):Int)))).bind fun _=>
  (m_Sa ((x0_0.2.data.take (Int.toNat p0.at_)).drop (Int.toNat p1))).bind fun x0_5=>
  m_Sm_6 x0_0 ((wr .u32 x0_2) != x0_5)
 else
  m_Sm_6 x0_0 false
noncomputable def m_Sm (p0:S_l16R) (p1:Int):Option (S_l16R):=m_Sm_0 p1 p0
noncomputable def m_Sh_19 (i5_0:Int) (x5_2:Int×S_l16R) (l5_6:(List Int)) (b19_0:Bool):Option ((Int×(List Int)×Int×Int×Int×Int×(List Int)×(List S_Track)×(List S_Packet)×(List S_Entry))⊕(((List Int)×Int×Int×Int×Int×(List S_Track)×(List S_Packet)×(List S_Entry)))):=
 if b19_0 then
  (m_Sg x5_2.2 4).bind fun x19_1=>
  some (.inl ((w64 (i5_0+1)),x19_1.data,x19_1.at_,x19_1.err,x19_1.due,x19_1.bytes,l5_6,x19_1.box.tracks,x19_1.box.packets,x19_1.index))
 else
  some (.inl ((w64 (i5_0+1)),x5_2.2.data,x5_2.2.at_,x5_2.2.err,x5_2.2.due,x5_2.2.bytes,l5_6,x5_2.2.box.tracks,x5_2.2.box.packets,x5_2.2.index))
noncomputable def m_Sh_58 (x23_0:Int×S_l16R) (i36_0:Int) (x36_2:Int×S_l16R) (x36_3:Int×S_l16R) (x36_6:ByteArray) (l58_0:(List Int)) (i58_1 i58_2 i58_3 i58_4:Int) (l58_5:(List S_Track)) (l58_6:(List S_Packet)) (l58_7:(List S_Entry)):Option ((Int×(List Int)×Int×Int×Int×Int×(List S_Track)×(List S_Packet)×(List S_Entry))⊕(((List Int)×Int×Int×Int×Int×(List S_Track)×(List S_Packet)×(List S_Entry)))):=
 (ck (decide (l58_5.length+([(S_Track.mk x36_2.1 x36_3.1 x36_6)]:List S_Track).length≤4398046511104))).bind fun _=>
 some (.inl ((w64 (i36_0+1)),l58_0,i58_1,i58_2,i58_3,i58_4,(l58_5++([(S_Track.mk x36_2.1 x36_3.1 x36_6)]:List S_Track)),l58_6,l58_7))
noncomputable def m_Sh_55 (x23_0:Int×S_l16R) (i36_0:Int) (x36_5:(List Int)×S_l16R) (x36_2:Int×S_l16R) (x36_3:Int×S_l16R) (x36_6:ByteArray) (b55_0:Bool):Option ((Int×(List Int)×Int×Int×Int×Int×(List S_Track)×(List S_Packet)×(List S_Entry))⊕(((List Int)×Int×Int×Int×Int×(List S_Track)×(List S_Packet)×(List S_Entry)))):=
 if b55_0 then
  (m_Sg x36_5.2 5).bind fun x55_1=>
  m_Sh_58 x23_0 i36_0 x36_2 x36_3 x36_6 x55_1.data x55_1.at_ x55_1.err x55_1.due x55_1.bytes x55_1.box.tracks x55_1.box.packets x55_1.index
 else
  m_Sh_58 x23_0 i36_0 x36_2 x36_3 x36_6 x36_5.2.data x36_5.2.at_ x36_5.2.err x36_5.2.due x36_5.2.bytes x36_5.2.box.tracks x36_5.2.box.packets x36_5.2.index
noncomputable def m_Sh_60 (l60_0:(List Int)) (i60_1 i60_2 i60_3 i60_4:Int) (l60_5:(List S_Track)) (l60_6:(List S_Packet)) (l60_7:(List S_Entry)):Option (S_l16R):=
 (m_Sm (S_l16R.mk l60_0 i60_1 i60_2 (S_Box.mk l60_5 l60_6) i60_3 i60_4 l60_7) 0).bind fun x60_0=>
 some x60_0
noncomputable def m_Sh_36 (x23_0:Int×S_l16R) (i36_0:Int) (l36_1:(List Int)) (i36_2 i36_3 i36_4 i36_5:Int) (l36_6:(List S_Track)) (l36_7:(List S_Packet)) (l36_8:(List S_Entry)):Option ((Int×(List Int)×Int×Int×Int×Int×(List S_Track)×(List S_Packet)×(List S_Entry))⊕(((List Int)×Int×Int×Int×Int×(List S_Track)×(List S_Packet)×(List S_Entry)))):=
 if (decide (i36_0 < x23_0.1)) then
  if (i36_3 == 0) then
   (m_Sf (S_l16R.mk l36_1 i36_2 i36_3 (S_Box.mk l36_6 l36_7) i36_4 i36_5 l36_8)).bind fun x36_2=>
   (m_Sj x36_2.2).bind fun x36_3=>
   (m_Sf x36_3.2).bind fun x36_4=>
   (m_Sn x36_4.2 x36_4.1).bind fun x36_5=>
   (bstr x36_5.1).bind fun x36_6=>
   if (x36_5.2.err == 0) then
    (m_Sp (S_Track.mk x36_2.1 x36_3.1 x36_6)).bind fun x36_8=>
    m_Sh_55 x23_0 i36_0 x36_5 x36_2 x36_3 x36_6 (!x36_8)
   else
    m_Sh_55 x23_0 i36_0 x36_5 x36_2 x36_3 x36_6 false
  else
   some (.inr (l36_1,i36_2,i36_3,i36_4,i36_5,l36_6,l36_7,l36_8))
 else
  some (.inr (l36_1,i36_2,i36_3,i36_4,i36_5,l36_6,l36_7,l36_8))
noncomputable def lp_Sh_36 (x23_0:Int×S_l16R) (s:Int×(List Int)×Int×Int×Int×Int×(List S_Track)×(List S_Packet)×(List S_Entry)):Option ((Int×(List Int)×Int×Int×Int×Int×(List S_Track)×(List S_Packet)×(List S_Entry))⊕(((List Int)×Int×Int×Int×Int×(List S_Track)×(List S_Packet)×(List S_Entry)))):=m_Sh_36 x23_0 s.1 s.2.1 s.2.2.1 s.2.2.2.1 s.2.2.2.2.1 s.2.2.2.2.2.1 s.2.2.2.2.2.2.1 s.2.2.2.2.2.2.2.1 s.2.2.2.2.2.2.2.2
noncomputable def m_Sh_31 (x23_0:Int×S_l16R) (l31_0:(List Int)) (i31_1 i31_2 i31_3 i31_4:Int) (l31_5:(List S_Track)) (l31_6:(List S_Packet)) (l31_7:(List S_Entry)):Option (S_l16R):=
 (loopM (lp_Sh_36 x23_0) (0,l31_0,i31_1,i31_2,i31_3,i31_4,l31_5,l31_6,l31_7)).bind fun e=>m_Sh_60 e.1 e.2.1 e.2.2.1 e.2.2.2.1 e.2.2.2.2.1 e.2.2.2.2.2.1 e.2.2.2.2.2.2.1 e.2.2.2.2.2.2.2
noncomputable def m_Sh_28 (x23_0:Int×S_l16R) (b28_0:Bool):Option (S_l16R):=
 if b28_0 then
  (m_Sg x23_0.2 5).bind fun x28_1=>
  m_Sh_31 x23_0 x28_1.data x28_1.at_ x28_1.err x28_1.due x28_1.bytes x28_1.box.tracks x28_1.box.packets x28_1.index
 else
  m_Sh_31 x23_0 x23_0.2.data x23_0.2.at_ x23_0.2.err x23_0.2.due x23_0.2.bytes x23_0.2.box.tracks x23_0.2.box.packets x23_0.2.index
noncomputable def m_Sh_23 (l23_0:(List Int)) (i23_1 i23_2 i23_3 i23_4:Int) (l23_5:(List S_Track)) (l23_6:(List S_Packet)) (l23_7:(List S_Entry)):Option (S_l16R):=
 (m_Sf (S_l16R.mk l23_0 i23_1 i23_2 (S_Box.mk l23_5 l23_6) i23_3 i23_4 l23_7)).bind fun x23_0=>
 if (x23_0.2.err == 0) then
  if (decide (x23_0.1 < 1)) then
   m_Sh_28 x23_0 true
  else
   m_Sh_28 x23_0 (decide (x23_0.1 > 8))
 else
  m_Sh_28 x23_0 false
noncomputable def m_Sh_5 (i5_0:Int) (l5_1:(List Int)) (i5_2 i5_3 i5_4 i5_5:Int) (l5_6:(List Int)) (l5_7:(List S_Track)) (l5_8:(List S_Packet)) (l5_9:(List S_Entry)):Option ((Int×(List Int)×Int×Int×Int×Int×(List Int)×(List S_Track)×(List S_Packet)×(List S_Entry))⊕(((List Int)×Int×Int×Int×Int×(List S_Track)×(List S_Packet)×(List S_Entry)))):=
 if (decide (i5_0 < 4)) then
  (rd l5_6 i5_0).bind fun x5_1=>
  (m_Sf (S_l16R.mk l5_1 i5_2 i5_3 (S_Box.mk l5_7 l5_8) i5_4 i5_5 l5_9)).bind fun x5_2=>
  if (x5_2.2.err == 0) then
   m_Sh_19 i5_0 x5_2 l5_6 (x5_2.1 != (w64 x5_1))
  else
   m_Sh_19 i5_0 x5_2 l5_6 false
 else
  some (.inr (l5_1,i5_2,i5_3,i5_4,i5_5,l5_7,l5_8,l5_9))
noncomputable def lp_Sh_5 (s:Int×(List Int)×Int×Int×Int×Int×(List Int)×(List S_Track)×(List S_Packet)×(List S_Entry)):Option ((Int×(List Int)×Int×Int×Int×Int×(List Int)×(List S_Track)×(List S_Packet)×(List S_Entry))⊕(((List Int)×Int×Int×Int×Int×(List S_Track)×(List S_Packet)×(List S_Entry)))):=m_Sh_5 s.1 s.2.1 s.2.2.1 s.2.2.2.1 s.2.2.2.2.1 s.2.2.2.2.2.1 s.2.2.2.2.2.2.1 s.2.2.2.2.2.2.2.1 s.2.2.2.2.2.2.2.2.1 s.2.2.2.2.2.2.2.2.2
noncomputable def m_Sh_0 (p0:S_l16R):Option (S_l16R):=
 (loopM (lp_Sh_5) (0,p0.data,p0.at_,p0.err,p0.due,p0.bytes,([66,79,88,49]:List Int),p0.box.tracks,p0.box.packets,p0.index)).bind fun e=>m_Sh_23 e.1 e.2.1 e.2.2.1 e.2.2.2.1 e.2.2.2.2.1 e.2.2.2.2.2.1 e.2.2.2.2.2.2.1 e.2.2.2.2.2.2.2
noncomputable def m_Sh (p0:S_l16R):Option (S_l16R):=m_Sh_0 p0
noncomputable def m_Se_0:Option ((List Int)):=
 some ([27,80,73,69,67,69,10,0]:List Int)
noncomputable def m_Se:Option ((List Int)):=m_Se_0
noncomputable def m_Si_33 (p0:S_l16R):Option (Bool×S_l16R):=
 some (true,p0)
noncomputable def m_Si_15 (p1:(List Int)) (p0:S_l16R) (i15_0:Int):Option ((Int)⊕(((Bool×S_l16R))⊕((Unit)))):=
 if (decide (i15_0 < (p1.length:Int))) then
  (rd p1 i15_0).bind fun x15_1=>
  (rd p0.data (w64 (p0.at_+i15_0))).bind fun x15_2=>
  if (x15_2 != x15_1) then
   some (.inr (.inl (false,p0)))
  else
   some (.inl (w64 (i15_0+1)))
 else
  some (.inr (.inr ()))
noncomputable def lp_Si_15 (p1:(List Int)) (p0:S_l16R) (s:Int):Option ((Int)⊕(((Bool×S_l16R))⊕((Unit)))):=m_Si_15 p1 p0 s
noncomputable def m_Si_0 (p1:(List Int)) (p0:S_l16R):Option (Bool×S_l16R):=
 if (decide ((w64 ((p0.data.length:Int) - p0.at_)) < 8)) then
  some (false,p0)
 else
  (loopM (lp_Si_15 p1 p0) 0).bind fun e=>match e with | .inl e=>some e | .inr e=>m_Si_33 p0
noncomputable def m_Si (p0:S_l16R) (p1:(List Int)):Option (Bool×S_l16R):=m_Si_0 p1 p0
noncomputable def m_So_0 (p0:Int):Option (Bool):=
 if (decide (p0≥0)) then
  some (decide (p0≤1000000000))
 else
  some false
noncomputable def m_So (p0:Int):Option (Bool):=m_So_0 p0
noncomputable def m_Sk_73 (p0:S_l16R) (x0_0:Int×S_l16R) (x14_0:Int×S_l16R) (i39_0 i39_1:Int) (x39_6:Int×S_l16R) (x39_2:Int×S_l16R) (x39_3:Int×S_l16R) (x39_4:Int×S_l16R) (b64_1:Bool) (l39_7:(List S_Packet)) (l39_8 l73_0:(List Int)) (i73_1 i73_2 i73_3 i73_4:Int) (l73_5:(List S_Track)) (l73_6:(List S_Packet)) (l73_7:(List S_Entry)):Option ((Int×Int×(List Int)×Int×Int×Int×Int×(List S_Packet)×(List Int)×(List S_Track)×(List S_Packet)×(List S_Entry))⊕((Int×(List Int)×Int×Int×Int×Int×(List S_Packet)×(List Int)×(List S_Track)×(List S_Packet)×(List S_Entry)))):=
 (ck (decide (l39_7.length+([(S_Packet.mk x39_2.1 x39_3.1 x39_4.1 b64_1 ([]:List Int))]:List S_Packet).length≤2513169434916))).bind fun _=>
 (ck (decide (l39_8.length+([x39_6.1]:List Int).length≤17592186044416))).bind fun _=>
 some (.inl ((w64 (i39_0+x39_6.1)),(w64 (i39_1+1)),l73_0,i73_1,i73_2,i73_3,i73_4,(l39_7++([(S_Packet.mk x39_2.1 x39_3.1 x39_4.1 b64_1 ([]:List Int))]:List S_Packet)),(l39_8++([x39_6.1]:List Int)),l73_5,l73_6,l73_7))
noncomputable def m_Sk_70 (p0:S_l16R) (x0_0:Int×S_l16R) (x14_0:Int×S_l16R) (i39_0 i39_1:Int) (x39_6:Int×S_l16R) (l67_0:(List Int)) (i67_1 i67_2 i67_3 i67_4:Int) (x39_2:Int×S_l16R) (x39_3:Int×S_l16R) (x39_4:Int×S_l16R) (b64_1:Bool) (l39_7:(List S_Packet)) (l39_8:(List Int)) (l67_5:(List S_Track)) (l67_6:(List S_Packet)) (l67_7:(List S_Entry)) (b70_0:Bool):Option ((Int×Int×(List Int)×Int×Int×Int×Int×(List S_Packet)×(List Int)×(List S_Track)×(List S_Packet)×(List S_Entry))⊕((Int×(List Int)×Int×Int×Int×Int×(List S_Packet)×(List Int)×(List S_Track)×(List S_Packet)×(List S_Entry)))):=
 if b70_0 then
  (m_Sg (S_l16R.mk l67_0 i67_1 i67_2 (S_Box.mk l67_5 l67_6) i67_3 i67_4 l67_7) 7).bind fun x70_1=>
  m_Sk_73 p0 x0_0 x14_0 i39_0 i39_1 x39_6 x39_2 x39_3 x39_4 b64_1 l39_7 l39_8 x70_1.data x70_1.at_ x70_1.err x70_1.due x70_1.bytes x70_1.box.tracks x70_1.box.packets x70_1.index
 else
  m_Sk_73 p0 x0_0 x14_0 i39_0 i39_1 x39_6 x39_2 x39_3 x39_4 b64_1 l39_7 l39_8 l67_0 i67_1 i67_2 i67_3 i67_4 l67_5 l67_6 l67_7
noncomputable def m_Sk_67 (p0:S_l16R) (x0_0:Int×S_l16R) (x14_0:Int×S_l16R) (i39_0 i39_1:Int) (x39_6:Int×S_l16R) (x39_2:Int×S_l16R) (x39_3:Int×S_l16R) (x39_4:Int×S_l16R) (b64_1:Bool) (l39_7:(List S_Packet)) (l39_8 l67_0:(List Int)) (i67_1 i67_2 i67_3 i67_4:Int) (l67_5:(List S_Track)) (l67_6:(List S_Packet)) (l67_7:(List S_Entry)):Option ((Int×Int×(List Int)×Int×Int×Int×Int×(List S_Packet)×(List Int)×(List S_Track)×(List S_Packet)×(List S_Entry))⊕((Int×(List Int)×Int×Int×Int×Int×(List S_Packet)×(List Int)×(List S_Track)×(List S_Packet)×(List S_Entry)))):=
 if (i67_2 == 0) then
  m_Sk_70 p0 x0_0 x14_0 i39_0 i39_1 x39_6 l67_0 i67_1 i67_2 i67_3 i67_4 x39_2 x39_3 x39_4 b64_1 l39_7 l39_8 l67_5 l67_6 l67_7 (decide (x39_6.1 > (w64 (60000 - i39_0))))
 else
  m_Sk_70 p0 x0_0 x14_0 i39_0 i39_1 x39_6 l67_0 i67_1 i67_2 i67_3 i67_4 x39_2 x39_3 x39_4 b64_1 l39_7 l39_8 l67_5 l67_6 l67_7 false
noncomputable def m_Sk_64 (p0:S_l16R) (x0_0:Int×S_l16R) (x14_0:Int×S_l16R) (i39_0 i39_1:Int) (x39_6:Int×S_l16R) (x39_2:Int×S_l16R) (x39_3:Int×S_l16R) (x39_4:Int×S_l16R) (l39_7:(List S_Packet)) (l39_8:(List Int)) (b64_0 b64_1:Bool):Option ((Int×Int×(List Int)×Int×Int×Int×Int×(List S_Packet)×(List Int)×(List S_Track)×(List S_Packet)×(List S_Entry))⊕((Int×(List Int)×Int×Int×Int×Int×(List S_Packet)×(List Int)×(List S_Track)×(List S_Packet)×(List S_Entry)))):=
 if b64_0 then
  (m_Sg x39_6.2 5).bind fun x64_1=>
  m_Sk_67 p0 x0_0 x14_0 i39_0 i39_1 x39_6 x39_2 x39_3 x39_4 b64_1 l39_7 l39_8 x64_1.data x64_1.at_ x64_1.err x64_1.due x64_1.bytes x64_1.box.tracks x64_1.box.packets x64_1.index
 else
  m_Sk_67 p0 x0_0 x14_0 i39_0 i39_1 x39_6 x39_2 x39_3 x39_4 b64_1 l39_7 l39_8 x39_6.2.data x39_6.2.at_ x39_6.2.err x39_6.2.due x39_6.2.bytes x39_6.2.box.tracks x39_6.2.box.packets x39_6.2.index
noncomputable def m_Sk_110 (x0_0:Int×S_l16R) (x102_0:S_l16R) (l102_5:(List S_Packet)) (i110_0:Int):Option (Int×(List S_Packet)×S_l16R):=
 some (x0_0.1,l102_5,(S_l16R.mk x102_0.data x102_0.at_ x102_0.err x102_0.box x102_0.due i110_0 x102_0.index))
noncomputable def m_Sk_102 (p0:S_l16R) (x0_0:Int×S_l16R) (i79_0:Int) (l102_0:(List Int)) (i102_1 i102_2 i102_3 i102_4:Int) (l102_5:(List S_Packet)) (l102_6:(List S_Track)) (l102_7:(List S_Packet)) (l102_8:(List S_Entry)):Option (Int×(List S_Packet)×S_l16R):=
 (m_Sm (S_l16R.mk l102_0 i102_1 i102_2 (S_Box.mk l102_6 l102_7) i102_3 i102_4 l102_8) p0.at_).bind fun x102_0=>
 if (x102_0.err == 0) then
  m_Sk_110 x0_0 x102_0 l102_5 i79_0
 else
  m_Sk_110 x0_0 x102_0 l102_5 x102_0.bytes
noncomputable def m_Sk_84 (p0:S_l16R) (x0_0:Int×S_l16R) (i79_0:Int) (l79_6:(List S_Packet)) (l79_7:(List Int)) (i84_0:Int) (l84_1:(List Int)) (i84_2 i84_3 i84_4 i84_5:Int) (l84_6:(List S_Packet)) (l84_7:(List S_Track)) (l84_8:(List S_Packet)) (l84_9:(List S_Entry)):Option ((Int×(List Int)×Int×Int×Int×Int×(List S_Packet)×(List S_Track)×(List S_Packet)×(List S_Entry))⊕(((List Int)×Int×Int×Int×Int×(List S_Packet)×(List S_Track)×(List S_Packet)×(List S_Entry)))):=
 if (decide (i84_0 < (l79_6.length:Int))) then
  (rd l84_6 i84_0).bind fun x84_1=>
  (rd l79_7 i84_0).bind fun x84_2=>
  (m_Sn (S_l16R.mk l84_1 i84_2 i84_3 (S_Box.mk l84_7 l84_8) i84_4 i84_5 l84_9) x84_2).bind fun x84_3=>
  (ck (decide (x84_1.data.length+x84_3.1.length≤140737488355328))).bind fun _=>
  if (x84_3.2.err != 0) then
   some (.inr (x84_3.2.data,x84_3.2.at_,x84_3.2.err,x84_3.2.due,x84_3.2.bytes,(l84_6.set (0+Int.toNat i84_0) (S_Packet.mk x84_1.track x84_1.time x84_1.span x84_1.key (x84_1.data++x84_3.1))),x84_3.2.box.tracks,x84_3.2.box.packets,x84_3.2.index))
  else
   some (.inl ((w64 (i84_0+1)),x84_3.2.data,x84_3.2.at_,x84_3.2.err,x84_3.2.due,x84_3.2.bytes,(l84_6.set (0+Int.toNat i84_0) (S_Packet.mk x84_1.track x84_1.time x84_1.span x84_1.key (x84_1.data++x84_3.1))),x84_3.2.box.tracks,x84_3.2.box.packets,x84_3.2.index))
 else
  some (.inr (l84_1,i84_2,i84_3,i84_4,i84_5,l84_6,l84_7,l84_8,l84_9))
noncomputable def lp_Sk_84 (p0:S_l16R) (x0_0:Int×S_l16R) (i79_0:Int) (l79_6:(List S_Packet)) (l79_7:(List Int)) (s:Int×(List Int)×Int×Int×Int×Int×(List S_Packet)×(List S_Track)×(List S_Packet)×(List S_Entry)):Option ((Int×(List Int)×Int×Int×Int×Int×(List S_Packet)×(List S_Track)×(List S_Packet)×(List S_Entry))⊕(((List Int)×Int×Int×Int×Int×(List S_Packet)×(List S_Track)×(List S_Packet)×(List S_Entry)))):=m_Sk_84 p0 x0_0 i79_0 l79_6 l79_7 s.1 s.2.1 s.2.2.1 s.2.2.2.1 s.2.2.2.2.1 s.2.2.2.2.2.1 s.2.2.2.2.2.2.1 s.2.2.2.2.2.2.2.1 s.2.2.2.2.2.2.2.2.1 s.2.2.2.2.2.2.2.2.2
noncomputable def m_Sk_79 (p0:S_l16R) (x0_0:Int×S_l16R) (i79_0:Int) (l79_1:(List Int)) (i79_2 i79_3 i79_4 i79_5:Int) (l79_6:(List S_Packet)) (l79_7:(List Int)) (l79_8:(List S_Track)) (l79_9:(List S_Packet)) (l79_10:(List S_Entry)):Option (Int×(List S_Packet)×S_l16R):=
 (loopM (lp_Sk_84 p0 x0_0 i79_0 l79_6 l79_7) (0,l79_1,i79_2,i79_3,i79_4,i79_5,l79_6,l79_8,l79_9,l79_10)).bind fun e=>m_Sk_102 p0 x0_0 i79_0 e.1 e.2.1 e.2.2.1 e.2.2.2.1 e.2.2.2.2.1 e.2.2.2.2.2.1 e.2.2.2.2.2.2.1 e.2.2.2.2.2.2.2.1 e.2.2.2.2.2.2.2.2
noncomputable def m_Sk_39 (p0:S_l16R) (x0_0:Int×S_l16R) (x14_0:Int×S_l16R) (i39_0 i39_1:Int) (l39_2:(List Int)) (i39_3 i39_4 i39_5 i39_6:Int) (l39_7:(List S_Packet)) (l39_8:(List Int)) (l39_9:(List S_Track)) (l39_10:(List S_Packet)) (l39_11:(List S_Entry)):Option ((Int×Int×(List Int)×Int×Int×Int×Int×(List S_Packet)×(List Int)×(List S_Track)×(List S_Packet)×(List S_Entry))⊕((Int×(List Int)×Int×Int×Int×Int×(List S_Packet)×(List Int)×(List S_Track)×(List S_Packet)×(List S_Entry)))):=
 if (decide (i39_1 < x14_0.1)) then
  if (i39_4 == 0) then
   (m_Sj (S_l16R.mk l39_2 i39_3 i39_4 (S_Box.mk l39_9 l39_10) i39_5 i39_6 l39_11)).bind fun x39_2=>
   (m_Sj x39_2.2).bind fun x39_3=>
   (m_Sj x39_3.2).bind fun x39_4=>
   (m_Sj x39_4.2).bind fun x39_5=>
   (m_Sj x39_5.2).bind fun x39_6=>
   if (x39_6.2.err == 0) then
    if (decide (x39_2.1≥(x39_6.2.box.tracks.length:Int))) then
     m_Sk_64 p0 x0_0 x14_0 i39_0 i39_1 x39_6 x39_2 x39_3 x39_4 l39_7 l39_8 true (x39_5.1 == 1)
    else
     (m_So x39_3.1).bind fun x39_9=>
     if x39_9 then
      (m_So x39_4.1).bind fun x39_11=>
      if x39_11 then
       m_Sk_64 p0 x0_0 x14_0 i39_0 i39_1 x39_6 x39_2 x39_3 x39_4 l39_7 l39_8 (decide (x39_5.1 > 1)) (x39_5.1 == 1)
      else
       m_Sk_64 p0 x0_0 x14_0 i39_0 i39_1 x39_6 x39_2 x39_3 x39_4 l39_7 l39_8 true (x39_5.1 == 1)
     else
      m_Sk_64 p0 x0_0 x14_0 i39_0 i39_1 x39_6 x39_2 x39_3 x39_4 l39_7 l39_8 true (x39_5.1 == 1)
   else
    m_Sk_64 p0 x0_0 x14_0 i39_0 i39_1 x39_6 x39_2 x39_3 x39_4 l39_7 l39_8 false (x39_5.1 == 1)
  else
   some (.inr (i39_0,l39_2,i39_3,i39_4,i39_5,i39_6,l39_7,l39_8,l39_9,l39_10,l39_11))
 else
  some (.inr (i39_0,l39_2,i39_3,i39_4,i39_5,i39_6,l39_7,l39_8,l39_9,l39_10,l39_11))
noncomputable def lp_Sk_39 (p0:S_l16R) (x0_0:Int×S_l16R) (x14_0:Int×S_l16R) (s:Int×Int×(List Int)×Int×Int×Int×Int×(List S_Packet)×(List Int)×(List S_Track)×(List S_Packet)×(List S_Entry)):Option ((Int×Int×(List Int)×Int×Int×Int×Int×(List S_Packet)×(List Int)×(List S_Track)×(List S_Packet)×(List S_Entry))⊕((Int×(List Int)×Int×Int×Int×Int×(List S_Packet)×(List Int)×(List S_Track)×(List S_Packet)×(List S_Entry)))):=m_Sk_39 p0 x0_0 x14_0 s.1 s.2.1 s.2.2.1 s.2.2.2.1 s.2.2.2.2.1 s.2.2.2.2.2.1 s.2.2.2.2.2.2.1 s.2.2.2.2.2.2.2.1 s.2.2.2.2.2.2.2.2.1 s.2.2.2.2.2.2.2.2.2.1 s.2.2.2.2.2.2.2.2.2.2.1 s.2.2.2.2.2.2.2.2.2.2.2
noncomputable def m_Sk_28 (p0:S_l16R) (x0_0:Int×S_l16R) (x14_0:Int×S_l16R) (l28_0:(List Int)) (i28_1 i28_2 i28_3 i28_4:Int) (l28_5:(List S_Track)) (l28_6:(List S_Packet)) (l28_7:(List S_Entry)):Option (Int×(List S_Packet)×S_l16R):=
 (loopM (lp_Sk_39 p0 x0_0 x14_0) (i28_4,0,l28_0,i28_1,i28_2,i28_3,i28_4,([]:List S_Packet),([]:List Int),l28_5,l28_6,l28_7)).bind fun e=>m_Sk_79 p0 x0_0 e.1 e.2.1 e.2.2.1 e.2.2.2.1 e.2.2.2.2.1 e.2.2.2.2.2.1 e.2.2.2.2.2.2.1 e.2.2.2.2.2.2.2.1 e.2.2.2.2.2.2.2.2.1 e.2.2.2.2.2.2.2.2.2.1 e.2.2.2.2.2.2.2.2.2.2
noncomputable def m_Sk_25 (p0:S_l16R) (x0_0:Int×S_l16R) (x14_0:Int×S_l16R) (l22_0:(List Int)) (i22_1 i22_2 i22_3 i22_4:Int) (l22_5:(List S_Track)) (l22_6:(List S_Packet)) (l22_7:(List S_Entry)) (b25_0:Bool):Option (Int×(List S_Packet)×S_l16R):=
 if b25_0 then
  (m_Sg (S_l16R.mk l22_0 i22_1 i22_2 (S_Box.mk l22_5 l22_6) i22_3 i22_4 l22_7) 7).bind fun x25_1=>
  m_Sk_28 p0 x0_0 x14_0 x25_1.data x25_1.at_ x25_1.err x25_1.due x25_1.bytes x25_1.box.tracks x25_1.box.packets x25_1.index
 else
  m_Sk_28 p0 x0_0 x14_0 l22_0 i22_1 i22_2 i22_3 i22_4 l22_5 l22_6 l22_7
noncomputable def m_Sk_22 (p0:S_l16R) (x0_0:Int×S_l16R) (x14_0:Int×S_l16R) (l22_0:(List Int)) (i22_1 i22_2 i22_3 i22_4:Int) (l22_5:(List S_Track)) (l22_6:(List S_Packet)) (l22_7:(List S_Entry)):Option (Int×(List S_Packet)×S_l16R):=
 if (i22_2 == 0) then
  m_Sk_25 p0 x0_0 x14_0 l22_0 i22_1 i22_2 i22_3 i22_4 l22_5 l22_6 l22_7 (decide ((w64 ((l22_6.length:Int)+x14_0.1)) > 400))
 else
  m_Sk_25 p0 x0_0 x14_0 l22_0 i22_1 i22_2 i22_3 i22_4 l22_5 l22_6 l22_7 false
noncomputable def m_Sk_19 (p0:S_l16R) (x0_0:Int×S_l16R) (x14_0:Int×S_l16R) (b19_0:Bool):Option (Int×(List S_Packet)×S_l16R):=
 if b19_0 then
  (m_Sg x14_0.2 5).bind fun x19_1=>
  m_Sk_22 p0 x0_0 x14_0 x19_1.data x19_1.at_ x19_1.err x19_1.due x19_1.bytes x19_1.box.tracks x19_1.box.packets x19_1.index
 else
  m_Sk_22 p0 x0_0 x14_0 x14_0.2.data x14_0.2.at_ x14_0.2.err x14_0.2.due x14_0.2.bytes x14_0.2.box.tracks x14_0.2.box.packets x14_0.2.index
noncomputable def m_Sk_14 (p0:S_l16R) (x0_0:Int×S_l16R) (l14_0:(List Int)) (i14_1 i14_2 i14_3 i14_4:Int) (l14_5:(List S_Track)) (l14_6:(List S_Packet)) (l14_7:(List S_Entry)):Option (Int×(List S_Packet)×S_l16R):=
 (m_Sj (S_l16R.mk l14_0 i14_1 i14_2 (S_Box.mk l14_5 l14_6) i14_3 i14_4 l14_7)).bind fun x14_0=>
 if (x14_0.2.err == 0) then
  if (decide (x14_0.1 < 1)) then
   m_Sk_19 p0 x0_0 x14_0 true
  else
   m_Sk_19 p0 x0_0 x14_0 (decide (x14_0.1 > 100))
 else
  m_Sk_19 p0 x0_0 x14_0 false
noncomputable def m_Sk_11 (p0:S_l16R) (x0_0:Int×S_l16R) (b11_0:Bool):Option (Int×(List S_Packet)×S_l16R):=
 if b11_0 then
  (m_Sg x0_0.2 6).bind fun x11_1=>
  m_Sk_14 p0 x0_0 x11_1.data x11_1.at_ x11_1.err x11_1.due x11_1.bytes x11_1.box.tracks x11_1.box.packets x11_1.index
 else
  m_Sk_14 p0 x0_0 x0_0.2.data x0_0.2.at_ x0_0.2.err x0_0.2.due x0_0.2.bytes x0_0.2.box.tracks x0_0.2.box.packets x0_0.2.index
noncomputable def m_Sk_0 (p1:Int) (p0:S_l16R):Option (Int×(List S_Packet)×S_l16R):=
 (m_Sj (S_l16R.mk p0.data (w64 (p0.at_+8)) p0.err p0.box p0.due p0.bytes p0.index)).bind fun x0_0=>
 if (x0_0.2.err == 0) then
  if (decide (p1≥0)) then
   m_Sk_11 p0 x0_0 (x0_0.1 != p1)
  else
   m_Sk_11 p0 x0_0 false
 else
  m_Sk_11 p0 x0_0 false
noncomputable def m_Sk (p0:S_l16R) (p1:Int):Option (Int×(List S_Packet)×S_l16R):=m_Sk_0 p1 p0
noncomputable def m_Sl_42 (x2_4:Int×(List S_Packet)×S_l16R) (i42_0:Int) (l42_1:(List S_Entry)):Option (((List Int)×Int×Int×Int×Int×(List S_Track)×(List S_Packet)×(List S_Entry))⊕(S_l16R)):=
 (ck (decide (x2_4.2.2.box.packets.length+x2_4.2.1.length≤2513169434916))).bind fun _=>
 some (.inl (x2_4.2.2.data,x2_4.2.2.at_,x2_4.2.2.err,i42_0,x2_4.2.2.bytes,x2_4.2.2.box.tracks,(x2_4.2.2.box.packets++x2_4.2.1),l42_1))
noncomputable def m_Sl_26 (x2_2:Bool×S_l16R) (x2_4:Int×(List S_Packet)×S_l16R) (i26_0 i26_1:Int) (l26_2:(List S_Entry)):Option ((Int×Int×(List S_Entry))⊕((Int×(List S_Entry)))):=
 if (decide (i26_0 < (x2_4.2.1.length:Int))) then
  (rd x2_4.2.1 i26_0).bind fun x26_1=>
  if x26_1.key then
   (ck (decide (l26_2.length+([(S_Entry.mk x26_1.track x26_1.time x2_2.2.at_)]:List S_Entry).length≤5864062014805))).bind fun _=>
   some (.inl ((w64 (i26_0+1)),i26_1,(l26_2++([(S_Entry.mk x26_1.track x26_1.time x2_2.2.at_)]:List S_Entry))))
  else
   some (.inl ((w64 (i26_0+1)),i26_1,l26_2))
 else
  some (.inr (i26_1,l26_2))
noncomputable def lp_Sl_26 (x2_2:Bool×S_l16R) (x2_4:Int×(List S_Packet)×S_l16R) (s:Int×Int×(List S_Entry)):Option ((Int×Int×(List S_Entry))⊕((Int×(List S_Entry)))):=m_Sl_26 x2_2 x2_4 s.1 s.2.1 s.2.2
noncomputable def m_Sl_2 (l2_0:(List Int)) (i2_1 i2_2 i2_3 i2_4:Int) (l2_5:(List S_Track)) (l2_6:(List S_Packet)) (l2_7:(List S_Entry)):Option (((List Int)×Int×Int×Int×Int×(List S_Track)×(List S_Packet)×(List S_Entry))⊕(S_l16R)):=
 if (i2_2 == 0) then
  (m_Se).bind fun x2_1=>
  (m_Si (S_l16R.mk l2_0 i2_1 i2_2 (S_Box.mk l2_5 l2_6) i2_3 i2_4 l2_7) x2_1).bind fun x2_2=>
  if x2_2.1 then
   (m_Sk x2_2.2 x2_2.2.due).bind fun x2_4=>
   if (x2_4.2.2.err != 0) then
    some (.inr x2_4.2.2)
   else
    (loopM (lp_Sl_26 x2_2 x2_4) (0,(w64 (x2_4.2.2.due+1)),x2_4.2.2.index)).bind fun e=>m_Sl_42 x2_4 e.1 e.2
  else
   some (.inr x2_2.2)
 else
  some (.inr (S_l16R.mk l2_0 i2_1 i2_2 (S_Box.mk l2_5 l2_6) i2_3 i2_4 l2_7))
noncomputable def lp_Sl_2 (s:(List Int)×Int×Int×Int×Int×(List S_Track)×(List S_Packet)×(List S_Entry)):Option (((List Int)×Int×Int×Int×Int×(List S_Track)×(List S_Packet)×(List S_Entry))⊕(S_l16R)):=m_Sl_2 s.1 s.2.1 s.2.2.1 s.2.2.2.1 s.2.2.2.2.1 s.2.2.2.2.2.1 s.2.2.2.2.2.2.1 s.2.2.2.2.2.2.2
noncomputable def m_Sl_0 (p0:S_l16R):Option (S_l16R):=
 (loopM (lp_Sl_2) (p0.data,p0.at_,p0.err,p0.due,p0.bytes,p0.box.tracks,p0.box.packets,p0.index)).bind fun e=>some e
noncomputable def m_Sl (p0:S_l16R):Option (S_l16R):=m_Sl_0 p0
noncomputable def m_Sc_0 (p0:(List Int)):Option ((List S_Entry)):=
 if (decide ((p0.length:Int) > 120000)) then
  some ([]:List S_Entry)
 else
  (m_Sh (S_l16R.mk p0 0 0 (S_Box.mk ([]:List S_Track) ([]:List S_Packet)) 0 0 ([]:List S_Entry))).bind fun x0_1=>
  if (x0_1.err != 0) then
   some ([]:List S_Entry)
  else
   (m_Sl x0_1).bind fun x0_3=>
   some x0_3.index
noncomputable def m_Sc (p0:(List Int)):Option ((List S_Entry)):=m_Sc_0 p0
noncomputable def m_Ii_0 (p1:Int) (p0:S_zreader):Option (S_zreader):=
 if (p0.err == 0) then
  some (S_zreader.mk p0.b p0.at_ p1)
 else
  some p0
noncomputable def m_Ii (p0:S_zreader) (p1:Int):Option (S_zreader):=m_Ii_0 p1 p0
noncomputable def m_Ie_33:Option (Int):=
 some 0
noncomputable def m_Ie_7 (p0:(List Int)) (p1:ByteArray) (i7_0:Int):Option ((Int)⊕((Int)⊕((Unit)))):=
 if (decide (i7_0 < (p1.size:Int))) then
  if (decide (i7_0≥(p0.length:Int))) then
   some (.inr (.inl 2))
  else
   (rd p0 i7_0).bind fun x7_2=>
   (sat p1 i7_0).bind fun x7_3=>
   if (x7_2 != x7_3) then
    some (.inr (.inl 4))
   else
    some (.inl (w64 (i7_0+1)))
 else
  some (.inr (.inr ()))
noncomputable def lp_Ie_7 (p0:(List Int)) (p1:ByteArray) (s:Int):Option ((Int)⊕((Int)⊕((Unit)))):=m_Ie_7 p0 p1 s
noncomputable def m_Ie_0 (p0:(List Int)) (p1:ByteArray):Option (Int):=
 (loopM (lp_Ie_7 p0 p1) 0).bind fun e=>match e with | .inl e=>some e | .inr e=>m_Ie_33
noncomputable def m_Ie (p0:(List Int)) (p1:ByteArray):Option (Int):=m_Ie_0 p0 p1
noncomputable def m_Ih_5 (p1:Int) (p0:S_zreader) (b5_0:Bool):Option ((List Int)×S_zreader):=
 if b5_0 then
  (m_Ii p0 2).bind fun x5_1=>
  some (([]:List Int),x5_1)
 else
  (ck (decide ((0:Int)≤(w64 (p0.at_+p1))∧(w64 (p0.at_+p1))≤(p0.b.length:Int)))).bind fun _=>
  (ck (decide ((0:Int)≤p0.at_∧p0.at_≤((Int.toNat (w64 (p0.at_+p1))):Int)))).bind fun _=>
  some (((p0.b.take (Int.toNat (w64 (p0.at_+p1)))).drop (Int.toNat p0.at_)),(S_zreader.mk p0.b (w64 (p0.at_+p1)) p0.err))
noncomputable def m_Ih_0 (p1:Int) (p0:S_zreader):Option ((List Int)×S_zreader):=
 if (p0.err != 0) then
  m_Ih_5 p1 p0 true
 else
  m_Ih_5 p1 p0 (decide (p1 > (w64 ((p0.b.length:Int) - p0.at_))))
noncomputable def m_Ih (p0:S_zreader) (p1:Int):Option ((List Int)×S_zreader):=m_Ih_0 p1 p0
noncomputable def m_Ig_0 (p0:S_zreader):Option (Int×S_zreader):=
 (m_Ih p0 1).bind fun x0_0=>
 if ((x0_0.1.length:Int) == 1) then
  (rd x0_0.1 0).bind fun x0_2=>
  some ((w64 x0_2),x0_0.2)
 else
  some (0,x0_0.2)
noncomputable def m_Ig (p0:S_zreader):Option (Int×S_zreader):=m_Ig_0 p0
noncomputable def m_Ib_49:Option (S_Number):=
 some (S_Number.mk false 0 0)
noncomputable def m_Ib_44 (p1 i17_1 i44_0:Int):Option ((Int×Int)⊕(((Unit))⊕(S_Number))):=
 some (.inr (.inr (S_Number.mk true i44_0 (w64 ((w64 (p1+i17_1))+1)))))
noncomputable def m_Ib_33 (p0:(List Int)) (p1 i17_0 i17_1 x17_2:Int):Option ((Int×Int)⊕(((Unit))⊕(S_Number))):=
 (ck (decide ((0:Int)≤(w64 (7*i17_1))))).bind fun _=>
 if (decide (x17_2 < 128)) then
  if (x17_2 == 0) then
   if (decide (i17_1 > 0)) then
    some (.inr (.inl ()))
   else
    m_Ib_44 p1 i17_1 (orI .u64 i17_0 (shlI .u64 (wr .u64 (andI .u8 x17_2 127)) (w64 (7*i17_1))))
  else
   m_Ib_44 p1 i17_1 (orI .u64 i17_0 (shlI .u64 (wr .u64 (andI .u8 x17_2 127)) (w64 (7*i17_1))))
 else
  some (.inl ((orI .u64 i17_0 (shlI .u64 (wr .u64 (andI .u8 x17_2 127)) (w64 (7*i17_1)))),(w64 (i17_1+1))))
noncomputable def m_Ib_17 (p0:(List Int)) (p1 i17_0 i17_1:Int):Option ((Int×Int)⊕(((Unit))⊕(S_Number))):=
 if (decide (i17_1 < 10)) then
  if (decide ((w64 (p1+i17_1)) < (p0.length:Int))) then
   (rd p0 (w64 (p1+i17_1))).bind fun x17_2=>
   if (i17_1 == 9) then
    if (decide (x17_2 > 1)) then
     some (.inr (.inl ()))
    else
     m_Ib_33 p0 p1 i17_0 i17_1 x17_2
   else
    m_Ib_33 p0 p1 i17_0 i17_1 x17_2
  else
   some (.inr (.inl ()))
 else
  some (.inr (.inl ()))
noncomputable def lp_Ib_17 (p0:(List Int)) (p1:Int) (s:Int×Int):Option ((Int×Int)⊕(((Unit))⊕(S_Number))):=m_Ib_17 p0 p1 s.1 s.2
noncomputable def m_Ib_5 (p0:(List Int)) (p1:Int) (b5_0:Bool):Option (S_Number):=
 if b5_0 then
  some (S_Number.mk false 0 0)
 else
  (loopM (lp_Ib_17 p0 p1) (0,0)).bind fun e=>match e with | .inl e=>m_Ib_49 | .inr e=>some e
noncomputable def m_Ib_0 (p0:(List Int)) (p1:Int):Option (S_Number):=
 if (decide (p1 < 0)) then
  m_Ib_5 p0 p1 true
 else
  m_Ib_5 p0 p1 (decide (p1 > (p0.length:Int)))
noncomputable def m_Ib (p0:(List Int)) (p1:Int):Option (S_Number):=m_Ib_0 p0 p1
noncomputable def m_Ik_41 (l41_0:(List Int)) (i41_1 i41_2:Int):Option (Int×S_zreader):=
 (m_Ii (S_zreader.mk l41_0 i41_1 i41_2) 2).bind fun x41_0=>
 some (0,x41_0)
noncomputable def m_Ik_35 (l35_0:(List Int)) (i35_1 i35_2:Int):Option (Int×S_zreader):=
 if (decide ((w64 (i35_1+10))≤(l35_0.length:Int))) then
  (m_Ii (S_zreader.mk l35_0 i35_1 i35_2) 5).bind fun x35_1=>
  m_Ik_41 x35_1.b x35_1.at_ x35_1.err
 else
  m_Ik_41 l35_0 i35_1 i35_2
noncomputable def m_Ik_21 (i21_0:Int) (l21_1:(List Int)) (i21_2 i21_3:Int):Option ((Int×(List Int)×Int×Int)⊕(((List Int)×Int×Int))):=
 if (decide (i21_0 < (l21_1.length:Int))) then
  if (decide (i21_0 < (w64 (i21_2+10)))) then
   (rd l21_1 i21_0).bind fun x21_2=>
   if (decide (x21_2 < 128)) then
    (m_Ii (S_zreader.mk l21_1 i21_2 i21_3) 5).bind fun x21_4=>
    some (.inl ((w64 (i21_0+1)),x21_4.b,x21_4.at_,x21_4.err))
   else
    some (.inl ((w64 (i21_0+1)),l21_1,i21_2,i21_3))
  else
   some (.inr (l21_1,i21_2,i21_3))
 else
  some (.inr (l21_1,i21_2,i21_3))
noncomputable def lp_Ik_21 (s:Int×(List Int)×Int×Int):Option ((Int×(List Int)×Int×Int)⊕(((List Int)×Int×Int))):=m_Ik_21 s.1 s.2.1 s.2.2.1 s.2.2.2
noncomputable def m_Ik_0 (p0:S_zreader):Option (Int×S_zreader):=
 if (p0.err != 0) then
  some (0,p0)
 else
  (m_Ib p0.b p0.at_).bind fun x0_1=>
  if x0_1.ok then
   if (decide (x0_1.value > 4611686018427387904)) then
    (m_Ii p0 5).bind fun x0_4=>
    some (0,x0_4)
   else
    some ((w64 x0_1.value),(S_zreader.mk p0.b x0_1.next p0.err))
  else
   (loopM (lp_Ik_21) (p0.at_,p0.b,p0.at_,p0.err)).bind fun e=>m_Ik_35 e.1 e.2.1 e.2.2
noncomputable def m_Ik (p0:S_zreader):Option (Int×S_zreader):=m_Ik_0 p0
noncomputable def m_Io_33:Option (Bool):=
 some true
noncomputable def m_Io_15 (p0:S_Track) (i15_0:Int):Option ((Int)⊕((Bool)⊕((Unit)))):=
 if (decide (i15_0 < (p0.name.size:Int))) then
  (sat p0.name i15_0).bind fun x15_1=>
  if (decide (x15_1 < 32)) then
   some (.inr (.inl false))
  else
   if (decide (x15_1 > 126)) then
    some (.inr (.inl false))
   else
    some (.inl (w64 (i15_0+1)))
 else
  some (.inr (.inr ()))
noncomputable def lp_Io_15 (p0:S_Track) (s:Int):Option ((Int)⊕((Bool)⊕((Unit)))):=m_Io_15 p0 s
noncomputable def m_Io_0 (p0:S_Track):Option (Bool):=
 if (decide (p0.kind < 1)) then
  some false
 else
  if (decide (p0.kind > 6)) then
   some false
  else
   if (decide (p0.scale < 1)) then
    some false
   else
    if (decide (p0.scale > 1000000)) then
     some false
    else
     if (decide ((p0.name.size:Int) > 40)) then
      some false
     else
      (loopM (lp_Io_15 p0) 0).bind fun e=>match e with | .inl e=>some e | .inr e=>m_Io_33
noncomputable def m_Io (p0:S_Track):Option (Bool):=m_Io_0 p0
noncomputable def m_Id_0 (p0:(List Int)):Option (Int):=
 (rd p0 0).bind fun x0_0=>
 (rd p0 1).bind fun x0_1=>
 (rd p0 2).bind fun x0_2=>
 (rd p0 3).bind fun x0_3=>
 some (orI .i64 (orI .i64 (orI .i64 (shlI .i64 (w64 x0_0) 24) (shlI .i64 (w64 x0_1) 16)) (shlI .i64 (w64 x0_2) 8)) (w64 x0_3))
noncomputable def m_Id (p0:(List Int)):Option (Int):=m_Id_0 p0
noncomputable def m_Ia_35 (p0:(List Int)) (i9_1 i35_0:Int):Option ((Int×Int)⊕((Int))):=
 some (.inl (i35_0,(w64 (i9_1+1))))
noncomputable def m_Ia_25 (p0:(List Int)) (i9_1 i25_0 i25_1:Int):Option ((Int×Int)⊕((Int))):=
 if (decide (i25_1 < 8)) then
  some (.inl ((xorI .u32 (shrI .u32 i25_0 1) (wr .u32 (3988292384*(andI .u32 i25_0 1)))),(w64 (i25_1+1))))
 else
  some (.inr i25_0)
noncomputable def lp_Ia_25 (p0:(List Int)) (i9_1:Int) (s:Int×Int):Option ((Int×Int)⊕((Int))):=m_Ia_25 p0 i9_1 s.1 s.2
noncomputable def m_Ia_36 (i36_0:Int):Option (Int):=
 some (notI .u32 i36_0)
noncomputable def m_Ia_9 (p0:(List Int)) (i9_0 i9_1:Int):Option ((Int×Int)⊕((Int))):=
 if (decide (i9_1 < (p0.length:Int))) then
  (rd p0 i9_1).bind fun x9_1=>
  (loopM (lp_Ia_25 p0 i9_1) ((xorI .u32 i9_0 (wr .u32 x9_1)),0)).bind fun e=>m_Ia_35 p0 i9_1 e
 else
  some (.inr i9_0)
noncomputable def lp_Ia_9 (p0:(List Int)) (s:Int×Int):Option ((Int×Int)⊕((Int))):=m_Ia_9 p0 s.1 s.2
noncomputable def m_Ia_0 (p0:(List Int)):Option (Int):=
 (loopM (lp_Ia_9 p0) (4294967295,0)).bind fun e=>m_Ia_36 e
noncomputable def m_Ia (p0:(List Int)):Option (Int):=m_Ia_0 p0
noncomputable def m_Im_6 (x0_0:(List Int)×S_zreader) (b6_0:Bool):Option (S_zreader):=
 if b6_0 then
  (m_Ii x0_0.2 3).bind fun x6_1=>
  some x6_1
 else
  some x0_0.2
noncomputable def m_Im_0 (p1:Int) (p0:S_zreader):Option (S_zreader):=
 (m_Ih p0 4).bind fun x0_0=>
 if (x0_0.2.err == 0) then
  (m_Id x0_0.1).bind fun x0_2=>
  (ck (decide ((0:Int)≤p0.at_∧p0.at_≤(x0_0.2.b.length:Int)))).bind fun _=>
  (ck (decide ((0:Int)≤p1∧p1≤((Int.toNat p0.at_):Int)))).bind fun _=>
  (m_Ia ((x0_0.2.b.take (Int.toNat p0.at_)).drop (Int.toNat p1))).bind fun x0_5=>
  m_Im_6 x0_0 (x0_2 != (w64 x0_5))
 else
  m_Im_6 x0_0 false
noncomputable def m_Im (p0:S_zreader) (p1:Int):Option (S_zreader):=m_Im_0 p1 p0
noncomputable def m_Ij_57 (x0_4:Int×S_zreader) (i31_0:Int) (x31_2:Int×S_zreader) (x31_3:Int×S_zreader) (x31_6:ByteArray) (l31_4:(List S_Track)) (l57_0:(List Int)) (i57_1 i57_2:Int):Option ((Int×(List Int)×Int×Int×(List S_Track))⊕((((List S_Track)×S_zreader))⊕(((List Int)×Int×Int×(List S_Track))))):=
 (ck (decide (l31_4.length+([(S_Track.mk x31_2.1 x31_3.1 x31_6)]:List S_Track).length≤4398046511104))).bind fun _=>
 some (.inl ((w64 (i31_0+1)),l57_0,i57_1,i57_2,(l31_4++([(S_Track.mk x31_2.1 x31_3.1 x31_6)]:List S_Track))))
noncomputable def m_Ij_59 (l59_0:(List Int)) (i59_1 i59_2:Int) (l59_3:(List S_Track)):Option ((List S_Track)×S_zreader):=
 (m_Im (S_zreader.mk l59_0 i59_1 i59_2) 0).bind fun x59_0=>
 some (l59_3,x59_0)
noncomputable def m_Ij_31 (x0_4:Int×S_zreader) (i31_0:Int) (l31_1:(List Int)) (i31_2 i31_3:Int) (l31_4:(List S_Track)):Option ((Int×(List Int)×Int×Int×(List S_Track))⊕((((List S_Track)×S_zreader))⊕(((List Int)×Int×Int×(List S_Track))))):=
 if (decide (i31_0 < x0_4.1)) then
  if (i31_3 != 0) then
   some (.inr (.inl (([]:List S_Track),(S_zreader.mk l31_1 i31_2 i31_3))))
  else
   (m_Ig (S_zreader.mk l31_1 i31_2 i31_3)).bind fun x31_2=>
   (m_Ik x31_2.2).bind fun x31_3=>
   (m_Ig x31_3.2).bind fun x31_4=>
   (m_Ih x31_4.2 x31_4.1).bind fun x31_5=>
   (bstr x31_5.1).bind fun x31_6=>
   (m_Io (S_Track.mk x31_2.1 x31_3.1 x31_6)).bind fun x31_7=>
   if x31_7 then
    m_Ij_57 x0_4 i31_0 x31_2 x31_3 x31_6 l31_4 x31_5.2.b x31_5.2.at_ x31_5.2.err
   else
    (m_Ii x31_5.2 5).bind fun x31_9=>
    m_Ij_57 x0_4 i31_0 x31_2 x31_3 x31_6 l31_4 x31_9.b x31_9.at_ x31_9.err
 else
  some (.inr (.inr (l31_1,i31_2,i31_3,l31_4)))
noncomputable def lp_Ij_31 (x0_4:Int×S_zreader) (s:Int×(List Int)×Int×Int×(List S_Track)):Option ((Int×(List Int)×Int×Int×(List S_Track))⊕((((List S_Track)×S_zreader))⊕(((List Int)×Int×Int×(List S_Track))))):=m_Ij_31 x0_4 s.1 s.2.1 s.2.2.1 s.2.2.2.1 s.2.2.2.2
noncomputable def m_Ij_24 (x0_4:Int×S_zreader) (l24_0:(List Int)) (i24_1 i24_2:Int):Option ((List S_Track)×S_zreader):=
 (loopM (lp_Ij_31 x0_4) (0,l24_0,i24_1,i24_2,([]:List S_Track))).bind fun e=>match e with | .inl e=>some e | .inr e=>m_Ij_59 e.1 e.2.1 e.2.2.1 e.2.2.2
noncomputable def m_Ij_21 (x0_4:Int×S_zreader) (b21_0:Bool):Option ((List S_Track)×S_zreader):=
 if b21_0 then
  (m_Ii x0_4.2 5).bind fun x21_1=>
  m_Ij_24 x0_4 x21_1.b x21_1.at_ x21_1.err
 else
  m_Ij_24 x0_4 x0_4.2.b x0_4.2.at_ x0_4.2.err
noncomputable def m_Ij_0 (p0:S_zreader):Option ((List S_Track)×S_zreader):=
 if (decide ((p0.b.length:Int) > 120000)) then
  (m_Ii p0 1).bind fun x0_1=>
  some (([]:List S_Track),x0_1)
 else
  (m_Ie p0.b (ByteArray.mk #[66,79,88,49])).bind fun x0_1=>
  (m_Ii p0 x0_1).bind fun x0_2=>
  (m_Ih x0_2 4).bind fun x0_3=>
  (m_Ig x0_3.2).bind fun x0_4=>
  if (decide (x0_4.1 < 1)) then
   m_Ij_21 x0_4 true
  else
   m_Ij_21 x0_4 (decide (x0_4.1 > 8))
noncomputable def m_Ij (p0:S_zreader):Option ((List S_Track)×S_zreader):=m_Ij_0 p0
noncomputable def m_In_0 (p0:Int):Option (Bool):=
 if (decide (p0≥0)) then
  some (decide (p0≤1000000000))
 else
  some false
noncomputable def m_In (p0:Int):Option (Bool):=m_In_0 p0
noncomputable def m_Il_65 (p1 p2 i62_0 i62_1:Int) (x0_0:Int×S_zreader) (x27_6:Int×S_zreader) (x10_0:Int×S_zreader) (i27_2:Int) (x27_2:Int×S_zreader) (x27_3:Int×S_zreader) (x27_4:Int×S_zreader) (b62_3:Bool) (l27_6:(List S_Packet)) (l27_7 l65_0:(List Int)) (i65_1 i65_2:Int):Option ((Int×Int×Int×(List Int)×Int×Int×(List S_Packet)×(List Int))⊕(((Int×(List S_Packet)×S_zreader))⊕(((List Int)×Int×Int×(List S_Packet)×(List Int))))):=
 (ck (decide (l27_6.length+([(S_Packet.mk x27_2.1 x27_3.1 x27_4.1 b62_3 ([]:List Int))]:List S_Packet).length≤2513169434916))).bind fun _=>
 (ck (decide (l27_7.length+([x27_6.1]:List Int).length≤17592186044416))).bind fun _=>
 some (.inl (i62_0,i62_1,(w64 (i27_2+1)),l65_0,i65_1,i65_2,(l27_6++([(S_Packet.mk x27_2.1 x27_3.1 x27_4.1 b62_3 ([]:List Int))]:List S_Packet)),(l27_7++([x27_6.1]:List Int))))
noncomputable def m_Il_62 (p1 p2:Int) (x0_0:Int×S_zreader) (x27_6:Int×S_zreader) (x10_0:Int×S_zreader) (i27_2:Int) (l53_0:(List Int)) (i53_1 i53_2:Int) (x27_2:Int×S_zreader) (x27_3:Int×S_zreader) (x27_4:Int×S_zreader) (l27_6:(List S_Packet)) (l27_7:(List Int)) (i62_0 i62_1:Int) (b62_2 b62_3:Bool):Option ((Int×Int×Int×(List Int)×Int×Int×(List S_Packet)×(List Int))⊕(((Int×(List S_Packet)×S_zreader))⊕(((List Int)×Int×Int×(List S_Packet)×(List Int))))):=
 if b62_2 then
  (m_Ii (S_zreader.mk l53_0 i53_1 i53_2) 7).bind fun x62_1=>
  m_Il_65 p1 p2 i62_0 i62_1 x0_0 x27_6 x10_0 i27_2 x27_2 x27_3 x27_4 b62_3 l27_6 l27_7 x62_1.b x62_1.at_ x62_1.err
 else
  m_Il_65 p1 p2 i62_0 i62_1 x0_0 x27_6 x10_0 i27_2 x27_2 x27_3 x27_4 b62_3 l27_6 l27_7 l53_0 i53_1 i53_2
noncomputable def m_Il_53 (p1 p2 i27_0 i27_1:Int) (x0_0:Int×S_zreader) (x27_5:Int×S_zreader) (x27_6:Int×S_zreader) (x10_0:Int×S_zreader) (i27_2:Int) (x27_2:Int×S_zreader) (x27_3:Int×S_zreader) (x27_4:Int×S_zreader) (l27_6:(List S_Packet)) (l27_7 l53_0:(List Int)) (i53_1 i53_2:Int):Option ((Int×Int×Int×(List Int)×Int×Int×(List S_Packet)×(List Int))⊕(((Int×(List S_Packet)×S_zreader))⊕(((List Int)×Int×Int×(List S_Packet)×(List Int))))):=
 if (decide ((w64 (i27_0+1)) > 400)) then
  m_Il_62 p1 p2 x0_0 x27_6 x10_0 i27_2 l53_0 i53_1 i53_2 x27_2 x27_3 x27_4 l27_6 l27_7 (w64 (i27_0+1)) (w64 (i27_1 - (mnI x27_6.1 1099511627776))) true (x27_5.1 == 1)
 else
  m_Il_62 p1 p2 x0_0 x27_6 x10_0 i27_2 l53_0 i53_1 i53_2 x27_2 x27_3 x27_4 l27_6 l27_7 (w64 (i27_0+1)) (w64 (i27_1 - (mnI x27_6.1 1099511627776))) (decide ((w64 (i27_1 - (mnI x27_6.1 1099511627776))) < 0)) (x27_5.1 == 1)
noncomputable def m_Il_50 (p1 p2 i27_0 i27_1:Int) (x0_0:Int×S_zreader) (x27_5:Int×S_zreader) (x27_6:Int×S_zreader) (x10_0:Int×S_zreader) (i27_2:Int) (x27_2:Int×S_zreader) (x27_3:Int×S_zreader) (x27_4:Int×S_zreader) (l27_6:(List S_Packet)) (l27_7:(List Int)) (b50_0:Bool):Option ((Int×Int×Int×(List Int)×Int×Int×(List S_Packet)×(List Int))⊕(((Int×(List S_Packet)×S_zreader))⊕(((List Int)×Int×Int×(List S_Packet)×(List Int))))):=
 if b50_0 then
  (m_Ii x27_6.2 5).bind fun x50_1=>
  m_Il_53 p1 p2 i27_0 i27_1 x0_0 x27_5 x27_6 x10_0 i27_2 x27_2 x27_3 x27_4 l27_6 l27_7 x50_1.b x50_1.at_ x50_1.err
 else
  m_Il_53 p1 p2 i27_0 i27_1 x0_0 x27_5 x27_6 x10_0 i27_2 x27_2 x27_3 x27_4 l27_6 l27_7 x27_6.2.b x27_6.2.at_ x27_6.2.err
noncomputable def m_Il_86 (p1:Int) (x0_0:Int×S_zreader) (l86_0:(List Int)) (i86_1 i86_2:Int) (l86_3:(List S_Packet)):Option (Int×(List S_Packet)×S_zreader):=
 (m_Im (S_zreader.mk l86_0 i86_1 i86_2) p1).bind fun x86_0=>
 some (x0_0.1,l86_3,x86_0)
noncomputable def m_Il_74 (p1:Int) (x0_0:Int×S_zreader) (l69_3:(List S_Packet)) (l69_4:(List Int)) (i74_0:Int) (l74_1:(List Int)) (i74_2 i74_3:Int) (l74_4:(List S_Packet)):Option ((Int×(List Int)×Int×Int×(List S_Packet))⊕(((List Int)×Int×Int×(List S_Packet)))):=
 if (decide (i74_0 < (l69_3.length:Int))) then
  (rd l69_4 i74_0).bind fun x74_1=>
  (m_Ih (S_zreader.mk l74_1 i74_2 i74_3) x74_1).bind fun x74_2=>
  (ck (decide (([]:List Int).length+x74_2.1.length≤140737488355328))).bind fun _=>
  (rd l74_4 i74_0).bind fun x74_4=>
  some (.inl ((w64 (i74_0+1)),x74_2.2.b,x74_2.2.at_,x74_2.2.err,(l74_4.set (0+Int.toNat i74_0) (S_Packet.mk x74_4.track x74_4.time x74_4.span x74_4.key (([]:List Int)++x74_2.1)))))
 else
  some (.inr (l74_1,i74_2,i74_3,l74_4))
noncomputable def lp_Il_74 (p1:Int) (x0_0:Int×S_zreader) (l69_3:(List S_Packet)) (l69_4:(List Int)) (s:Int×(List Int)×Int×Int×(List S_Packet)):Option ((Int×(List Int)×Int×Int×(List S_Packet))⊕(((List Int)×Int×Int×(List S_Packet)))):=m_Il_74 p1 x0_0 l69_3 l69_4 s.1 s.2.1 s.2.2.1 s.2.2.2.1 s.2.2.2.2
noncomputable def m_Il_69 (p1:Int) (x0_0:Int×S_zreader) (l69_0:(List Int)) (i69_1 i69_2:Int) (l69_3:(List S_Packet)) (l69_4:(List Int)):Option (Int×(List S_Packet)×S_zreader):=
 (loopM (lp_Il_74 p1 x0_0 l69_3 l69_4) (0,l69_0,i69_1,i69_2,l69_3)).bind fun e=>m_Il_86 p1 x0_0 e.1 e.2.1 e.2.2.1 e.2.2.2
noncomputable def m_Il_27 (p1 p2:Int) (x0_0:Int×S_zreader) (x10_0:Int×S_zreader) (i27_0 i27_1 i27_2:Int) (l27_3:(List Int)) (i27_4 i27_5:Int) (l27_6:(List S_Packet)) (l27_7:(List Int)):Option ((Int×Int×Int×(List Int)×Int×Int×(List S_Packet)×(List Int))⊕(((Int×(List S_Packet)×S_zreader))⊕(((List Int)×Int×Int×(List S_Packet)×(List Int))))):=
 if (decide (i27_2 < x10_0.1)) then
  if (i27_5 != 0) then
   some (.inr (.inl (0,([]:List S_Packet),(S_zreader.mk l27_3 i27_4 i27_5))))
  else
   (m_Ik (S_zreader.mk l27_3 i27_4 i27_5)).bind fun x27_2=>
   (m_Ik x27_2.2).bind fun x27_3=>
   (m_Ik x27_3.2).bind fun x27_4=>
   (m_Ik x27_4.2).bind fun x27_5=>
   (m_Ik x27_5.2).bind fun x27_6=>
   if (decide (x27_2.1≥p2)) then
    m_Il_50 p1 p2 i27_0 i27_1 x0_0 x27_5 x27_6 x10_0 i27_2 x27_2 x27_3 x27_4 l27_6 l27_7 true
   else
    (m_In x27_3.1).bind fun x27_8=>
    if x27_8 then
     (m_In x27_4.1).bind fun x27_10=>
     if x27_10 then
      m_Il_50 p1 p2 i27_0 i27_1 x0_0 x27_5 x27_6 x10_0 i27_2 x27_2 x27_3 x27_4 l27_6 l27_7 (decide (x27_5.1 > 1))
     else
      m_Il_50 p1 p2 i27_0 i27_1 x0_0 x27_5 x27_6 x10_0 i27_2 x27_2 x27_3 x27_4 l27_6 l27_7 true
    else
     m_Il_50 p1 p2 i27_0 i27_1 x0_0 x27_5 x27_6 x10_0 i27_2 x27_2 x27_3 x27_4 l27_6 l27_7 true
 else
  some (.inr (.inr (l27_3,i27_4,i27_5,l27_6,l27_7)))
noncomputable def lp_Il_27 (p1 p2:Int) (x0_0:Int×S_zreader) (x10_0:Int×S_zreader) (s:Int×Int×Int×(List Int)×Int×Int×(List S_Packet)×(List Int)):Option ((Int×Int×Int×(List Int)×Int×Int×(List S_Packet)×(List Int))⊕(((Int×(List S_Packet)×S_zreader))⊕(((List Int)×Int×Int×(List S_Packet)×(List Int))))):=m_Il_27 p1 p2 x0_0 x10_0 s.1 s.2.1 s.2.2.1 s.2.2.2.1 s.2.2.2.2.1 s.2.2.2.2.2.1 s.2.2.2.2.2.2.1 s.2.2.2.2.2.2.2
noncomputable def m_Il_18 (p1 p2 p4 p5:Int) (x0_0:Int×S_zreader) (x10_0:Int×S_zreader) (l18_0:(List Int)) (i18_1 i18_2:Int):Option (Int×(List S_Packet)×S_zreader):=
 (loopM (lp_Il_27 p1 p2 x0_0 x10_0) (p4,p5,0,l18_0,i18_1,i18_2,([]:List S_Packet),([]:List Int))).bind fun e=>match e with | .inl e=>some e | .inr e=>m_Il_69 p1 x0_0 e.1 e.2.1 e.2.2.1 e.2.2.2.1 e.2.2.2.2
noncomputable def m_Il_15 (p1 p2 p4 p5:Int) (x0_0:Int×S_zreader) (x10_0:Int×S_zreader) (b15_0:Bool):Option (Int×(List S_Packet)×S_zreader):=
 if b15_0 then
  (m_Ii x10_0.2 5).bind fun x15_1=>
  m_Il_18 p1 p2 p4 p5 x0_0 x10_0 x15_1.b x15_1.at_ x15_1.err
 else
  m_Il_18 p1 p2 p4 p5 x0_0 x10_0 x10_0.2.b x10_0.2.at_ x10_0.2.err
noncomputable def m_Il_10 (p1 p2 p4 p5:Int) (x0_0:Int×S_zreader) (l10_0:(List Int)) (i10_1 i10_2:Int):Option (Int×(List S_Packet)×S_zreader):=
 (m_Ik (S_zreader.mk l10_0 i10_1 i10_2)).bind fun x10_0=>
 if (decide (x10_0.1 < 1)) then
  m_Il_15 p1 p2 p4 p5 x0_0 x10_0 true
 else
  m_Il_15 p1 p2 p4 p5 x0_0 x10_0 (decide (x10_0.1 > 100))
noncomputable def m_Il_7 (p1 p2 p4 p5:Int) (x0_0:Int×S_zreader) (b7_0:Bool):Option (Int×(List S_Packet)×S_zreader):=
 if b7_0 then
  (m_Ii x0_0.2 6).bind fun x7_1=>
  m_Il_10 p1 p2 p4 p5 x0_0 x7_1.b x7_1.at_ x7_1.err
 else
  m_Il_10 p1 p2 p4 p5 x0_0 x0_0.2.b x0_0.2.at_ x0_0.2.err
noncomputable def m_Il_0 (p1 p2 p3 p4 p5:Int) (p0:S_zreader):Option (Int×(List S_Packet)×S_zreader):=
 (m_Ik p0).bind fun x0_0=>
 if (decide (p3≥0)) then
  m_Il_7 p1 p2 p4 p5 x0_0 (x0_0.1 != p3)
 else
  m_Il_7 p1 p2 p4 p5 x0_0 false
noncomputable def m_Il (p0:S_zreader) (p1 p2 p3 p4 p5:Int):Option (Int×(List S_Packet)×S_zreader):=m_Il_0 p1 p2 p3 p4 p5 p0
noncomputable def m_If_72 (x0_0:(List S_Track)×S_zreader) (l72_0:(List Int)) (i72_1 i72_2:Int) (l72_3:(List S_Entry)) (l72_4:(List S_Packet)):Option (S_Box×(List S_Entry)×S_zreader):=
 some ((S_Box.mk x0_0.1 l72_4),l72_3,(S_zreader.mk l72_0 i72_1 i72_2))
noncomputable def m_If_70 (i13_1:Int) (x39_0:Int×(List S_Packet)×S_zreader) (x0_0:(List S_Track)×S_zreader) (l13_6:(List S_Packet)) (i70_0:Int) (l70_1:(List S_Entry)):Option ((Int×Int×(List Int)×Int×Int×(List S_Entry)×(List S_Packet))⊕((((List Int)×Int×Int×(List S_Entry)×(List S_Packet)))⊕((S_Box×(List S_Entry)×S_zreader)))):=
 (ck (decide (l13_6.length+x39_0.2.1.length≤2513169434916))).bind fun _=>
 some (.inl (i70_0,(w64 (i13_1+1)),x39_0.2.2.b,x39_0.2.2.at_,x39_0.2.2.err,l70_1,(l13_6++x39_0.2.1)))
noncomputable def m_If_52 (i13_1 i13_3:Int) (x39_0:Int×(List S_Packet)×S_zreader) (x0_0:(List S_Track)×S_zreader) (l13_6:(List S_Packet)) (i52_0 i52_1:Int) (l52_2:(List S_Entry)):Option ((Int×Int×(List S_Entry))⊕((Int×(List S_Entry)))):=
 if (decide (i52_1 < (x39_0.2.1.length:Int))) then
  (rd x39_0.2.1 i52_1).bind fun x52_1=>
  if x52_1.key then
   (ck (decide (l52_2.length+([(S_Entry.mk x52_1.track x52_1.time i13_3)]:List S_Entry).length≤5864062014805))).bind fun _=>
   some (.inl ((w64 (i52_0 - (x52_1.data.length:Int))),(w64 (i52_1+1)),(l52_2++([(S_Entry.mk x52_1.track x52_1.time i13_3)]:List S_Entry))))
  else
   some (.inl ((w64 (i52_0 - (x52_1.data.length:Int))),(w64 (i52_1+1)),l52_2))
 else
  some (.inr (i52_0,l52_2))
noncomputable def lp_If_52 (i13_1 i13_3:Int) (x39_0:Int×(List S_Packet)×S_zreader) (x0_0:(List S_Track)×S_zreader) (l13_6:(List S_Packet)) (s:Int×Int×(List S_Entry)):Option ((Int×Int×(List S_Entry))⊕((Int×(List S_Entry)))):=m_If_52 i13_1 i13_3 x39_0 x0_0 l13_6 s.1 s.2.1 s.2.2
noncomputable def m_If_39 (i13_0 i13_1 i13_3:Int) (l13_5:(List S_Entry)) (x0_0:(List S_Track)×S_zreader) (l13_6:(List S_Packet)) (l39_0:(List Int)) (i39_1 i39_2:Int):Option ((Int×Int×(List Int)×Int×Int×(List S_Entry)×(List S_Packet))⊕((((List Int)×Int×Int×(List S_Entry)×(List S_Packet)))⊕((S_Box×(List S_Entry)×S_zreader)))):=
 (m_Il (S_zreader.mk l39_0 i39_1 i39_2) i13_3 (x0_0.1.length:Int) i13_1 (l13_6.length:Int) i13_0).bind fun x39_0=>
 if (x39_0.2.2.err != 0) then
  some (.inr (.inl (x39_0.2.2.b,x39_0.2.2.at_,x39_0.2.2.err,l13_5,l13_6)))
 else
  (loopM (lp_If_52 i13_1 i13_3 x39_0 x0_0 l13_6) (i13_0,0,l13_5)).bind fun e=>m_If_70 i13_1 x39_0 x0_0 l13_6 e.1 e.2
noncomputable def m_If_28 (i13_0 i13_1 i13_3:Int) (x13_2:ByteArray) (x13_1:(List Int)×S_zreader) (l13_5:(List S_Entry)) (x0_0:(List S_Track)×S_zreader) (l13_6:(List S_Packet)) (b28_0:Bool):Option ((Int×Int×(List Int)×Int×Int×(List S_Entry)×(List S_Packet))⊕((((List Int)×Int×Int×(List S_Entry)×(List S_Packet)))⊕((S_Box×(List S_Entry)×S_zreader)))):=
 if b28_0 then
  some (.inr (.inr ((S_Box.mk x0_0.1 l13_6),l13_5,x13_1.2)))
 else
  if (x13_2.toList == (ByteArray.mk #[27,80,73,69,67,69,10,0]).toList) then
   m_If_39 i13_0 i13_1 i13_3 l13_5 x0_0 l13_6 x13_1.2.b x13_1.2.at_ x13_1.2.err
  else
   (m_Ii x13_1.2 4).bind fun x28_2=>
   m_If_39 i13_0 i13_1 i13_3 l13_5 x0_0 l13_6 x28_2.b x28_2.at_ x28_2.err
noncomputable def m_If_13 (x0_0:(List S_Track)×S_zreader) (i13_0 i13_1:Int) (l13_2:(List Int)) (i13_3 i13_4:Int) (l13_5:(List S_Entry)) (l13_6:(List S_Packet)):Option ((Int×Int×(List Int)×Int×Int×(List S_Entry)×(List S_Packet))⊕((((List Int)×Int×Int×(List S_Entry)×(List S_Packet)))⊕((S_Box×(List S_Entry)×S_zreader)))):=
 if (i13_4 == 0) then
  (m_Ih (S_zreader.mk l13_2 i13_3 i13_4) 8).bind fun x13_1=>
  (bstr x13_1.1).bind fun x13_2=>
  if (x13_1.2.err == 0) then
   m_If_28 i13_0 i13_1 i13_3 x13_2 x13_1 l13_5 x0_0 l13_6 (x13_2.toList == (ByteArray.mk #[27,73,78,68,69,88,10,0]).toList)
  else
   m_If_28 i13_0 i13_1 i13_3 x13_2 x13_1 l13_5 x0_0 l13_6 false
 else
  some (.inr (.inl (l13_2,i13_3,i13_4,l13_5,l13_6)))
noncomputable def lp_If_13 (x0_0:(List S_Track)×S_zreader) (s:Int×Int×(List Int)×Int×Int×(List S_Entry)×(List S_Packet)):Option ((Int×Int×(List Int)×Int×Int×(List S_Entry)×(List S_Packet))⊕((((List Int)×Int×Int×(List S_Entry)×(List S_Packet)))⊕((S_Box×(List S_Entry)×S_zreader)))):=m_If_13 x0_0 s.1 s.2.1 s.2.2.1 s.2.2.2.1 s.2.2.2.2.1 s.2.2.2.2.2.1 s.2.2.2.2.2.2
noncomputable def m_If_0 (p0:S_zreader):Option (S_Box×(List S_Entry)×S_zreader):=
 (m_Ij p0).bind fun x0_0=>
 (loopM (lp_If_13 x0_0) (60000,0,x0_0.2.b,x0_0.2.at_,x0_0.2.err,([]:List S_Entry),([]:List S_Packet))).bind fun e=>match e with | .inl e=>m_If_72 x0_0 e.1 e.2.1 e.2.2.1 e.2.2.2.1 e.2.2.2.2 | .inr e=>some e
noncomputable def m_If (p0:S_zreader):Option (S_Box×(List S_Entry)×S_zreader):=m_If_0 p0
noncomputable def m_Ic_0 (p0:(List Int)):Option ((List S_Entry)):=
 (m_If (S_zreader.mk p0 0 0)).bind fun x0_0=>
 some x0_0.2.1
noncomputable def m_Ic (p0:(List Int)):Option ((List S_Entry)):=m_Ic_0 p0
noncomputable def m_Lb_0 (p0 p1:S_Entry):Option (Bool):=
 if (p0.track != p1.track) then
  some false
 else
  if (p0.time != p1.time) then
   some false
  else
   if (p0.at_ != p1.at_) then
    some false
   else
    some true
noncomputable def m_Lb (p0 p1:S_Entry):Option (Bool):=m_Lb_0 p0 p1
noncomputable def m_Lc_31:Option (Bool):=
 some true
noncomputable def m_Lc_15 (p0 p1:(List S_Entry)) (i15_0:Int):Option ((Int)⊕((Bool)⊕((Unit)))):=
 if (decide (i15_0 < (p0.length:Int))) then
  (rd p0 i15_0).bind fun x15_1=>
  (rd p1 i15_0).bind fun x15_2=>
  (m_Lb x15_1 x15_2).bind fun x15_3=>
  if x15_3 then
   some (.inl (w64 (i15_0+1)))
  else
   some (.inr (.inl false))
 else
  some (.inr (.inr ()))
noncomputable def lp_Lc_15 (p0 p1:(List S_Entry)) (s:Int):Option ((Int)⊕((Bool)⊕((Unit)))):=m_Lc_15 p0 p1 s
noncomputable def m_Lc_0 (p0 p1:(List S_Entry)):Option (Bool):=
 if ((p0.length:Int) != (p1.length:Int)) then
  some false
 else
  (loopM (lp_Lc_15 p0 p1) 0).bind fun e=>match e with | .inl e=>some e | .inr e=>m_Lc_31
noncomputable def m_Lc (p0 p1:(List S_Entry)):Option (Bool):=m_Lc_0 p0 p1
noncomputable def m_La_31:Option (Bool):=
 some true
noncomputable def m_La_15 (p0 p1:(List Int)) (i15_0:Int):Option ((Int)⊕((Bool)⊕((Unit)))):=
 if (decide (i15_0 < (p0.length:Int))) then
  (rd p0 i15_0).bind fun x15_1=>
  (rd p1 i15_0).bind fun x15_2=>
  if (x15_1 != x15_2) then
   some (.inr (.inl false))
  else
   some (.inl (w64 (i15_0+1)))
 else
  some (.inr (.inr ()))
noncomputable def lp_La_15 (p0 p1:(List Int)) (s:Int):Option ((Int)⊕((Bool)⊕((Unit)))):=m_La_15 p0 p1 s
noncomputable def m_La_0 (p0 p1:(List Int)):Option (Bool):=
 if ((p0.length:Int) != (p1.length:Int)) then
  some false
 else
  (loopM (lp_La_15 p0 p1) 0).bind fun e=>match e with | .inl e=>some e | .inr e=>m_La_31
noncomputable def m_La (p0 p1:(List Int)):Option (Bool):=m_La_0 p0 p1
noncomputable def m_Le_19 (i19_0:Int) (l19_1:(List Int)):Option (Int×(List Int)):=
 some (i19_0,l19_1)
noncomputable def m_Le_7 (i7_0 i7_1:Int) (l7_2:(List Int)):Option ((Int×Int×(List Int))⊕((Int×(List Int)))):=
 if (decide (i7_1 < (l7_2.length:Int))) then
  (rd l7_2 i7_1).bind fun _=>
  some (.inl ((w64 (i7_0+1)),(w64 (i7_1+1)),(l7_2.set (0+Int.toNat i7_1) (wr .u8 i7_0))))
 else
  some (.inr (i7_0,l7_2))
noncomputable def lp_Le_7 (s:Int×Int×(List Int)):Option ((Int×Int×(List Int))⊕((Int×(List Int)))):=m_Le_7 s.1 s.2.1 s.2.2
noncomputable def m_Le_0 (p1:Int) (p0:(List Int)):Option (Int×(List Int)):=
 (loopM (lp_Le_7) (p1,0,p0)).bind fun e=>m_Le_19 e.1 e.2
noncomputable def m_Le (p0:(List Int)) (p1:Int):Option (Int×(List Int)):=m_Le_0 p1 p0
noncomputable def m_Lf_27 (i27_0:Int) (l27_1:(List S_Entry)):Option (Int×(List S_Entry)):=
 some (i27_0,l27_1)
noncomputable def m_Lf_7 (i7_0 i7_1:Int) (l7_2:(List S_Entry)):Option ((Int×Int×(List S_Entry))⊕((Int×(List S_Entry)))):=
 if (decide (i7_1 < (l7_2.length:Int))) then
  (rd l7_2 i7_1).bind fun _=>
  some (.inl ((w64 ((w64 ((w64 (i7_0+1))+1))+1)),(w64 (i7_1+1)),(l7_2.set (0+Int.toNat i7_1) (S_Entry.mk i7_0 (w64 (i7_0+1)) (w64 ((w64 (i7_0+1))+1))))))
 else
  some (.inr (i7_0,l7_2))
noncomputable def lp_Lf_7 (s:Int×Int×(List S_Entry)):Option ((Int×Int×(List S_Entry))⊕((Int×(List S_Entry)))):=m_Lf_7 s.1 s.2.1 s.2.2
noncomputable def m_Lf_0 (p1:Int) (p0:(List S_Entry)):Option (Int×(List S_Entry)):=
 (loopM (lp_Lf_7) (p1,0,p0)).bind fun e=>m_Lf_27 e.1 e.2
noncomputable def m_Lf (p0:(List S_Entry)) (p1:Int):Option (Int×(List S_Entry)):=m_Lf_0 p1 p0
noncomputable def m_Ld_45 (i45_0:Int):Option (Int):=
 some i45_0
noncomputable def m_Ld_7 (p0:(List S_Entry)) (i7_0 i7_1:Int):Option ((Int×Int)⊕((Int)⊕((Int)))):=
 if (decide (i7_1 < (p0.length:Int))) then
  (rd p0 i7_1).bind fun x7_1=>
  if (x7_1.track != i7_0) then
   some (.inr (.inl (-1)))
  else
   if (x7_1.time != (w64 (i7_0+1))) then
    some (.inr (.inl (-1)))
   else
    if (x7_1.at_ != (w64 ((w64 (i7_0+1))+1))) then
     some (.inr (.inl (-1)))
    else
     some (.inl ((w64 ((w64 ((w64 (i7_0+1))+1))+1)),(w64 (i7_1+1))))
 else
  some (.inr (.inr i7_0))
noncomputable def lp_Ld_7 (p0:(List S_Entry)) (s:Int×Int):Option ((Int×Int)⊕((Int)⊕((Int)))):=m_Ld_7 p0 s.1 s.2
noncomputable def m_Ld_0 (p0:(List S_Entry)) (p1:Int):Option (Int):=
 (loopM (lp_Ld_7 p0) (p1,0)).bind fun e=>match e with | .inl e=>some e | .inr e=>m_Ld_45 e
noncomputable def m_Ld (p0:(List S_Entry)) (p1:Int):Option (Int):=m_Ld_0 p0 p1
noncomputable def m_laws_FnExactMakeIndex_0 (p0:(List Int)):Option (Bool):=
 if (decide ((p0.length:Int) > 1048576)) then
  some true
 else
  (m_Lg p0).bind fun x0_1=>
  (m_Sc x0_1).bind fun x0_2=>
  (m_Ic x0_1).bind fun x0_3=>
  (m_Lc x0_3 x0_2).bind fun x0_4=>
  if x0_4 then
   (m_La x0_1 x0_1).bind fun x0_6=>
   if x0_6 then
    (m_Le x0_1 1).bind fun x0_8=>
    (ck (decide (x0_8.2.length=x0_1.length))).bind fun _=>
    if (decide (x0_8.1 < 0)) then
     some false
    else
     (m_Lf x0_3 1).bind fun x0_11=>
     (ck (decide (x0_11.2.length=x0_3.length))).bind fun _=>
     (m_Ld x0_11.2 1).bind fun x0_13=>
     if (decide (x0_13 < 0)) then
      some false
     else
      if (x0_13 != x0_11.1) then
       some false
      else
       some true
   else
    some false
  else
   some false
noncomputable def m_laws_FnExactMakeIndex (p0:(List Int)):Option (Bool):=m_laws_FnExactMakeIndex_0 p0
end Go.Proofs.V

set_option linter.unusedSimpArgs false
namespace Go.Proofs.V
open Go
def num0:S_Number:=S_Number.mk false 0 0
def gnGo (d:List Int) (a:Nat):Nat→Nat→Int→S_Number
 | 0,_,_=>num0
 | k+1,i,v=>
  if d.length≤a+i then num0 else
  if i=9∧1 < d.getD (a+i) 0 then num0 else
  if d.getD (a+i) 0 < 128 then
   if d.getD (a+i) 0=0∧0 < i then num0 else S_Number.mk true (orI .u64 v (shlI .u64 (d.getD (a+i) 0 % 128) (7*i))) (a+i+1)
  else gnGo d a k (i+1) (orI .u64 v (shlI .u64 (d.getD (a+i) 0 % 128) (7*i)))
def gn0 (d:List Int) (a:Nat):S_Number:=gnGo d a 10 0 0
theorem spec_gn (d:List Int) (a:Nat) (hd:d.length≤1048576) (ha:a≤1048576) (hb:∀ x ∈ d,0≤x∧x≤255):m_Sb d a=some (gn0 d a):=by
 have key:∀ (k i:Nat) (v:Int),i+k=10→(loopM (lp_Sb_17 d a) (v,(i:Int))).bind (fun e=>match e with | .inl e=>m_Sb_61 | .inr e=>some e)=some (gnGo d a k i v):=by
  intro k
  induction k with
  | zero=>
   intro i v hi
   rw [loopM_eq]
   dsimp only [lp_Sb_17,m_Sb_17]
   rw [if_neg (by simp;omega)]
   rfl
  | succ k ih=>
   intro i v hi
   rw [loopM_eq]
   dsimp only [lp_Sb_17,m_Sb_17]
   rw [if_pos (by simp;omega)]
   unfold gnGo
   have e28:∀ q,m_Sb_28 d a v i q=if q then some (.inr (.inr num0)) else m_Sb_28 d a v i false:=by
    intro q;cases q <;> rfl
   by_cases h1:d.length≤a+i
   ·rw [if_pos h1]
    have hq:(if decide ((a:Int)≥(d.length:Int))=true then m_Sb_28 d a v i true else m_Sb_28 d a v i (decide ((i:Int) > w64 (w64 ((d.length:Int) - 1) - (a:Int)))))=some (.inr (.inr num0)):=by
     by_cases h2:(a:Int)≥(d.length:Int)
     ·rw [if_pos (by simpa using h2)];rfl
     ·rw [if_neg (by simpa using h2),w64_id (x:=(d.length:Int) - 1) (by omega) (by omega),w64_id (by omega) (by omega),show decide ((i:Int) > (d.length:Int) - 1 - (a:Int))=true by simp;omega];rfl
    rw [hq];rfl
   ·rw [if_neg h1,if_neg (by simp;omega),w64_id (x:=(d.length:Int) - 1) (by omega) (by omega),w64_id (x:=(d.length:Int) - 1 - (a:Int)) (by omega) (by omega),show decide ((i:Int) > (d.length:Int) - 1 - (a:Int))=false by simp;omega]
    have hx:d.getD (a+i) 0 ∈ d:=by
     rw [List.getD_eq_getElem?_getD,List.getElem?_eq_getElem (by omega)];simp
    have hxb:=hb _ hx
    dsimp only [m_Sb_28]
    rw [if_neg (by simp),w64_id (x:=(a:Int)+i) (by omega) (by omega),show (a:Int)+(i:Int)=((a+i:Nat):Int) by omega,rd_d 0 (by omega)]
    simp only [Option.bind_some]
    generalize d.getD (a+i) 0=c at hxb ⊢
    rw [wu64_id (by omega) (by omega)]
    have e38:∀ q,m_Sb_38 d a v i c q=if q then some (.inr (.inr num0)) else m_Sb_38 d a v i c false:=by
     intro q;cases q <;> rfl
    have hc:(c.tmod 128)=c % 128:=Int.tmod_eq_emod_of_nonneg hxb.1
    have eF:m_Sb_38 d a v i c false=if c < 128 then (if c=0∧0 < i then some (.inr (.inr num0)) else some (.inr (.inr (S_Number.mk true (orI .u64 v (shlI .u64 (c % 128) (7*i))) (a+i+1))))) else some (.inl (orI .u64 v (shlI .u64 (c % 128) (7*i)),((i+1:Nat):Int))):=by
     dsimp only [m_Sb_38,m_Sb_51]
     rw [if_neg (by simp),w64_id (x:=7*(i:Int)) (by omega) (by omega),wu64_id (by omega) (by omega),ck_eq (by omega)]
     simp only [Option.bind_some]
     rw [hc,w64_id (x:=(a:Int)+i) (by omega) (by omega),w64_id (by omega) (by omega),w64_succ (by omega)]
     by_cases g1:c < 128
     ·rw [if_pos (by simpa using g1),if_pos g1]
      by_cases g2:c=0
      ·subst g2
       by_cases g3:0 < i
       ·simp [g3,num0]
       ·simp [g3]
      ·have g0:(c == 0)=false:=by simpa using g2
       have g4 : ¬ (c=0∧0 < i):=fun h=>g2 h.1
       simp only [g0,g4,Bool.false_eq_true,if_false]
     ·rw [if_neg (by simpa using g1),if_neg g1]
    by_cases h9:i=9∧1 < c
    ·rw [if_pos h9,if_pos (by simp;omega),show decide (c > 1)=true by simpa using h9.2];rfl
    ·rw [if_neg h9]
     have hq:(if ((i:Int) == 9)=true then m_Sb_38 d a v i c (decide (c > 1)) else m_Sb_38 d a v i c false)=m_Sb_38 d a v i c false:=by
      by_cases g:(i:Int)=9
      ·rw [if_pos (by simpa using g),show decide (c > 1)=false by simp;omega]
      ·rw [if_neg (by simpa using g)]
     rw [hq,eF]
     by_cases g1:c < 128
     ·rw [if_pos g1,if_pos g1]
      by_cases g2:c=0∧0 < i
      ·rw [if_pos g2,if_pos g2];rfl
      ·rw [if_neg g2,if_neg g2];rfl
     ·rw [if_neg g1,if_neg g1]
      exact ih (i+1) _ (by omega)
 dsimp only [m_Sb,m_Sb_0]
 rw [if_neg (by simp)]
 exact key 10 0 0 rfl
theorem and127 (c:Int) (h0:0≤c) (h1:c≤255):andI .u8 c 127=c % 128:=by
 obtain ⟨n,rfl⟩:∃ n:Nat,c=n:=⟨c.toNat,by omega⟩
 unfold andI
 have h2:(BitVec.ofInt IntKind.u8.bits (n:Int) &&& BitVec.ofInt IntKind.u8.bits 127).toNat=n % 128:=by
  show (BitVec.ofInt 8 (n:Int) &&& BitVec.ofNat 8 127).toNat=n % 128
  rw [BitVec.ofInt_natCast,BitVec.toNat_and,BitVec.toNat_ofNat,BitVec.toNat_ofNat,Nat.mod_eq_of_lt (by omega:n < 2 ^ 8)]
  exact Nat.and_two_pow_sub_one_eq_mod n 7
 rw [h2]
 rw [show IntKind.wrap .u8 ((n % 128:Nat):Int)=((n % 128:Nat):Int) from wu8_id (by omega) (by omega)]
 omega
theorem impl_gn (d:List Int) (a:Nat) (hd:d.length≤1048576) (ha:a≤1048576) (hb:∀ x ∈ d,0≤x∧x≤255):m_Ib d a=some (gn0 d a):=by
 have key:∀ (k i:Nat) (v:Int),i+k=10→(loopM (lp_Ib_17 d a) (v,(i:Int))).bind (fun e=>match e with | .inl e=>m_Ib_49 | .inr e=>some e)=some (gnGo d a k i v):=by
  intro k
  induction k with
  | zero=>
   intro i v hi
   rw [loopM_eq]
   dsimp only [lp_Ib_17,m_Ib_17]
   rw [if_neg (by simp;omega)]
   rfl
  | succ k ih=>
   intro i v hi
   rw [loopM_eq]
   dsimp only [lp_Ib_17,m_Ib_17]
   rw [if_pos (by simp;omega),w64_id (x:=(a:Int)+i) (by omega) (by omega)]
   unfold gnGo
   by_cases h1:d.length≤a+i
   ·rw [if_pos h1,if_neg (by simp;omega)];rfl
   ·rw [if_neg h1,if_pos (by simp;omega)]
    have hx:d.getD (a+i) 0 ∈ d:=by
     rw [List.getD_eq_getElem?_getD,List.getElem?_eq_getElem (by omega)];simp
    have hxb:=hb _ hx
    rw [show (a:Int)+(i:Int)=((a+i:Nat):Int) by omega,rd_d 0 (by omega)]
    simp only [Option.bind_some]
    generalize d.getD (a+i) 0=c at hxb ⊢
    have eF:m_Ib_33 d a v i c=if c < 128 then (if c=0∧0 < i then some (.inr (.inl ())) else some (.inr (.inr (S_Number.mk true (orI .u64 v (shlI .u64 (c % 128) (7*i))) (a+i+1))))) else some (.inl (orI .u64 v (shlI .u64 (c % 128) (7*i)),((i+1:Nat):Int))):=by
     dsimp only [m_Ib_33,m_Ib_44]
     rw [w64_id (x:=7*(i:Int)) (by omega) (by omega),ck_eq (by omega)]
     simp only [Option.bind_some]
     rw [and127 c hxb.1 hxb.2,wu64_id (by omega) (by omega),w64_id (x:=(a:Int)+i) (by omega) (by omega),w64_id (by omega) (by omega),w64_succ (by omega)]
     by_cases g1:c < 128
     ·rw [if_pos (by simpa using g1),if_pos g1]
      by_cases g2:c=0
      ·subst g2
       by_cases g3:0 < i
       ·simp [g3]
       ·simp [g3]
      ·have g0:(c == 0)=false:=by simpa using g2
       have g4 : ¬ (c=0∧0 < i):=fun h=>g2 h.1
       simp only [g0,g4,Bool.false_eq_true,if_false]
     ·rw [if_neg (by simpa using g1),if_neg g1]
    by_cases h9:i=9∧1 < c
    ·rw [if_pos h9,if_pos (by simp;omega),if_pos (by simpa using h9.2)];rfl
    ·rw [if_neg h9]
     have hq:(if ((i:Int) == 9)=true then (if decide (c > 1)=true then some (.inr (.inl ())) else m_Ib_33 d a v i c) else m_Ib_33 d a v i c)=m_Ib_33 d a v i c:=by
      by_cases g:(i:Int)=9
      ·rw [if_pos (by simpa using g),if_neg (by simp;omega)]
      ·rw [if_neg (by simpa using g)]
     rw [hq,eF]
     by_cases g1:c < 128
     ·rw [if_pos g1,if_pos g1]
      by_cases g2:c=0∧0 < i
      ·rw [if_pos g2,if_pos g2];rfl
      ·rw [if_neg g2,if_neg g2];rfl
     ·rw [if_neg g1,if_neg g1]
      exact ih (i+1) _ (by omega)
 dsimp only [m_Ib,m_Ib_0]
 rw [if_neg (by simp)]
 dsimp only [m_Ib_5]
 by_cases h:(a:Int) > (d.length:Int)
 ·rw [if_pos (by simpa using h)]
  unfold gn0 gnGo
  rw [if_pos (by omega)];rfl
 ·rw [if_neg (by simpa using h)]
  exact key 10 0 0 rfl
end Go.Proofs.V

namespace Go.Proofs.V
open Go
theorem wu32_eq (x:Int):wr .u32 x=x % 4294967296:=by
 unfold wr IntKind.wrap
 simp [IntKind.bits,IntKind.signed]
theorem wu32_rng (x:Int):0≤wr .u32 x∧wr .u32 x < 4294967296:=by rw [wu32_eq];omega
def crc1 (r:Int):Int:=if andI .u32 r 1 == 1 then xorI .u32 (shrI .u32 r 1) 3988292384 else shrI .u32 r 1
def crc8 (r:Int):Int:=(List.range 8).foldl (fun r _=>crc1 r) r
def crcF (l:List Int):Int:=notI .u32 (l.foldl (fun r c=>crc8 (xorI .u32 r (wr .u32 c))) 4294967295)
theorem xor_rng (a b:Int):0≤xorI .u32 a b∧xorI .u32 a b < 4294967296:=wu32_rng _
theorem crcF_rng (l:List Int):0≤crcF l∧crcF l < 4294967296:=wu32_rng _
theorem shr1 (r:Int) (h:0≤r∧r < 4294967296):shrI .u32 r 1=r / 2:=by
 unfold shrI
 rw [show (2:Int) ^ min (Int.toNat 1) IntKind.u32.bits=2 from rfl,Int.fdiv_eq_ediv_of_nonneg _ (by omega)]
theorem crc1_rng (r:Int) (h:0≤r∧r < 4294967296):0≤crc1 r∧crc1 r < 4294967296:=by
 unfold crc1
 split
 ·exact xor_rng _ _
 ·rw [shr1 r h];omega
theorem and1_u32 (r:Int):andI .u32 r 1=0∨andI .u32 r 1=1:=by
 unfold andI
 have h1:(BitVec.ofInt IntKind.u32.bits r &&& BitVec.ofInt IntKind.u32.bits 1).toNat≤1:=by
  show (BitVec.ofInt 32 r &&& BitVec.ofNat 32 1).toNat≤1
  rw [BitVec.toNat_and,BitVec.toNat_ofNat]
  exact Nat.and_le_right
 have h2:∀ k:Nat,k≤1→IntKind.wrap .u32 (k:Int)=0∨IntKind.wrap .u32 (k:Int)=1:=by
  intro k hk
  have:k=0∨k=1:=by omega
  rcases this with rfl | rfl
  ·left;rfl
  ·right;rfl
 exact h2 _ h1
theorem xor_zero_u32 (x:Int) (h:0≤x∧x < 4294967296):xorI .u32 x 0=x:=by
 unfold xorI
 show IntKind.u32.wrap ((BitVec.ofInt 32 x ^^^ 0#32).toNat:Int)=x
 rw [BitVec.xor_zero]
 obtain ⟨n,rfl⟩:∃ n:Nat,x=n:=⟨x.toNat,by omega⟩
 rw [BitVec.ofInt_natCast,BitVec.toNat_ofNat,Nat.mod_eq_of_lt (by omega)]
 exact wu32_id (by omega) (by omega)
theorem crc1_impl (r:Int) (h:0≤r∧r < 4294967296):xorI .u32 (shrI .u32 r 1) (wr .u32 (3988292384*(andI .u32 r 1)))=crc1 r:=by
 unfold crc1
 rcases and1_u32 r with h1 | h1
 ·rw [h1,if_neg (by decide),show wr .u32 (3988292384*0)=0 from rfl]
  exact xor_zero_u32 _ (by rw [shr1 r h];omega)
 ·rw [h1,if_pos (by decide),show wr .u32 (3988292384*1)=3988292384 from rfl]
theorem crc8_rng (r:Int) (h:0≤r∧r < 4294967296):0≤crc8 r∧crc8 r < 4294967296:=by
 have:∀ (k:List Nat) (r:Int),0≤r∧r < 4294967296→0≤k.foldl (fun r _=>crc1 r) r∧k.foldl (fun r _=>crc1 r) r < 4294967296:=by
  intro k
  induction k with
  | nil=>intro r h;exact h
  | cons a k ih=>intro r h;exact ih _ (crc1_rng r h)
 exact this _ r h
theorem spec_crc8 (p0:List Int) (i:Int) (r:Int) (h:0≤r∧r < 4294967296):loopM (lp_Sa_25 p0 i) (r,0)=some (crc8 r):=by
 refine (fold_range (n:=8) (fun (s:Int) i=>(s,(i:Int))) (g:=fun r _=>crc1 r) (I:=fun _ s=>0≤s∧s < 4294967296) (e1:=fun s=>s) (fun i s hi hI=>⟨?_,crc1_rng s hI⟩) (fun s hI=>?_) r h).1
 ·simp only [lp_Sa_25,m_Sa_25,decide_eq_true_eq]
  rw [if_pos (by omega),w64_succ (by omega)]
  unfold crc1
  split <;> rfl
 ·simp only [lp_Sa_25,m_Sa_25]
  rfl
theorem impl_crc8 (p0:List Int) (i:Int) (r:Int) (h:0≤r∧r < 4294967296):loopM (lp_Ia_25 p0 i) (r,0)=some (crc8 r):=by
 refine (fold_range (n:=8) (fun (s:Int) i=>(s,(i:Int))) (g:=fun r _=>crc1 r) (I:=fun _ s=>0≤s∧s < 4294967296) (e1:=fun s=>s) (fun i s hi hI=>⟨?_,crc1_rng s hI⟩) (fun s hI=>?_) r h).1
 ·simp only [lp_Ia_25,m_Ia_25,decide_eq_true_eq]
  rw [if_pos (by omega),w64_succ (by omega),crc1_impl s hI]
 ·simp only [lp_Ia_25,m_Ia_25]
  rfl
theorem spec_crc (l:List Int) (hl:l.length≤2305843009213693952):m_Sa l=some (crcF l):=by
 unfold m_Sa m_Sa_0
 have key:=fold_list (l:=l) (fun (s:Int) i=>(s,(i:Int))) (g:=fun r c=>crc8 (xorI .u32 r (wr .u32 c))) (I:=fun _ s=>0≤s∧s < 4294967296) (b:=lp_Sa_9 l) (e1:=fun s=>s)
  (fun i s hi hI=>⟨by
   simp only [lp_Sa_9,m_Sa_9,decide_eq_true_eq]
   rw [if_pos (by omega),rd_eq hi]
   simp only [Option.bind_some]
   rw [spec_crc8 _ _ _ (xor_rng _ _)]
   simp only [Option.bind_some,m_Sa_43]
   rw [w64_succ (by omega)],crc8_rng _ (xor_rng _ _)⟩)
  (fun s hI=>by
   simp only [lp_Sa_9,m_Sa_9]
   rw [if_neg (by simp)]) 4294967295 (by omega)
 have k1:=key.1
 simp only [show ((0:Nat):Int)=0 from rfl] at k1
 rw [k1]
 rfl
theorem impl_crc (l:List Int) (hl:l.length≤2305843009213693952):m_Ia l=some (crcF l):=by
 unfold m_Ia m_Ia_0
 have key:=fold_list (l:=l) (fun (s:Int) i=>(s,(i:Int))) (g:=fun r c=>crc8 (xorI .u32 r (wr .u32 c))) (I:=fun _ s=>0≤s∧s < 4294967296) (b:=lp_Ia_9 l) (e1:=fun s=>s)
  (fun i s hi hI=>⟨by
   simp only [lp_Ia_9,m_Ia_9,decide_eq_true_eq]
   rw [if_pos (by omega),rd_eq hi]
   simp only [Option.bind_some]
   rw [impl_crc8 _ _ _ (xor_rng _ _)]
   simp only [Option.bind_some,m_Ia_35]
   rw [w64_succ (by omega)],crc8_rng _ (xor_rng _ _)⟩)
  (fun s hI=>by
   simp only [lp_Ia_9,m_Ia_9]
   rw [if_neg (by simp)]) 4294967295 (by omega)
 have k1:=key.1
 simp only [show ((0:Nat):Int)=0 from rfl] at k1
 rw [k1]
 rfl
end Go.Proofs.V

namespace Go.Proofs.V
open Go
def slc (d:List Int) (a n:Nat):List Int:=(d.take (a+n)).drop a
theorem spec_take_bad (r:S_l16R) (n:Int) (he:r.err≠0):m_Sn r n=some ([],r):=by
 dsimp only [m_Sn,m_Sn_0,m_Sn_5,m_Sn_8]
 rw [if_neg (by simpa using he),if_neg (by simp),if_pos (by simpa using he)]
theorem spec_take_ok (r:S_l16R) (a n:Nat) (hd:r.data.length≤1048576) (he:r.err=0) (ha:r.at_=a) (h:a+n≤r.data.length) :
  m_Sn r n=some (slc r.data a n,{ r with at_:=((a+n:Nat):Int) }):=by
 dsimp only [m_Sn,m_Sn_0]
 rw [if_pos (by simpa using he),ha,w64_id (x:=(r.data.length:Int) - a) (by omega) (by omega),show decide ((n:Int) > (r.data.length:Int) - (a:Int))=false by simp;omega]
 dsimp only [m_Sn_5,m_Sn_8]
 rw [if_neg (by simp),if_neg (by simpa using he),ha,w64_id (x:=(a:Int)+n) (by omega) (by omega),w64_id (x:=(a:Int)+n - n) (by omega) (by omega),ck_eq (by omega)]
 simp only [Option.bind_some]
 rw [ck_eq (by omega)]
 simp only [Option.bind_some]
 have e1:Int.toNat ((a:Int)+n)=a+n:=by omega
 have e2:Int.toNat ((a:Int)+n - n)=a:=by omega
 rw [e1,e2]
 simp [slc]
theorem spec_take_no (r:S_l16R) (a n:Nat) (hd:r.data.length≤1048576) (he:r.err=0) (ha:r.at_=a) (ha2:a≤r.data.length) (h:r.data.length < a+n) :
  m_Sn r n=some ([],{ r with err:=2 }):=by
 dsimp only [m_Sn,m_Sn_0]
 rw [if_pos (by simpa using he),ha,w64_id (x:=(r.data.length:Int) - a) (by omega) (by omega),show decide ((n:Int) > (r.data.length:Int) - (a:Int))=true by simp;omega]
 dsimp only [m_Sn_5,m_Sg,m_Sg_0]
 rw [if_pos rfl,if_pos (by simpa using he)]
 simp only [Option.bind_some]
 dsimp only [m_Sn_8]
 rw [if_pos (by simp),ha]
theorem impl_bytes_bad (r:S_zreader) (n:Int) (he:r.err≠0):m_Ih r n=some ([],r):=by
 dsimp only [m_Ih,m_Ih_0,m_Ih_5,m_Ii,m_Ii_0]
 rw [if_pos (by simpa using he),if_pos rfl,if_neg (by simpa using he)]
 rfl
theorem impl_bytes_ok (r:S_zreader) (a n:Nat) (hd:r.b.length≤1048576) (he:r.err=0) (ha:r.at_=a) (h:a+n≤r.b.length) :
  m_Ih r n=some (slc r.b a n,{ r with at_:=((a+n:Nat):Int) }):=by
 dsimp only [m_Ih,m_Ih_0]
 rw [if_neg (by simpa using he),ha,w64_id (x:=(r.b.length:Int) - a) (by omega) (by omega),show decide ((n:Int) > (r.b.length:Int) - (a:Int))=false by simp;omega]
 dsimp only [m_Ih_5]
 rw [if_neg (by simp),ha,w64_id (x:=(a:Int)+n) (by omega) (by omega),ck_eq (by omega)]
 simp only [Option.bind_some]
 rw [ck_eq (by omega)]
 simp only [Option.bind_some]
 have e1:Int.toNat ((a:Int)+n)=a+n:=by omega
 rw [e1]
 simp [slc]
theorem impl_bytes_no (r:S_zreader) (a n:Nat) (hd:r.b.length≤1048576) (he:r.err=0) (ha:r.at_=a) (ha2:a≤r.b.length) (h:r.b.length < a+n) :
  m_Ih r n=some ([],{ r with err:=2 }):=by
 dsimp only [m_Ih,m_Ih_0]
 rw [if_neg (by simpa using he),ha,w64_id (x:=(r.b.length:Int) - a) (by omega) (by omega),show decide ((n:Int) > (r.b.length:Int) - (a:Int))=true by simp;omega]
 dsimp only [m_Ih_5,m_Ii,m_Ii_0]
 rw [if_pos rfl,if_pos (by simpa using he)]
 simp only [Option.bind_some]
 rw [ha]
theorem slc_one (d:List Int) (a:Nat) (h:a < d.length):slc d a 1=[d.getD a 0]:=by
 unfold slc
 rw [List.take_succ_eq_append_getElem h,List.drop_append_of_le_length (by simp;omega),List.drop_of_length_le (by simp;omega),List.nil_append,List.getD_eq_getElem?_getD,List.getElem?_eq_getElem h]
 rfl
theorem spec_byte_bad (r:S_l16R) (he:r.err≠0):m_Sf r=some (0,r):=by
 dsimp only [m_Sf,m_Sf_0]
 rw [spec_take_bad r 1 he]
 simp only [Option.bind_some]
 rw [if_pos (by simpa using he)]
theorem impl_byte_bad (r:S_zreader) (he:r.err≠0):m_Ig r=some (0,r):=by
 dsimp only [m_Ig,m_Ig_0]
 rw [impl_bytes_bad r 1 he]
 rfl
theorem mem_gd {d:List Int} {a:Nat} (h:a < d.length):d.getD a 0 ∈ d:=by
 rw [List.getD_eq_getElem?_getD,List.getElem?_eq_getElem h];simp
theorem spec_byte_ok (r:S_l16R) (a:Nat) (hd:r.data.length≤1048576) (hb:∀ x ∈ r.data,0≤x∧x≤255) (he:r.err=0) (ha:r.at_=a) (h:a < r.data.length) :
  m_Sf r=some (r.data.getD a 0,{ r with at_:=((a+1:Nat):Int) }):=by
 dsimp only [m_Sf,m_Sf_0]
 have:=spec_take_ok r a 1 hd he ha h
 rw [show ((1:Nat):Int)=1 from rfl] at this
 rw [this]
 simp only [Option.bind_some]
 have hx:=hb _ (mem_gd h)
 rw [if_neg (by simpa using he),slc_one _ _ h]
 show (some (r.data.getD a 0)).bind _=_
 simp only [Option.bind_some]
 rw [w64_id (by omega) (by omega)]
theorem impl_byte_ok (r:S_zreader) (a:Nat) (hd:r.b.length≤1048576) (hb:∀ x ∈ r.b,0≤x∧x≤255) (he:r.err=0) (ha:r.at_=a) (h:a < r.b.length) :
  m_Ig r=some (r.b.getD a 0,{ r with at_:=((a+1:Nat):Int) }):=by
 dsimp only [m_Ig,m_Ig_0]
 have:=impl_bytes_ok r a 1 hd he ha h
 rw [show ((1:Nat):Int)=1 from rfl] at this
 rw [this]
 simp only [Option.bind_some]
 have hx:=hb _ (mem_gd h)
 rw [slc_one _ _ h,if_pos (by simp)]
 show (some (r.b.getD a 0)).bind _=_
 simp only [Option.bind_some]
 rw [w64_id (by omega) (by omega)]
end Go.Proofs.V

namespace Go.Proofs.V
open Go
def numF (d:List Int) (a:Nat):Option (Int×Int):=if (gn0 d a).ok=true∧(gn0 d a).value≤4611686018427387904 then some ((gn0 d a).value,(gn0 d a).next) else none
theorem spec_number_bad (r:S_l16R) (he:r.err≠0):m_Sj r=some (0,r):=by
 dsimp only [m_Sj,m_Sj_0]
 rw [if_pos (by simpa using he)]
theorem impl_num_bad (r:S_zreader) (he:r.err≠0):m_Ik r=some (0,r):=by
 dsimp only [m_Ik,m_Ik_0]
 rw [if_pos (by simpa using he)]
theorem spec_num_loop (r:S_l16R) (hd:r.data.length≤1048576):∀ (k a:Nat),a+k=r.data.length→∃ e,loopM (lp_Sj_21 r) (a:Int)=some e:=by
 intro k
 induction k with
 | zero=>
  intro a h
  refine ⟨a,?_⟩
  rw [loopM_eq]
  dsimp only [lp_Sj_21,m_Sj_21]
  rw [if_neg (by simp;omega)]
 | succ k ih=>
  intro a h
  rw [loopM_eq]
  dsimp only [lp_Sj_21,m_Sj_21]
  rw [if_pos (by simp;omega)]
  cases hq:decide ((a:Int) < w64 (r.at_+10)) with
  | false=>exact ⟨a,rfl⟩
  | true=>
   simp only [if_true]
   rw [rd_d 0 (by omega)]
   simp only [Option.bind_some]
   cases hq2:decide (r.data.getD a 0≥128) with
   | false=>exact ⟨a,rfl⟩
   | true=>
    simp only [if_true]
    rw [w64_succ (by omega)]
    exact ih (a+1) (by omega)
theorem spec_number (r:S_l16R) (a:Nat) (hd:r.data.length≤1048576) (hb:∀ x ∈ r.data,0≤x∧x≤255) (he:r.err=0) (ha:r.at_=a) (h:a≤r.data.length) :
  match numF r.data a with
  | some (v,n)=>m_Sj r=some (w64 v,{ r with at_:=n })
  | none=>∃ e,e≠0∧m_Sj r=some (0,{ r with err:=e }):=by
 have f:∀ e,m_Sg r e=some { r with err:=e }:=fun e=>by
  dsimp only [m_Sg,m_Sg_0]
  rw [if_pos (by simpa using he)]
 have hg:=spec_gn r.data a hd (by omega) hb
 have key:m_Sj r=if (gn0 r.data a).ok then (if decide ((gn0 r.data a).value > 4611686018427387904) then some (0,{ r with err:=5 }) else some (w64 (gn0 r.data a).value,{ r with at_:=(gn0 r.data a).next }))
   else (loopM (lp_Sj_21 r) r.at_).bind fun e=>m_Sj_29 r e:=by
  dsimp only [m_Sj,m_Sj_0]
  rw [if_neg (by simpa using he)]
  have:m_Sb r.data r.at_=some (gn0 r.data a):=by rw [ha];exact hg
  rw [this]
  simp only [Option.bind_some]
  rw [f]
  rfl
 unfold numF
 rw [key]
 cases hok:(gn0 r.data a).ok with
 | true=>
  by_cases hv:(gn0 r.data a).value≤4611686018427387904
  ·rw [if_pos ⟨rfl,hv⟩]
   simp only [if_true]
   rw [if_neg (by simp;omega)]
  ·rw [if_neg (fun hh=>hv hh.2)]
   exact ⟨5,by decide,by simp only [if_true];rw [if_pos (by simp;omega)]⟩
 | false=>
  rw [if_neg (fun hh=>by simp at hh)]
  obtain ⟨e,h1⟩ :=spec_num_loop r hd (r.data.length - a) a (by omega)
  rw [←ha] at h1
  simp only [Bool.false_eq_true,if_false]
  rw [h1]
  simp only [Option.bind_some]
  have e32:∀ q,∃ e,e≠0∧m_Sj_32 r q=some (0,{ r with err:=e }):=by
   intro q
   dsimp only [m_Sj_32]
   cases q with
   | true=>exact ⟨2,by decide,by rw [if_pos rfl,f];rfl⟩
   | false=>exact ⟨5,by decide,by rw [if_neg (by simp),f];rfl⟩
  dsimp only [m_Sj_29]
  split
  ·exact e32 _
  ·exact e32 _
theorem impl_num_loop (r:S_zreader) (hd:r.b.length≤1048576):∀ (k a:Nat) (err:Int),a+k=r.b.length→∃ e,loopM lp_Ik_21 ((a:Int),r.b,r.at_,err)=some (r.b,r.at_,e)∧(err≠0→e≠0):=by
 intro k
 induction k with
 | zero=>
  intro a err h
  refine ⟨err,?_,id⟩
  rw [loopM_eq]
  dsimp only [lp_Ik_21,m_Ik_21]
  rw [if_neg (by simp;omega)]
 | succ k ih=>
  intro a err h
  rw [loopM_eq]
  dsimp only [lp_Ik_21,m_Ik_21]
  rw [if_pos (by simp;omega)]
  cases hq:decide ((a:Int) < w64 (r.at_+10)) with
  | false=>exact ⟨err,rfl,id⟩
  | true=>
   simp only [if_true]
   rw [rd_d 0 (by omega)]
   simp only [Option.bind_some]
   rw [w64_succ (by omega)]
   cases hq2:decide (r.b.getD a 0 < 128) with
   | false=>
    simp only [Bool.false_eq_true,if_false]
    exact ih (a+1) err (by omega)
   | true=>
    simp only [if_true]
    by_cases he:err=0
    ·subst he
     obtain ⟨e,h1,h2⟩ :=ih (a+1) 5 (by omega)
     exact ⟨e,h1,fun h=>absurd rfl h⟩
    ·obtain ⟨e,h1,h2⟩ :=ih (a+1) err (by omega)
     refine ⟨e,?_,h2⟩
     have:m_Ii (S_zreader.mk r.b r.at_ err) 5=some (S_zreader.mk r.b r.at_ err):=by
      dsimp only [m_Ii,m_Ii_0]
      rw [if_neg (by simpa using he)]
     rw [this]
     exact h1
theorem impl_num (r:S_zreader) (a:Nat) (hd:r.b.length≤1048576) (hb:∀ x ∈ r.b,0≤x∧x≤255) (he:r.err=0) (ha:r.at_=a) (h:a≤r.b.length) :
  match numF r.b a with
  | some (v,n)=>m_Ik r=some (w64 v,{ r with at_:=n })
  | none=>∃ e,e≠0∧m_Ik r=some (0,{ r with err:=e }):=by
 have hg:=impl_gn r.b a hd (by omega) hb
 have f:∀ (b:List Int) (i err c:Int),c≠0→∃ e,e≠0∧m_Ii (S_zreader.mk b i err) c=some (S_zreader.mk b i e):=fun b i err c hc=>by
  dsimp only [m_Ii,m_Ii_0]
  by_cases h0:err=0
  ·rw [if_pos (by simpa using h0)];exact ⟨c,hc,rfl⟩
  ·rw [if_neg (by simpa using h0)];exact ⟨err,h0,rfl⟩
 have key:m_Ik r=if (gn0 r.b a).ok then (if decide ((gn0 r.b a).value > 4611686018427387904) then (m_Ii (S_zreader.mk r.b r.at_ r.err) 5).bind fun x=>some (0,x) else some (w64 (gn0 r.b a).value,{ r with at_:=(gn0 r.b a).next }))
   else (loopM lp_Ik_21 (r.at_,r.b,r.at_,r.err)).bind fun e=>m_Ik_35 e.1 e.2.1 e.2.2:=by
  dsimp only [m_Ik,m_Ik_0]
  rw [if_neg (by simpa using he)]
  have:m_Ib r.b r.at_=some (gn0 r.b a):=by rw [ha];exact hg
  rw [this]
  rfl
 unfold numF
 rw [key]
 cases hok:(gn0 r.b a).ok with
 | true=>
  by_cases hv:(gn0 r.b a).value≤4611686018427387904
  ·rw [if_pos ⟨rfl,hv⟩]
   simp only [if_true]
   rw [if_neg (by simp;omega)]
  ·rw [if_neg (fun hh=>hv hh.2)]
   simp only [if_true]
   rw [if_pos (by simp;omega)]
   obtain ⟨e,h1,h2⟩ :=f r.b r.at_ r.err 5 (by decide)
   refine ⟨e,h1,?_⟩
   rw [h2];rfl
 | false=>
  rw [if_neg (fun hh=>by simp at hh)]
  simp only [Bool.false_eq_true,if_false]
  obtain ⟨e,h1,_⟩ :=impl_num_loop r hd (r.b.length - a) a r.err (by omega)
  rw [←ha] at h1
  rw [h1]
  simp only [Option.bind_some]
  have e41:∀ err,∃ e,e≠0∧m_Ik_41 r.b r.at_ err=some (0,S_zreader.mk r.b r.at_ e):=fun err=>by
   obtain ⟨e,h3,h4⟩ :=f r.b r.at_ err 2 (by decide)
   refine ⟨e,h3,?_⟩
   dsimp only [m_Ik_41]
   rw [h4];rfl
  dsimp only [m_Ik_35]
  split
  ·obtain ⟨e',h3,h4⟩ :=f r.b r.at_ e 5 (by decide)
   rw [h4]
   exact e41 _
  ·exact e41 _
end Go.Proofs.V

set_option linter.unusedSectionVars false
namespace Go.Proofs.V
open Go
def RdS (d:List Int) (st:Option Nat) (at_ e:Int):Prop:=match st with | some a=>e=0∧at_=a∧a≤d.length | none=>e≠0
theorem orI_nn (x y:Int):0≤orI .u64 x y:=by
 have h:orI .u64 x y=wr .u64 (BitVec.ofInt IntKind.u64.bits x ||| BitVec.ofInt IntKind.u64.bits y).toNat:=rfl
 rw [h,wu64_eq];omega
theorem gnGo_facts (d:List Int) (a:Nat):∀ (k i:Nat) (v:Int),(gnGo d a k i v).ok=true→0≤(gnGo d a k i v).value∧∃ n:Nat,(gnGo d a k i v).next=n∧a < n∧n≤d.length
 | 0,i,v,h=>by simp [gnGo,num0] at h
 | k+1,i,v,h=>by
  unfold gnGo at h ⊢
  by_cases h1:d.length≤a+i
  ·rw [if_pos h1] at h;simp [num0] at h
  ·rw [if_neg h1] at h ⊢
   by_cases h2:i=9∧1 < d.getD (a+i) 0
   ·rw [if_pos h2] at h;simp [num0] at h
   ·rw [if_neg h2] at h ⊢
    by_cases h3:d.getD (a+i) 0 < 128
    ·rw [if_pos h3] at h ⊢
     by_cases h4:d.getD (a+i) 0=0∧0 < i
     ·rw [if_pos h4] at h;simp [num0] at h
     ·rw [if_neg h4] at h ⊢
      exact ⟨orI_nn _ _,a+i+1,by simp,by omega,by omega⟩
    ·rw [if_neg h3] at h ⊢
     exact gnGo_facts d a k (i+1) _ h
def numS (d:List Int) (st:Option Nat):Int×Option Nat:=match st with
 | none=>(0,none)
 | some a=>if (gn0 d a).ok=true∧(gn0 d a).value≤4611686018427387904 then ((gn0 d a).value,some (gn0 d a).next.toNat) else (0,none)
theorem numS_rng (d:List Int) (st:Option Nat):0≤(numS d st).1∧(numS d st).1≤4611686018427387904:=by
 cases st with
 | none=>exact ⟨by simp [numS],by simp [numS]⟩
 | some a=>
  unfold numS
  dsimp only
  by_cases h:(gn0 d a).ok=true∧(gn0 d a).value≤4611686018427387904
  ·rw [if_pos h];exact ⟨(gnGo_facts d a 10 0 0 h.1).1,h.2⟩
  ·rw [if_neg h];exact ⟨by simp,by simp⟩
def takeS (d:List Int) (n:Int) (st:Option Nat):List Int×Option Nat:=match st with
 | none=>([],none)
 | some a=>if (a:Int)+n≤d.length then (slc d a n.toNat,some (a+n.toNat)) else ([],none)
def byteS (d:List Int) (st:Option Nat):Int×Option Nat:=match st with
 | none=>(0,none)
 | some a=>if a < d.length then (d.getD a 0,some (a+1)) else (0,none)
def be4 (l:List Int):Int:=((l.getD 0 0*256+l.getD 1 0)*256+l.getD 2 0)*256+l.getD 3 0
def sumS (d:List Int) (f:Nat) (st:Option Nat):Option Nat:=match st with
 | none=>none
 | some a=>if a+4≤d.length∧be4 (slc d a 4)=crcF (slc d f (a - f)) then some (a+4) else none
section
variable {d:List Int} (hd:d.length≤1048576) (hb:∀ x ∈ d,0≤x∧x≤255)
include hd
theorem sp_take {st:Option Nat} {at_ e:Int} (h:RdS d st at_ e) (n:Int) (hn:0≤n∧n≤4611686018427387904) (B:S_Box) (du by_:Int) (ix:List S_Entry) :
  ∃ at' e',m_Sn (S_l16R.mk d at_ e B du by_ ix) n=some ((takeS d n st).1,S_l16R.mk d at' e' B du by_ ix)∧RdS d (takeS d n st).2 at' e':=by
 cases st with
 | none=>exact ⟨at_,e,spec_take_bad _ _ h,h⟩
 | some a=>
  obtain ⟨rfl,rfl,h3⟩ :=h
  obtain ⟨m,rfl⟩:∃ m:Nat,n=m:=⟨n.toNat,by omega⟩
  unfold takeS
  dsimp only
  by_cases h4:(a:Int)+(m:Int)≤d.length
  ·rw [if_pos h4]
   exact ⟨_,0,spec_take_ok (S_l16R.mk d a 0 B du by_ ix) a m hd rfl rfl (by show a+m≤d.length;omega),rfl,rfl,by simp;omega⟩
  ·rw [if_neg h4]
   exact ⟨_,2,spec_take_no (S_l16R.mk d a 0 B du by_ ix) a m hd rfl rfl h3 (by show d.length < a+m;omega),by show (2:Int)≠0;decide⟩
theorem im_take {st:Option Nat} {at_ e:Int} (h:RdS d st at_ e) (n:Int) (hn:0≤n∧n≤4611686018427387904) :
  ∃ at' e',m_Ih (S_zreader.mk d at_ e) n=some ((takeS d n st).1,S_zreader.mk d at' e')∧RdS d (takeS d n st).2 at' e':=by
 cases st with
 | none=>exact ⟨at_,e,impl_bytes_bad _ _ h,h⟩
 | some a=>
  obtain ⟨rfl,rfl,h3⟩ :=h
  obtain ⟨m,rfl⟩:∃ m:Nat,n=m:=⟨n.toNat,by omega⟩
  unfold takeS
  dsimp only
  by_cases h4:(a:Int)+(m:Int)≤d.length
  ·rw [if_pos h4]
   exact ⟨_,0,impl_bytes_ok (S_zreader.mk d a 0) a m hd rfl rfl (by show a+m≤d.length;omega),rfl,rfl,by simp;omega⟩
  ·rw [if_neg h4]
   exact ⟨_,2,impl_bytes_no (S_zreader.mk d a 0) a m hd rfl rfl h3 (by show d.length < a+m;omega),by show (2:Int)≠0;decide⟩
omit hd in
theorem numS_F (a:Nat):(∃ v n:_,∃ m:Nat,numF d a=some (v,n)∧n=m∧a < m∧m≤d.length∧0≤v∧v≤4611686018427387904∧numS d (some a)=(v,some m))∨(numF d a=none∧numS d (some a)=(0,none)):=by
 unfold numF numS
 dsimp only
 by_cases h:(gn0 d a).ok=true∧(gn0 d a).value≤4611686018427387904
 ·rw [if_pos h,if_pos h]
  obtain ⟨h0,n,h1,h2,h3⟩ :=gnGo_facts d a 10 0 0 h.1
  have h1' : (gn0 d a).next=n:=h1
  exact .inl ⟨_,_,n,rfl,h1',h2,h3,h0,h.2,by rw [h1'];rfl⟩
 ·rw [if_neg h,if_neg h];exact .inr ⟨rfl,rfl⟩
include hb
theorem sp_number {st:Option Nat} {at_ e:Int} (h:RdS d st at_ e) (B:S_Box) (du by_:Int) (ix:List S_Entry) :
  ∃ at' e',m_Sj (S_l16R.mk d at_ e B du by_ ix)=some ((numS d st).1,S_l16R.mk d at' e' B du by_ ix)∧RdS d (numS d st).2 at' e':=by
 cases st with
 | none=>exact ⟨at_,e,spec_number_bad _ h,h⟩
 | some a=>
  obtain ⟨rfl,rfl,h3⟩ :=h
  have h4:=spec_number (S_l16R.mk d a 0 B du by_ ix) a hd hb rfl rfl h3
  rw [show (S_l16R.mk d a 0 B du by_ ix).data=d from rfl] at h4
  rcases numS_F a (d:=d) with ⟨v,n,m,h5,rfl,h6,h7,h8,h9,h10⟩ | ⟨h5,h10⟩
  ·rw [h5] at h4
   dsimp only at h4
   rw [w64_id (by omega) (by omega)] at h4
   rw [h10]
   exact ⟨_,0,h4,rfl,rfl,h7⟩
  ·rw [h5] at h4
   obtain ⟨e,h7,h8⟩ :=h4
   rw [h10]
   exact ⟨_,e,h8,h7⟩
theorem im_number {st:Option Nat} {at_ e:Int} (h:RdS d st at_ e) :
  ∃ at' e',m_Ik (S_zreader.mk d at_ e)=some ((numS d st).1,S_zreader.mk d at' e')∧RdS d (numS d st).2 at' e':=by
 cases st with
 | none=>exact ⟨at_,e,impl_num_bad _ h,h⟩
 | some a=>
  obtain ⟨rfl,rfl,h3⟩ :=h
  have h4:=impl_num (S_zreader.mk d a 0) a hd hb rfl rfl h3
  rw [show (S_zreader.mk d a 0).b=d from rfl] at h4
  rcases numS_F a (d:=d) with ⟨v,n,m,h5,rfl,h6,h7,h8,h9,h10⟩ | ⟨h5,h10⟩
  ·rw [h5] at h4
   dsimp only at h4
   rw [w64_id (by omega) (by omega)] at h4
   rw [h10]
   exact ⟨_,0,h4,rfl,rfl,h7⟩
  ·rw [h5] at h4
   obtain ⟨e,h7,h8⟩ :=h4
   rw [h10]
   exact ⟨_,e,h8,h7⟩
theorem sp_byte {st:Option Nat} {at_ e:Int} (h:RdS d st at_ e) (B:S_Box) (du by_:Int) (ix:List S_Entry) :
  ∃ at' e',m_Sf (S_l16R.mk d at_ e B du by_ ix)=some ((byteS d st).1,S_l16R.mk d at' e' B du by_ ix)∧RdS d (byteS d st).2 at' e':=by
 cases st with
 | none=>exact ⟨at_,e,spec_byte_bad _ h,h⟩
 | some a=>
  obtain ⟨rfl,rfl,h3⟩ :=h
  unfold byteS
  dsimp only
  by_cases h4:a < d.length
  ·rw [if_pos h4]
   exact ⟨_,0,spec_byte_ok (S_l16R.mk d a 0 B du by_ ix) a hd hb rfl rfl h4,rfl,rfl,by omega⟩
  ·rw [if_neg h4]
   refine ⟨(a:Int),2,?_,by show (2:Int)≠0;decide⟩
   dsimp only [m_Sf,m_Sf_0]
   have:=spec_take_no (S_l16R.mk d a 0 B du by_ ix) a 1 hd rfl rfl h3 (by show d.length < a+1;omega)
   rw [show ((1:Nat):Int)=1 from rfl] at this
   rw [this];rfl
theorem im_byte {st:Option Nat} {at_ e:Int} (h:RdS d st at_ e) :
  ∃ at' e',m_Ig (S_zreader.mk d at_ e)=some ((byteS d st).1,S_zreader.mk d at' e')∧RdS d (byteS d st).2 at' e':=by
 cases st with
 | none=>exact ⟨at_,e,impl_byte_bad _ h,h⟩
 | some a=>
  obtain ⟨rfl,rfl,h3⟩ :=h
  unfold byteS
  dsimp only
  by_cases h4:a < d.length
  ·rw [if_pos h4]
   exact ⟨_,0,impl_byte_ok (S_zreader.mk d a 0) a hd hb rfl rfl h4,rfl,rfl,by omega⟩
  ·rw [if_neg h4]
   refine ⟨(a:Int),2,?_,by show (2:Int)≠0;decide⟩
   dsimp only [m_Ig,m_Ig_0]
   have:=impl_bytes_no (S_zreader.mk d a 0) a 1 hd rfl rfl h3 (by show d.length < a+1;omega)
   rw [show ((1:Nat):Int)=1 from rfl] at this
   rw [this];rfl
omit hd hb in
theorem sp_fail {st:Option Nat} {at_ e:Int} (h:RdS d st at_ e) (c:Int) (hc:c≠0) (B:S_Box) (du by_:Int) (ix:List S_Entry) :
  ∃ at' e',m_Sg (S_l16R.mk d at_ e B du by_ ix) c=some (S_l16R.mk d at' e' B du by_ ix)∧RdS d none at' e':=by
 dsimp only [m_Sg,m_Sg_0]
 by_cases h0:e=0
 ·rw [if_pos (by simpa using h0)];exact ⟨_,c,rfl,hc⟩
 ·rw [if_neg (by simpa using h0)];exact ⟨_,e,rfl,h0⟩
omit hd hb in
theorem im_fail {st:Option Nat} {at_ e:Int} (h:RdS d st at_ e) (c:Int) (hc:c≠0) :
  ∃ at' e',m_Ii (S_zreader.mk d at_ e) c=some (S_zreader.mk d at' e')∧RdS d none at' e':=by
 dsimp only [m_Ii,m_Ii_0]
 by_cases h0:e=0
 ·rw [if_pos (by simpa using h0)];exact ⟨_,c,rfl,hc⟩
 ·rw [if_neg (by simpa using h0)];exact ⟨_,e,rfl,h0⟩
omit hd in
theorem slc_b {a n:Nat} : ∀ x ∈ slc d a n,0≤x∧x≤255:=fun x hx=>hb x (List.mem_of_mem_take (List.mem_of_mem_drop hx))
omit hd hb in
theorem slc_ln {a n:Nat} (h:a+n≤d.length):(slc d a n).length=n:=by unfold slc;simp;omega
end
theorem four {l:List Int} (h:l.length=4):∃ a b c e,l=[a,b,c,e]:=by
 match l,h with
 | [a,b,c,e],_=>exact ⟨a,b,c,e,rfl⟩
theorem l5int4 (a b c e:Int) (ha:0≤a∧a≤255) (hb:0≤b∧b≤255) (hc:0≤c∧c≤255) (he:0≤e∧e≤255):m_Sq [a,b,c,e]=some (be4 [a,b,c,e]):=by
 have key:loopM (lp_Sq_9 [a,b,c,e]) (0,0)=some (be4 [a,b,c,e]):=by
  refine (loopM_fun (b:=lp_Sq_9 [a,b,c,e]) (fun i (s:Int)=>(s,(i:Int))) 4 (fun i=>([0,a,a*256+b,(a*256+b)*256+c,((a*256+b)*256+c)*256+e]:List Int).getD i 0) (e:=be4 [a,b,c,e]) ?_ ?_ :)
  ·intro i hi
   dsimp only [lp_Sq_9,m_Sq_9]
   match i,hi with
   | 0,_=>
    rw [if_pos (by simp),rd_d 0 (by simp)]
    simp only [Option.bind_some,List.getD_cons_zero,List.getD_cons_succ]
    rw [w64_id (x:=0*256) (by omega) (by omega),w64_id (x:=a) (by omega) (by omega),w64_id (by omega) (by omega),w64_succ (by omega)]
    simp
   | 1,_=>
    rw [if_pos (by simp),rd_d 0 (by simp)]
    simp only [Option.bind_some,List.getD_cons_zero,List.getD_cons_succ]
    rw [w64_id (x:=a*256) (by omega) (by omega),w64_id (x:=b) (by omega) (by omega),w64_id (by omega) (by omega),w64_succ (by omega)]
   | 2,_=>
    rw [if_pos (by simp),rd_d 0 (by simp)]
    simp only [Option.bind_some,List.getD_cons_zero,List.getD_cons_succ]
    rw [w64_id (x:=(a*256+b)*256) (by omega) (by omega),w64_id (x:=c) (by omega) (by omega),w64_id (by omega) (by omega),w64_succ (by omega)]
   | 3,_=>
    rw [if_pos (by simp),rd_d 0 (by simp)]
    simp only [Option.bind_some,List.getD_cons_zero,List.getD_cons_succ]
    rw [w64_id (x:=((a*256+b)*256+c)*256) (by omega) (by omega),w64_id (x:=e) (by omega) (by omega),w64_id (by omega) (by omega),w64_succ (by omega)]
  ·dsimp only [lp_Sq_9,m_Sq_9]
   rw [if_neg (by simp)]
   rfl
 dsimp only [m_Sq,m_Sq_0]
 rw [key];rfl
theorem zget4_4 (a b c e:Int) (ha:0≤a∧a≤255) (hb:0≤b∧b≤255) (hc:0≤c∧c≤255) (he:0≤e∧e≤255):m_Id [a,b,c,e]=some (be4 [a,b,c,e]):=by
 obtain ⟨a,rfl⟩:∃ n:Nat,a=n:=⟨a.toNat,by omega⟩
 obtain ⟨b,rfl⟩:∃ n:Nat,b=n:=⟨b.toNat,by omega⟩
 obtain ⟨c,rfl⟩:∃ n:Nat,c=n:=⟨c.toNat,by omega⟩
 obtain ⟨e,rfl⟩:∃ n:Nat,e=n:=⟨e.toNat,by omega⟩
 dsimp only [m_Id,m_Id_0]
 rw [show ((0:Int))=((0:Nat):Int) from rfl,show ((1:Int))=((1:Nat):Int) from rfl,show ((2:Int))=((2:Nat):Int) from rfl,show ((3:Int))=((3:Nat):Int) from rfl,rd_d 0 (by simp),rd_d 0 (by simp),rd_d 0 (by simp),rd_d 0 (by simp)]
 simp only [Option.bind_some,List.getD_cons_zero,List.getD_cons_succ]
 rw [w64_id (x:=(a:Int)) (by omega) (by omega),w64_id (x:=(b:Int)) (by omega) (by omega),w64_id (x:=(c:Int)) (by omega) (by omega),w64_id (x:=(e:Int)) (by omega) (by omega)]
 have s24:=shl64i a 24 (by omega) (by omega)
 have s16:=shl64i b 16 (by omega) (by omega)
 have s8:=shl64i c 8 (by omega) (by omega)
 rw [show ((24:Nat):Int)=24 from rfl] at s24
 rw [show ((16:Nat):Int)=16 from rfl] at s16
 rw [show ((8:Nat):Int)=8 from rfl] at s8
 rw [s24,s16,s8,or64i _ _ (by omega) (by omega)]
 have e1:a*2 ^ 24 ||| b*2 ^ 16=(a*2 ^ 8+b)*2 ^ 16:=by rw [or_nat a (b*2 ^ 16) 24 (by omega)];omega
 rw [e1,or64i _ _ (by omega) (by omega)]
 have e2:(a*2 ^ 8+b)*2 ^ 16 ||| c*2 ^ 8=((a*2 ^ 8+b)*2 ^ 8+c)*2 ^ 8:=by rw [or_nat (a*2 ^ 8+b) (c*2 ^ 8) 16 (by omega)];omega
 rw [e2,or64i _ _ (by omega) (by omega),or_nat _ _ 8 (by omega)]
 unfold be4
 simp only [List.getD_cons_zero,List.getD_cons_succ]
 congr 1
section
variable {d:List Int} (hd:d.length≤1048576) (hb:∀ x ∈ d,0≤x∧x≤255)
include hd hb
theorem be4_both {a:Nat} (h:a+4≤d.length):m_Sq (slc d a 4)=some (be4 (slc d a 4))∧m_Id (slc d a 4)=some (be4 (slc d a 4))∧0≤be4 (slc d a 4)∧be4 (slc d a 4) < 4294967296:=by
 have h1:=slc_b hb (a:=a) (n:=4)
 obtain ⟨x,y,z,w,h2⟩ :=four (slc_ln h)
 rw [h2] at h1 ⊢
 have hx:=h1 x (by simp)
 have hy:=h1 y (by simp)
 have hz:=h1 z (by simp)
 have hw:=h1 w (by simp)
 refine ⟨l5int4 x y z w hx hy hz hw,zget4_4 x y z w hx hy hz hw,?_⟩
 unfold be4
 simp only [List.getD_cons_zero,List.getD_cons_succ]
 omega
theorem sp_sum {st:Option Nat} {at_ e:Int} (h:RdS d st at_ e) (f:Nat) (hf:∀ a,st=some a→f≤a) (B:S_Box) (du by_:Int) (ix:List S_Entry) :
  ∃ at' e',m_Sm (S_l16R.mk d at_ e B du by_ ix) f=some (S_l16R.mk d at' e' B du by_ ix)∧RdS d (sumS d f st) at' e':=by
 dsimp only [m_Sm,m_Sm_0]
 obtain ⟨at1,e1,h1,h2⟩ :=sp_take hd h 4 (by omega) B du by_ ix
 rw [h1]
 simp only [Option.bind_some]
 cases st with
 | none=>
  have h2' : e1≠0:=h2
  rw [if_neg (by simpa using h2')]
  exact ⟨_,_,rfl,h2⟩
 | some a=>
  have hfa:=hf a rfl
  obtain ⟨rfl,rfl,h3⟩ :=h
  unfold takeS at h2 ⊢
  unfold sumS
  dsimp only at h2 ⊢
  by_cases h4:(a:Int)+4≤d.length
  ·have h4' : a+4≤d.length:=by omega
   rw [if_pos h4] at h2 ⊢
   obtain ⟨rfl,rfl,h5⟩ :=h2
   obtain ⟨b1,b2,b3,b4⟩ :=be4_both hd hb h4'
   rw [if_pos (by simp),show Int.toNat 4=4 from rfl,b1]
   simp only [Option.bind_some]
   rw [ck_eq (by omega)]
   simp only [Option.bind_some]
   rw [ck_eq (by simp;omega)]
   simp only [Option.bind_some,Int.toNat_natCast]
   have e3:(d.take a).drop f=slc d f (a - f):=by unfold slc;rw [show f+(a - f)=a by omega]
   rw [e3,spec_crc _ (by rw [slc_ln (by omega)];omega)]
   simp only [Option.bind_some]
   rw [wu32_id (by omega) (by omega)]
   dsimp only [m_Sm_6]
   by_cases h6:be4 (slc d a 4)=crcF (slc d f (a - f))
   ·rw [if_neg (by simpa using h6),if_pos ⟨h4',h6⟩]
    exact ⟨_,_,rfl,rfl,rfl,h5⟩
   ·rw [if_pos (by simpa using h6),if_neg (fun hh=>h6 hh.2)]
    exact ⟨((a+4:Nat):Int),3,rfl,by show (3:Int)≠0;decide⟩
  ·rw [if_neg h4] at h2
   have h2' : e1≠0:=h2
   rw [if_neg h4,if_neg (by simpa using h2'),if_neg (fun hh=>h4 (by omega))]
   exact ⟨_,_,rfl,h2⟩
theorem im_sum {st:Option Nat} {at_ e:Int} (h:RdS d st at_ e) (f:Nat) (hf:∀ a,st=some a→f≤a) :
  ∃ at' e',m_Im (S_zreader.mk d at_ e) f=some (S_zreader.mk d at' e')∧RdS d (sumS d f st) at' e':=by
 dsimp only [m_Im,m_Im_0]
 obtain ⟨at1,e1,h1,h2⟩ :=im_take hd h 4 (by omega)
 rw [h1]
 simp only [Option.bind_some]
 cases st with
 | none=>
  have h2' : e1≠0:=h2
  rw [if_neg (by simpa using h2')]
  exact ⟨_,_,rfl,h2⟩
 | some a=>
  have hfa:=hf a rfl
  obtain ⟨rfl,rfl,h3⟩ :=h
  unfold takeS at h2 ⊢
  unfold sumS
  dsimp only at h2 ⊢
  by_cases h4:(a:Int)+4≤d.length
  ·have h4' : a+4≤d.length:=by omega
   rw [if_pos h4] at h2 ⊢
   obtain ⟨rfl,rfl,h5⟩ :=h2
   obtain ⟨b1,b2,b3,b4⟩ :=be4_both hd hb h4'
   rw [if_pos (by simp),show Int.toNat 4=4 from rfl,b2]
   simp only [Option.bind_some]
   rw [ck_eq (by omega)]
   simp only [Option.bind_some]
   rw [ck_eq (by simp;omega)]
   simp only [Option.bind_some,Int.toNat_natCast]
   have e3:(d.take a).drop f=slc d f (a - f):=by unfold slc;rw [show f+(a - f)=a by omega]
   have c1:=crcF_rng (slc d f (a - f))
   rw [e3,impl_crc _ (by rw [slc_ln (by omega)];omega)]
   simp only [Option.bind_some]
   rw [w64_id (by omega) (by omega)]
   dsimp only [m_Im_6]
   by_cases h6:be4 (slc d a 4)=crcF (slc d f (a - f))
   ·rw [if_neg (by simpa using h6),if_pos ⟨h4',h6⟩]
    exact ⟨_,_,rfl,rfl,rfl,h5⟩
   ·rw [if_pos (by simpa using h6),if_neg (fun hh=>h6 hh.2)]
    exact ⟨((a+4:Nat):Int),3,rfl,by show (3:Int)≠0;decide⟩
  ·rw [if_neg h4] at h2
   have h2' : e1≠0:=h2
   rw [if_neg h4,if_neg (by simpa using h2'),if_neg (fun hh=>h4 (by omega))]
   exact ⟨_,_,rfl,h2⟩
end
end Go.Proofs.V

namespace Go.Proofs.V
open Go
theorem loop_all {b:Int→Option (Int⊕(Bool⊕Unit))} (n:Nat) (q:Nat→Bool) (i0:Nat) (step:∀ i:Nat,i0≤i→i < n→b (i:Int)=some (if q i then .inl (((i+1:Nat)):Int) else .inr (.inl false)))
  (done:∀ i:Nat,n≤i→i≤n+i0→b (i:Int)=some (.inr (.inr ()))):loopM b (i0:Int)=some (if (List.range' i0 (n - i0)).all q then .inr () else .inl false):=by
 have key:∀ (d i:Nat),n - i=d→i0≤i→i≤n+i0→loopM b (i:Int)=some (if (List.range' i (n - i)).all q then .inr () else .inl false):=by
  intro d
  induction d with
  | zero=>
   intro i hd h0 h1
   rw [loopM_eq,done i (by omega) h1,hd]
   rfl
  | succ d ih=>
   intro i hd h0 h1
   rw [loopM_eq,step i h0 (by omega),show n - i=(n - (i+1))+1 by omega,List.range'_succ,List.all_cons]
   cases hq:q i with
   | true=>
    simp only [if_true,Bool.true_and]
    exact ih (i+1) (by omega) (by omega) (by omega)
   | false=>simp
 exact key _ i0 rfl (Nat.le_refl _) (by omega)
def bytesOk (s:ByteArray):Bool:=s.data.toList.all fun b=>decide (32≤b.toNat)&&decide (b.toNat≤126)
def trackOk (t:S_Track):Bool:=decide (1≤t.kind∧t.kind≤6∧1≤t.scale∧t.scale≤1000000∧t.name.size≤40)&&bytesOk t.name
theorem sat_eq {s:ByteArray} {i:Nat} (h:i < s.data.toList.length):sat s (i:Int)=some ((s.data.toList[i].toNat:Nat):Int):=by
 unfold sat
 rw [if_pos (by omega),Int.toNat_natCast]
 have h' : i < s.size:=by simpa using h
 rw [getElem?_pos s i h']
 rfl
theorem size_toList (s:ByteArray):s.data.toList.length=s.size:=Array.length_toList
theorem bytes_loop {s:ByteArray} {b:Int→Option (Int⊕(Bool⊕Unit))} (hs:s.size < 4611686018427387904) (h:∀ i:Int,b i=if (decide (i < (s.size:Int))) then (sat s i).bind fun x=>if (decide (x < 32)) then some (.inr (.inl false)) else if (decide (x > 126)) then some (.inr (.inl false)) else some (.inl (w64 (i+1))) else some (.inr (.inr ()))) :
  loopM b 0=some (bif bytesOk s then .inr () else .inl false):=by
 have hl:=size_toList s
 refine all_list (l:=s.data.toList) (q:=fun b=>decide (32≤b.toNat)&&decide (b.toNat≤126)) (by omega) (fun i hi=>?_) ?_
 ·rw [h,if_pos (by rw [←hl];simpa using hi),sat_eq hi]
  simp only [Option.bind_some]
  rw [w64_succ (by omega)]
  generalize s.data.toList[i].toNat=x
  by_cases h1:x < 32
  ·rw [if_pos (by simp;omega),if_neg (by simp;omega)]
  ·rw [if_neg (by simp;omega)]
   by_cases h2:x > 126
   ·rw [if_pos (by simp;omega),if_neg (by simp;omega)]
   ·rw [if_neg (by simp;omega),if_pos (by simp;omega)]
 ·rw [h,if_neg (by rw [hl];simp)]
theorem spec_track (t:S_Track) (h:t.name.size < 4611686018427387904):m_Sp t=some (trackOk t):=by
 simp only [m_Sp,m_Sp_0,m_Sd,m_Sd_0]
 rw [bytes_loop (b:=lp_Sd_7 t.name) h (fun i=>rfl)]
 unfold trackOk
 by_cases h1:1≤t.kind
 ·rw [if_pos (by simpa using h1)]
  by_cases h2:t.kind≤6
  ·rw [if_pos (by simpa using h2)]
   by_cases h3:1≤t.scale
   ·rw [if_pos (by simpa using h3)]
    by_cases h4:t.scale≤1000000
    ·rw [if_pos (by simpa using h4)]
     by_cases h5:t.name.size≤40
     ·rw [if_pos (by simp;omega)]
      cases bytesOk t.name <;> simp [h1,h2,h3,h4,h5,m_Sd_23]
     ·rw [if_neg (by simp;omega)];simp [h5]
    ·rw [if_neg (by simpa using h4)];simp [h4]
   ·rw [if_neg (by simpa using h3)];simp [h3]
  ·rw [if_neg (by simpa using h2)];simp [h2]
 ·rw [if_neg (by simpa using h1)];simp [h1]
theorem impl_track (t:S_Track) (h:t.name.size < 4611686018427387904):m_Io t=some (trackOk t):=by
 simp only [m_Io,m_Io_0]
 rw [bytes_loop (b:=lp_Io_15 t) h (fun i=>rfl)]
 unfold trackOk
 by_cases h1:1≤t.kind
 ·rw [if_neg (by simp;omega)]
  by_cases h2:t.kind≤6
  ·rw [if_neg (by simp;omega)]
   by_cases h3:1≤t.scale
   ·rw [if_neg (by simp;omega)]
    by_cases h4:t.scale≤1000000
    ·rw [if_neg (by simp;omega)]
     by_cases h5:t.name.size≤40
     ·rw [if_neg (by simp;omega)]
      cases bytesOk t.name <;> simp [h1,h2,h3,h4,h5,m_Io_33]
     ·rw [if_pos (by simp;omega)];simp [h5]
    ·rw [if_pos (by simp;omega)];simp [h4]
   ·rw [if_pos (by simp;omega)];simp [h3]
  ·rw [if_pos (by simp;omega)];simp [h2]
 ·rw [if_pos (by simp;omega)];simp [h1]
def ticksOk (n:Int):Bool:=decide (0≤n∧n≤1000000000)
theorem spec_ticks (n:Int):m_So n=some (ticksOk n):=by
 simp only [m_So,m_So_0,ticksOk]
 by_cases h:0≤n
 ·rw [if_pos (by simpa using h)];simp [h]
 ·rw [if_neg (by simpa using h)];simp [h]
theorem impl_ticks (n:Int):m_In n=some (ticksOk n):=spec_ticks n
end Go.Proofs.V

namespace Go.Proofs.V
open Go
theorem loop_step {τ ε:Type} {b:τ→Option (τ⊕ε)} {s s' : τ} (h:b s=some (.inl s')):loopM b s=loopM b s':=by rw [loopM_eq,h]
theorem loop_end {τ ε:Type} {b:τ→Option (τ⊕ε)} {s:τ} {e:ε} (h:b s=some (.inr e)):loopM b s=some e:=by rw [loopM_eq,h]
theorem bytesOf_some:∀ (l:List Int),(∀ x ∈ l,0≤x∧x≤255)→∃ bs,bytesOf (l.map (rI .u8))=some bs∧bs.length=l.length
 | [],_=>⟨[],rfl,rfl⟩
 | x::l,h=>by
  obtain ⟨bs,h1,h2⟩ :=bytesOf_some l (fun y hy=>h y (List.mem_cons_of_mem _ hy))
  have hx:=h x List.mem_cons_self
  refine ⟨UInt8.ofNat x.toNat::bs,?_,by simp [h2]⟩
  show (if 0≤x∧x≤255 then (bytesOf (l.map (rI .u8))).map (UInt8.ofNat x.toNat :: ·) else none)=_
  rw [if_pos hx,h1];rfl
def nameOf (l:List Int):ByteArray:=(bstr l).getD default
theorem bstr_name {l:List Int} (h:∀ x ∈ l,0≤x∧x≤255):bstr l=some (nameOf l)∧(nameOf l).size=l.length:=by
 obtain ⟨bs,h1,h2⟩ :=bytesOf_some l h
 have h3:bstr l=some ⟨bs.toArray⟩ :=by unfold bstr;rw [h1];rfl
 unfold nameOf
 rw [h3]
 exact ⟨rfl,by rw [←h2];rfl⟩
def mkS (d:List Int) (c:Int) (st:Option Nat):Option Nat:=if (byteS d st).1=c then (byteS d st).2 else none
def magS (d:List Int):Option Nat:=mkS d 49 (mkS d 88 (mkS d 79 (mkS d 66 (some 0))))
def trkT (d:List Int) (st:Option Nat):S_Track×Option Nat:=
 (⟨(byteS d st).1,(numS d (byteS d st).2).1,nameOf (takeS d (byteS d (numS d (byteS d st).2).2).1 (byteS d (numS d (byteS d st).2).2).2).1⟩,(takeS d (byteS d (numS d (byteS d st).2).2).1 (byteS d (numS d (byteS d st).2).2).2).2)
def trkS (d:List Int) (st:Option Nat):S_Track×Option Nat:=((trkT d st).1,if trackOk (trkT d st).1=true then (trkT d st).2 else none)
def tracksS (d:List Int):Nat→List S_Track→Nat→Option (List S_Track×Nat)
 | 0,acc,a=>some (acc,a)
 | k+1,acc,a=>match (trkS d (some a)).2 with | some b=>tracksS d k (acc++[(trkS d (some a)).1]) b | none=>none
def headS (d:List Int):Option (List S_Track×Nat):=match (byteS d (magS d)).2 with
 | none=>none
 | some b=>if 1≤(byteS d (magS d)).1∧(byteS d (magS d)).1≤8 then (match tracksS d (byteS d (magS d)).1.toNat [] b with | none=>none | some (l,c)=>(match sumS d 0 (some c) with | none=>none | some e=>some (l,e))) else none
theorem byteS_none (d:List Int):byteS d none=(0,none):=rfl
theorem mkS_none (d:List Int) (c:Int):mkS d c none=none:=by unfold mkS byteS;simp
section
variable {d:List Int} (hd:d.length≤1048576) (hb:∀ x ∈ d,0≤x∧x≤255)
theorem takeS_len (n:Int) (st:Option Nat):(takeS d n st).1.length≤d.length:=by
 unfold takeS
 cases st with
 | none=>simp
 | some a=>
  dsimp only
  split
  ·unfold slc;simp;omega
  ·simp
theorem RdS_e {st:Option Nat} {at_ e:Int} (h:RdS d st at_ e):(e == 0)=st.isSome:=by
 cases st with
 | none=>have h' : e≠0:=h;simpa using h'
 | some a=>simp [h.1]
theorem RdS_ne {st:Option Nat} {at_ e:Int} (h:RdS d st at_ e):(e != 0)=st.isNone:=by
 cases st with
 | none=>have h' : e≠0:=h;simpa using h'
 | some a=>simp [h.1]
include hb
theorem byteS_rng (st:Option Nat):0≤(byteS d st).1∧(byteS d st).1≤255:=by
 unfold byteS
 cases st with
 | none=>simp
 | some a=>
  dsimp only
  by_cases h:a < d.length
  ·rw [if_pos h];exact hb _ (mem_gd h)
  ·rw [if_neg h];simp
theorem takeS_b (n:Int) (st:Option Nat):∀ x ∈ (takeS d n st).1,0≤x∧x≤255:=by
 unfold takeS
 cases st with
 | none=>simp
 | some a=>
  dsimp only
  split
  ·exact slc_b hb
  ·simp
include hd
theorem trk_name (st:Option Nat):bstr (takeS d (byteS d (numS d (byteS d st).2).2).1 (byteS d (numS d (byteS d st).2).2).2).1=some (trkT d st).1.name∧(trkT d st).1.name.size < 4611686018427387904:=by
 have h1:=bstr_name (takeS_b hb (byteS d (numS d (byteS d st).2).2).1 (byteS d (numS d (byteS d st).2).2).2)
 have h2:=takeS_len (d:=d) (byteS d (numS d (byteS d st).2).2).1 (byteS d (numS d (byteS d st).2).2).2
 exact ⟨h1.1,by show (nameOf _).size < _;rw [h1.2];omega⟩
theorem spec_mag_step {st:Option Nat} {at_ e:Int} (h:RdS d st at_ e) (i:Nat) (hi:i < 4) (c:Int) (hc:([66,79,88,49]:List Int)[i]? = some c) (du by_:Int) (T:List S_Track) (P:List S_Packet) (ix:List S_Entry) :
  ∃ at' e',lp_Sh_5 ((i:Int),d,at_,e,du,by_,([66,79,88,49]:List Int),T,P,ix)=some (.inl (((i+1:Nat):Int),d,at',e',du,by_,([66,79,88,49]:List Int),T,P,ix))∧RdS d (mkS d c st) at' e':=by
 dsimp only [lp_Sh_5,m_Sh_5]
 have hr:rd ([66,79,88,49]:List Int) (i:Int)=some c:=by unfold rd;rw [if_pos (by omega)];exact hc
 have hc2:w64 c=c:=by
  have:c ∈ ([66,79,88,49]:List Int):=List.mem_of_getElem? hc
  simp at this
  rcases this with rfl | rfl | rfl | rfl <;> exact w64_id (by omega) (by omega)
 rw [if_pos (by simp;omega),hr]
 simp only [Option.bind_some]
 obtain ⟨at1,e1,h1,h2⟩ :=sp_byte hd hb h (S_Box.mk T P) du by_ ix
 rw [h1]
 simp only [Option.bind_some]
 rw [RdS_e h2,hc2]
 unfold mkS
 dsimp only [m_Sh_19]
 rw [w64_succ (by omega)]
 cases hq:(byteS d st).2 with
 | none=>
  simp only [Option.isSome_none,Bool.false_eq_true,if_false]
  rw [hq] at h2
  exact ⟨_,_,rfl,by split <;> exact h2⟩
 | some b=>
  simp only [Option.isSome_some,if_true]
  rw [hq] at h2
  by_cases hc3:(byteS d st).1=c
  ·rw [if_neg (by simpa using hc3),if_pos hc3]
   exact ⟨_,_,rfl,h2⟩
  ·rw [if_pos (by simpa using hc3),if_neg hc3]
   obtain ⟨at3,e3,h3,h4⟩ :=sp_fail h2 4 (by decide) (S_Box.mk T P) du by_ ix
   rw [h3]
   exact ⟨_,_,rfl,h4⟩
theorem spec_mag (du by_:Int) (T:List S_Track) (P:List S_Packet) (ix:List S_Entry) :
  ∃ at' e',loopM lp_Sh_5 (0,d,0,0,du,by_,([66,79,88,49]:List Int),T,P,ix)=some (d,at',e',du,by_,T,P,ix)∧RdS d (magS d) at' e':=by
 have h0:RdS d (some 0) 0 0:=⟨rfl,rfl,Nat.zero_le _⟩
 obtain ⟨a1,e1,h1,g1⟩ :=spec_mag_step hd hb h0 0 (by omega) 66 rfl du by_ T P ix
 obtain ⟨a2,e2,h2,g2⟩ :=spec_mag_step hd hb g1 1 (by omega) 79 rfl du by_ T P ix
 obtain ⟨a3,e3,h3,g3⟩ :=spec_mag_step hd hb g2 2 (by omega) 88 rfl du by_ T P ix
 obtain ⟨a4,e4,h4,g4⟩ :=spec_mag_step hd hb g3 3 (by omega) 49 rfl du by_ T P ix
 refine ⟨a4,e4,?_,g4⟩
 refine (loop_step h1).trans ((loop_step h2).trans ((loop_step h3).trans ((loop_step h4).trans (loop_end ?_))))
 dsimp only [lp_Sh_5,m_Sh_5]
 rw [if_neg (by simp)]
theorem spec_trk_step (x:Int×S_l16R) (n:Nat) (hx:x.1=n) (hn:n≤255) (du by_:Int) (P:List S_Packet) (ix:List S_Entry) (i:Nat) (T:List S_Track) (a:Nat) (hi:i < n) (hT:T.length=i) (ha:a≤d.length) :
  ∃ at' e',lp_Sh_36 x ((i:Int),d,(a:Int),0,du,by_,T,P,ix)=some (.inl (((i+1:Nat):Int),d,at',e',du,by_,T++[(trkS d (some a)).1],P,ix))∧RdS d (trkS d (some a)).2 at' e':=by
 dsimp only [lp_Sh_36,m_Sh_36]
 have h0:RdS d (some a) a 0:=⟨rfl,rfl,ha⟩
 rw [if_pos (by rw [hx];simp;omega),if_pos (by simp)]
 obtain ⟨a1,e1,h1,g1⟩ :=sp_byte hd hb h0 (S_Box.mk T P) du by_ ix
 rw [h1]
 simp only [Option.bind_some]
 obtain ⟨a2,e2,h2,g2⟩ :=sp_number hd hb g1 (S_Box.mk T P) du by_ ix
 rw [h2]
 simp only [Option.bind_some]
 obtain ⟨a3,e3,h3,g3⟩ :=sp_byte hd hb g2 (S_Box.mk T P) du by_ ix
 rw [h3]
 simp only [Option.bind_some]
 have hr3:=byteS_rng hb (numS d (byteS d (some a)).2).2
 obtain ⟨a4,e4,h4,g4⟩ :=sp_take hd g3 (byteS d (numS d (byteS d (some a)).2).2).1 (by omega) (S_Box.mk T P) du by_ ix
 rw [h4]
 simp only [Option.bind_some]
 obtain ⟨n1,n2⟩ :=trk_name hd hb (some a)
 rw [n1]
 simp only [Option.bind_some]
 rw [RdS_e g4]
 have e58:∀ at_ e,m_Sh_58 x (i:Int) ((byteS d (some a)).1,S_l16R.mk d a1 e1 (S_Box.mk T P) du by_ ix) ((numS d (byteS d (some a)).2).1,S_l16R.mk d a2 e2 (S_Box.mk T P) du by_ ix) (trkT d (some a)).1.name d at_ e du by_ T P ix=some (.inl (((i+1:Nat):Int),d,at_,e,du,by_,T++[(trkT d (some a)).1],P,ix)):=by
  intro at_ e
  dsimp only [m_Sh_58]
  rw [ck_eq (by simp;omega)]
  simp only [Option.bind_some]
  rw [w64_succ (by omega)]
  rfl
 have g4' : RdS d (trkT d (some a)).2 a4 e4:=g4
 have et:S_Track.mk (byteS d (some a)).1 (numS d (byteS d (some a)).2).1 (trkT d (some a)).1.name=(trkT d (some a)).1:=rfl
 rw [show (takeS d (byteS d (numS d (byteS d (some a)).2).2).1 (byteS d (numS d (byteS d (some a)).2).2).2).2=(trkT d (some a)).2 from rfl,et]
 unfold trkS
 dsimp only
 cases hq:(trkT d (some a)).2 with
 | none=>
  rw [hq] at g4'
  simp only [Option.isSome_none,Bool.false_eq_true,if_false,ite_self]
  dsimp only [m_Sh_55]
  rw [if_neg (by simp),e58]
  exact ⟨_,_,rfl,g4'⟩
 | some b=>
  rw [hq] at g4'
  simp only [Option.isSome_some,if_true]
  rw [spec_track _ n2]
  simp only [Option.bind_some]
  dsimp only [m_Sh_55]
  cases trackOk (trkT d (some a)).1 with
  | true=>
   rw [if_neg (by simp),e58,if_pos rfl]
   exact ⟨_,_,rfl,g4'⟩
  | false=>
   obtain ⟨a5,e5,h5,g5⟩ :=sp_fail g4' 5 (by decide) (S_Box.mk T P) du by_ ix
   rw [if_pos (by simp),h5]
   simp only [Option.bind_some]
   rw [e58,if_neg (by simp)]
   exact ⟨_,_,rfl,g5⟩
theorem spec_tracks_loop (x:Int×S_l16R) (n:Nat) (hx:x.1=n) (hn:n≤255) (du by_:Int) (P:List S_Packet) (ix:List S_Entry):∀ (k i:Nat) (T:List S_Track) (a:Nat),i+k=n→T.length=i→a≤d.length→
  ∃ at' e' T',loopM (lp_Sh_36 x) ((i:Int),d,(a:Int),0,du,by_,T,P,ix)=some (d,at',e',du,by_,T',P,ix)∧(match tracksS d k T a with | some (l,b)=>T' = l∧RdS d (some b) at' e' | none=>e'≠0):=by
 intro k
 induction k with
 | zero=>
  intro i T a hi hT ha
  rw [loopM_eq]
  dsimp only [lp_Sh_36,m_Sh_36]
  rw [if_neg (by rw [hx];simp;omega)]
  exact ⟨_,_,_,rfl,rfl,rfl,rfl,ha⟩
 | succ k ih=>
  intro i T a hi hT ha
  obtain ⟨a1,e1,h1,g1⟩ :=spec_trk_step hd hb x n hx hn du by_ P ix i T a (by omega) hT ha
  rw [loop_step h1]
  unfold tracksS
  cases hq:(trkS d (some a)).2 with
  | none=>
   rw [hq] at g1
   have g1' : e1≠0:=g1
   refine ⟨a1,e1,T++[(trkS d (some a)).1],loop_end ?_,g1'⟩
   dsimp only [lp_Sh_36,m_Sh_36]
   rw [if_neg (show ¬ ((e1 == 0)=true) by simpa using g1'),ite_self]
  | some b=>
   rw [hq] at g1
   obtain ⟨rfl,rfl,hb'⟩ :=g1
   exact ih (i+1) _ b (by omega) (by simp;omega) hb'
theorem spec_head (du by_:Int) (ix:List S_Entry) (P:List S_Packet):∃ at' e' T',m_Sh (S_l16R.mk d 0 0 (S_Box.mk [] P) du by_ ix)=some (S_l16R.mk d at' e' (S_Box.mk T' P) du by_ ix)∧(match headS d with | some (l,b)=>T' = l∧RdS d (some b) at' e' | none=>e'≠0):=by
 dsimp only [m_Sh,m_Sh_0]
 obtain ⟨a1,e1,h1,g1⟩ :=spec_mag hd hb du by_ [] P ix
 rw [h1]
 simp only [Option.bind_some]
 dsimp only [m_Sh_23]
 obtain ⟨a2,e2,h2,g2⟩ :=sp_byte hd hb g1 (S_Box.mk [] P) du by_ ix
 rw [h2]
 simp only [Option.bind_some]
 rw [RdS_e g2]
 have hr:=byteS_rng hb (magS d)
 have bad:∀ (at_ e:Int),e≠0→∃ at' e' T',m_Sh_31 ((byteS d (magS d)).1,S_l16R.mk d a2 e2 (S_Box.mk [] P) du by_ ix) d at_ e du by_ [] P ix=some (S_l16R.mk d at' e' (S_Box.mk T' P) du by_ ix)∧e'≠0:=by
  intro at_ e he
  dsimp only [m_Sh_31]
  rw [loop_end (e:=(d,at_,e,du,by_,[],P,ix)) (by
   dsimp only [lp_Sh_36,m_Sh_36]
   rw [if_neg (show ¬ ((e == 0)=true) by simpa using he),ite_self])]
  simp only [Option.bind_some]
  dsimp only [m_Sh_60]
  obtain ⟨a3,e3,h3,g3⟩ :=sp_sum hd hb (show RdS d none at_ e from he) 0 (by simp) (S_Box.mk [] P) du by_ ix
  rw [show ((0:Int))=((0:Nat):Int) from rfl,h3]
  exact ⟨_,_,_,rfl,g3⟩
 unfold headS
 cases hq:(byteS d (magS d)).2 with
 | none=>
  rw [hq] at g2
  simp only [Option.isSome_none,Bool.false_eq_true,if_false]
  dsimp only [m_Sh_28]
  rw [if_neg (by simp)]
  exact bad _ _ g2
 | some b=>
  rw [hq] at g2
  simp only [Option.isSome_some,if_true]
  have e28:(if decide ((byteS d (magS d)).1 < 1)=true then m_Sh_28 ((byteS d (magS d)).1,S_l16R.mk d a2 e2 (S_Box.mk [] P) du by_ ix) true else m_Sh_28 ((byteS d (magS d)).1,S_l16R.mk d a2 e2 (S_Box.mk [] P) du by_ ix) (decide ((byteS d (magS d)).1 > 8)))
    = m_Sh_28 ((byteS d (magS d)).1,S_l16R.mk d a2 e2 (S_Box.mk [] P) du by_ ix) (!decide (1≤(byteS d (magS d)).1∧(byteS d (magS d)).1≤8)):=by
   by_cases k1:(byteS d (magS d)).1 < 1
   ·rw [if_pos (by simpa using k1),show decide (1≤(byteS d (magS d)).1∧(byteS d (magS d)).1≤8)=false by simp;omega];rfl
   ·rw [if_neg (by simpa using k1)]
    congr 1
    by_cases k2:(byteS d (magS d)).1≤8
    ·rw [show decide (1≤(byteS d (magS d)).1∧(byteS d (magS d)).1≤8)=true by simp;omega,show decide ((byteS d (magS d)).1 > 8)=false by simp;omega];rfl
    ·rw [show decide (1≤(byteS d (magS d)).1∧(byteS d (magS d)).1≤8)=false by simp;omega,show decide ((byteS d (magS d)).1 > 8)=true by simp;omega];rfl
  rw [e28]
  dsimp only [m_Sh_28]
  by_cases k:1≤(byteS d (magS d)).1∧(byteS d (magS d)).1≤8
  ·rw [if_neg (by rw [decide_eq_true k];simp),if_pos k]
   dsimp only [m_Sh_31]
   obtain ⟨rfl,rfl,hb2⟩ :=g2
   obtain ⟨n,hn⟩:∃ n:Nat,(byteS d (magS d)).1=n:=⟨(byteS d (magS d)).1.toNat,by omega⟩
   obtain ⟨a3,e3,T',h3,g3⟩ :=spec_tracks_loop hd hb ((byteS d (magS d)).1,S_l16R.mk d b 0 (S_Box.mk [] P) du by_ ix) n hn (by omega) du by_ P ix n 0 [] b (by omega) rfl hb2
   rw [show (((0:Nat):Int))=0 from rfl] at h3
   rw [h3]
   simp only [Option.bind_some]
   dsimp only [m_Sh_60]
   rw [hn,Int.toNat_natCast]
   cases hqq:tracksS d n [] b with
   | none=>
    rw [hqq] at g3
    obtain ⟨a4,e4,h4,g4⟩ :=sp_sum hd hb (show RdS d none a3 e3 from g3) 0 (by simp) (S_Box.mk T' P) du by_ ix
    rw [show ((0:Int))=((0:Nat):Int) from rfl,h4]
    exact ⟨_,_,_,rfl,g4⟩
   | some lc=>
    obtain ⟨l,c⟩ :=lc
    rw [hqq] at g3
    obtain ⟨rfl,g3⟩ :=g3
    obtain ⟨a4,e4,h4,g4⟩ :=sp_sum hd hb g3 0 (by simp) (S_Box.mk T' P) du by_ ix
    rw [show ((0:Int))=((0:Nat):Int) from rfl,h4]
    refine ⟨_,_,_,rfl,?_⟩
    dsimp only
    cases hs:sumS d 0 (some c) with
    | none=>rw [hs] at g4;exact g4
    | some e=>rw [hs] at g4;exact ⟨rfl,g4⟩
  ·rw [if_pos (by rw [decide_eq_false k];rfl),if_neg k]
   obtain ⟨a5,e5,h5,g5⟩ :=sp_fail g2 5 (by decide) (S_Box.mk [] P) du by_ ix
   rw [h5]
   simp only [Option.bind_some]
   exact bad _ _ g5
omit hd hb in
theorem byteS_lt {i:Nat} (h:i < d.length):byteS d (some i)=(d.getD i 0,some (i+1)):=by unfold byteS;dsimp only;rw [if_pos h]
omit hd hb in
theorem byteS_ge {i:Nat} (h : ¬ i < d.length):byteS d (some i)=(0,none):=by unfold byteS;dsimp only;rw [if_neg h]
omit hd hb in
theorem mkS_some {c:Int} {i b:Nat} (h:mkS d c (some i)=some b):b=i+1∧i < d.length∧d.getD i 0=c:=by
 unfold mkS at h
 by_cases h1:i < d.length
 ·rw [byteS_lt h1] at h
  dsimp only at h
  by_cases h2:d.getD i 0=c
  ·rw [if_pos h2] at h
   exact ⟨by simpa using h.symm,h1,h2⟩
  ·rw [if_neg h2] at h;simp at h
 ·rw [byteS_ge h1] at h;simp at h
omit hd hb in
theorem zm_step (s:ByteArray) (hs:s.size=4) (i:Nat) (hi:i < 4) (c:Int) (hc:sat s (i:Int)=some c) :
  ∃ e:Int,e≠0∧lp_Ie_7 d s (i:Int)=match mkS d c (some i) with | some _=>some (.inl ((i+1:Nat):Int)) | none=>some (.inr (.inl e)):=by
 dsimp only [lp_Ie_7,m_Ie_7]
 rw [if_pos (by rw [hs];simp;omega)]
 unfold mkS
 by_cases h1:i < d.length
 ·rw [byteS_lt h1,if_neg (by simp;omega),rd_d 0 h1,hc]
  simp only [Option.bind_some]
  refine ⟨4,by decide,?_⟩
  rw [w64_succ (by omega)]
  by_cases h2:d.getD i 0=c
  ·rw [if_pos h2,if_neg (by simpa using h2)]
  ·rw [if_neg h2,if_pos (by simpa using h2)]
 ·rw [byteS_ge h1,if_pos (by simp;omega)]
  refine ⟨2,by decide,?_⟩
  simp
omit hd hb in
theorem impl_mag:∃ c,m_Ie d (ByteArray.mk #[66,79,88,49])=some c∧(match magS d with | some a=>c=0∧a=4∧4≤d.length | none=>c≠0):=by
 dsimp only [m_Ie,m_Ie_0]
 obtain ⟨e1,h1,s1⟩ :=zm_step (d:=d) (ByteArray.mk #[66,79,88,49]) rfl 0 (by omega) 66 rfl
 obtain ⟨e2,h2,s2⟩ :=zm_step (d:=d) (ByteArray.mk #[66,79,88,49]) rfl 1 (by omega) 79 rfl
 obtain ⟨e3,h3,s3⟩ :=zm_step (d:=d) (ByteArray.mk #[66,79,88,49]) rfl 2 (by omega) 88 rfl
 obtain ⟨e4,h4,s4⟩ :=zm_step (d:=d) (ByteArray.mk #[66,79,88,49]) rfl 3 (by omega) 49 rfl
 unfold magS
 cases q1:mkS d 66 (some 0) with
 | none=>
  rw [q1] at s1
  rw [loop_end (s:=(0:Int)) (e:=.inl e1) s1,mkS_none,mkS_none,mkS_none]
  exact ⟨_,rfl,h1⟩
 | some b1=>
  rw [q1] at s1
  obtain ⟨rfl,_,_⟩ :=mkS_some q1
  rw [loop_step (s:=(0:Int)) (s':=((1:Nat):Int)) s1]
  cases q2:mkS d 79 (some 1) with
  | none=>
   rw [q2] at s2
   rw [loop_end (e:=.inl e2) s2,mkS_none,mkS_none]
   exact ⟨_,rfl,h2⟩
  | some b2=>
   rw [q2] at s2
   obtain ⟨rfl,_,_⟩ :=mkS_some q2
   rw [loop_step (s':=((2:Nat):Int)) s2]
   cases q3:mkS d 88 (some 2) with
   | none=>
    rw [q3] at s3
    rw [loop_end (e:=.inl e3) s3,mkS_none]
    exact ⟨_,rfl,h3⟩
   | some b3=>
    rw [q3] at s3
    obtain ⟨rfl,_,_⟩ :=mkS_some q3
    rw [loop_step (s':=((3:Nat):Int)) s3]
    cases q4:mkS d 49 (some 3) with
    | none=>
     rw [q4] at s4
     rw [loop_end (e:=.inl e4) s4]
     exact ⟨_,rfl,h4⟩
    | some b4=>
     rw [q4] at s4
     obtain ⟨rfl,h5,_⟩ :=mkS_some q4
     rw [loop_step (s':=((4:Nat):Int)) s4,loop_end (e:=.inr ()) (by
      dsimp only [lp_Ie_7,m_Ie_7]
      rw [if_neg (by decide)])]
     exact ⟨0,rfl,rfl,rfl,by omega⟩
theorem impl_trk_step (x:Int×S_zreader) (n:Nat) (hx:x.1=n) (hn:n≤255) (i:Nat) (T:List S_Track) (a:Nat) (hi:i < n) (hT:T.length=i) (ha:a≤d.length) :
  ∃ at' e',lp_Ij_31 x ((i:Int),d,(a:Int),0,T)=some (.inl (((i+1:Nat):Int),d,at',e',T++[(trkS d (some a)).1]))∧RdS d (trkS d (some a)).2 at' e':=by
 dsimp only [lp_Ij_31,m_Ij_31]
 have h0:RdS d (some a) a 0:=⟨rfl,rfl,ha⟩
 rw [if_pos (by rw [hx];simp;omega),if_neg (by simp)]
 obtain ⟨a1,e1,h1,g1⟩ :=im_byte hd hb h0
 rw [h1]
 simp only [Option.bind_some]
 obtain ⟨a2,e2,h2,g2⟩ :=im_number hd hb g1
 rw [h2]
 simp only [Option.bind_some]
 obtain ⟨a3,e3,h3,g3⟩ :=im_byte hd hb g2
 rw [h3]
 simp only [Option.bind_some]
 have hr3:=byteS_rng hb (numS d (byteS d (some a)).2).2
 obtain ⟨a4,e4,h4,g4⟩ :=im_take hd g3 (byteS d (numS d (byteS d (some a)).2).2).1 (by omega)
 rw [h4]
 simp only [Option.bind_some]
 obtain ⟨n1,n2⟩ :=trk_name hd hb (some a)
 rw [n1]
 simp only [Option.bind_some]
 have e57:∀ at_ e,m_Ij_57 x (i:Int) ((byteS d (some a)).1,S_zreader.mk d a1 e1) ((numS d (byteS d (some a)).2).1,S_zreader.mk d a2 e2) (trkT d (some a)).1.name T d at_ e=some (.inl (((i+1:Nat):Int),d,at_,e,T++[(trkT d (some a)).1])):=by
  intro at_ e
  dsimp only [m_Ij_57]
  rw [ck_eq (by simp;omega)]
  simp only [Option.bind_some]
  rw [w64_succ (by omega)]
  rfl
 have g4' : RdS d (trkT d (some a)).2 a4 e4:=g4
 have et:S_Track.mk (byteS d (some a)).1 (numS d (byteS d (some a)).2).1 (trkT d (some a)).1.name=(trkT d (some a)).1:=rfl
 rw [et,impl_track _ n2]
 simp only [Option.bind_some]
 unfold trkS
 dsimp only
 cases trackOk (trkT d (some a)).1 with
 | true=>
  rw [if_pos rfl,if_pos rfl,e57]
  exact ⟨_,_,rfl,g4'⟩
 | false=>
  obtain ⟨a5,e5,h5,g5⟩ :=im_fail g4' 5 (by decide)
  rw [if_neg (by simp),if_neg (by simp),h5]
  simp only [Option.bind_some]
  rw [e57]
  exact ⟨_,_,rfl,g5⟩
theorem impl_tracks_loop (x:Int×S_zreader) (n:Nat) (hx:x.1=n) (hn:n≤255):∀ (k i:Nat) (T:List S_Track) (a:Nat),i+k=n→T.length=i→a≤d.length→
  ∃ r,loopM (lp_Ij_31 x) ((i:Int),d,(a:Int),0,T)=some r∧(match tracksS d k T a with | some (l,b)=>r = .inr (d,(b:Int),0,l)∧b≤d.length | none=>∃ at' e' l,e'≠0∧(r = .inl (l,S_zreader.mk d at' e')∨r = .inr (d,at',e',l))):=by
 intro k
 induction k with
 | zero=>
  intro i T a hi hT ha
  rw [loopM_eq]
  dsimp only [lp_Ij_31,m_Ij_31]
  rw [if_neg (by rw [hx];simp;omega)]
  exact ⟨_,rfl,rfl,ha⟩
 | succ k ih=>
  intro i T a hi hT ha
  obtain ⟨a1,e1,h1,g1⟩ :=impl_trk_step hd hb x n hx hn i T a (by omega) hT ha
  rw [loop_step h1]
  unfold tracksS
  cases hq:(trkS d (some a)).2 with
  | none=>
   rw [hq] at g1
   have g1' : e1≠0:=g1
   by_cases h2:(((i+1:Nat):Int)) < x.1
   ·refine ⟨.inl ([],S_zreader.mk d a1 e1),loop_end ?_,a1,e1,[],g1',.inl rfl⟩
    dsimp only [lp_Ij_31,m_Ij_31]
    rw [if_pos (by simpa using h2),if_pos (by simpa using g1')]
   ·refine ⟨.inr (d,a1,e1,T++[(trkS d (some a)).1]),loop_end ?_,a1,e1,T++[(trkS d (some a)).1],g1',.inr rfl⟩
    dsimp only [lp_Ij_31,m_Ij_31]
    rw [if_neg (by simpa using h2)]
  | some b=>
   rw [hq] at g1
   obtain ⟨rfl,rfl,hb'⟩ :=g1
   exact ih (i+1) _ b (by omega) (by simp;omega) hb'
theorem impl_head (hl:d.length≤120000):∃ T' at' e',m_Ij (S_zreader.mk d 0 0)=some (T',S_zreader.mk d at' e')∧(match headS d with | some (l,b)=>T' = l∧RdS d (some b) at' e' | none=>e'≠0):=by
 dsimp only [m_Ij,m_Ij_0]
 rw [if_neg (by simp;omega)]
 obtain ⟨c,h1,g1⟩ :=impl_mag (d:=d)
 rw [h1]
 simp only [Option.bind_some]
 have hm:∃ at_ e,(m_Ii (S_zreader.mk d 0 0) c).bind (fun x0_2=>m_Ih x0_2 4)=some ((takeS d 4 (if c=0 then some 0 else none)).1,S_zreader.mk d at_ e)∧RdS d (magS d) at_ e:=by
  cases hq:magS d with
  | none=>
   rw [hq] at g1
   obtain ⟨a2,e2,h2,g2⟩ :=im_fail (d:=d) (st:=some 0) (at_:=0) (e:=0) ⟨rfl,rfl,Nat.zero_le _⟩ c g1
   rw [h2,if_neg g1]
   simp only [Option.bind_some]
   exact im_take hd g2 4 (by omega)
  | some a=>
   rw [hq] at g1
   obtain ⟨rfl,rfl,h4⟩ :=g1
   have:m_Ii (S_zreader.mk d 0 0) 0=some (S_zreader.mk d 0 0):=rfl
   rw [this,if_pos rfl]
   simp only [Option.bind_some]
   obtain ⟨a3,e3,h3,g3⟩ :=im_take hd (d:=d) (st:=some 0) (at_:=0) (e:=0) ⟨rfl,rfl,Nat.zero_le _⟩ 4 (by omega)
   refine ⟨a3,e3,h3,?_⟩
   unfold takeS at g3
   dsimp only at g3
   rw [if_pos (by omega)] at g3
   exact g3
 obtain ⟨a1,e1,h2,g2⟩ :=hm
 rw [←Option.bind_assoc,h2]
 simp only [Option.bind_some]
 obtain ⟨a3,e3,h3,g3⟩ :=im_byte hd hb g2
 rw [h3]
 simp only [Option.bind_some]
 have hr:=byteS_rng hb (magS d)
 have e21:(if decide ((byteS d (magS d)).1 < 1)=true then m_Ij_21 ((byteS d (magS d)).1,S_zreader.mk d a3 e3) true else m_Ij_21 ((byteS d (magS d)).1,S_zreader.mk d a3 e3) (decide ((byteS d (magS d)).1 > 8)))
   = m_Ij_21 ((byteS d (magS d)).1,S_zreader.mk d a3 e3) (!decide (1≤(byteS d (magS d)).1∧(byteS d (magS d)).1≤8)):=by
  by_cases k1:(byteS d (magS d)).1 < 1
  ·rw [if_pos (by simpa using k1),show decide (1≤(byteS d (magS d)).1∧(byteS d (magS d)).1≤8)=false by simp;omega];rfl
  ·rw [if_neg (by simpa using k1)]
   congr 1
   by_cases k2:(byteS d (magS d)).1≤8
   ·rw [show decide (1≤(byteS d (magS d)).1∧(byteS d (magS d)).1≤8)=true by simp;omega,show decide ((byteS d (magS d)).1 > 8)=false by simp;omega];rfl
   ·rw [show decide (1≤(byteS d (magS d)).1∧(byteS d (magS d)).1≤8)=false by simp;omega,show decide ((byteS d (magS d)).1 > 8)=true by simp;omega];rfl
 rw [e21]
 obtain ⟨n,hn⟩:∃ n:Nat,(byteS d (magS d)).1=n:=⟨(byteS d (magS d)).1.toNat,by omega⟩
 have bad:∀ (at_ e:Int),e≠0→∃ T' at' e',m_Ij_24 ((byteS d (magS d)).1,S_zreader.mk d a3 e3) d at_ e=some (T',S_zreader.mk d at' e')∧e'≠0:=by
  intro at_ e he
  dsimp only [m_Ij_24]
  by_cases h5:(0:Int) < (byteS d (magS d)).1
  ·rw [loop_end (e:=.inl ([],S_zreader.mk d at_ e)) (by
    dsimp only [lp_Ij_31,m_Ij_31]
    rw [if_pos (by simpa using h5),if_pos (by simpa using he)])]
   exact ⟨_,_,_,rfl,he⟩
  ·rw [loop_end (e:=.inr (d,at_,e,[])) (by
    dsimp only [lp_Ij_31,m_Ij_31]
    rw [if_neg (by simpa using h5)])]
   simp only [Option.bind_some]
   dsimp only [m_Ij_59]
   obtain ⟨a4,e4,h4,g4⟩ :=im_sum hd hb (show RdS d none at_ e from he) 0 (by simp)
   rw [show ((0:Int))=((0:Nat):Int) from rfl,h4]
   exact ⟨_,_,_,rfl,g4⟩
 unfold headS
 dsimp only [m_Ij_21]
 by_cases k:1≤(byteS d (magS d)).1∧(byteS d (magS d)).1≤8
 ·rw [if_neg (by rw [decide_eq_true k];simp)]
  cases hq:(byteS d (magS d)).2 with
  | none=>
   rw [hq] at g3
   exact bad _ _ g3
  | some b=>
   rw [hq] at g3
   obtain ⟨rfl,rfl,hb2⟩ :=g3
   dsimp only
   rw [if_pos k]
   dsimp only [m_Ij_24]
   obtain ⟨r,h5,g5⟩ :=impl_tracks_loop hd hb ((byteS d (magS d)).1,S_zreader.mk d b 0) n hn (by omega) n 0 [] b (by omega) rfl hb2
   rw [show (((0:Nat):Int))=0 from rfl] at h5
   rw [h5]
   simp only [Option.bind_some]
   rw [hn,Int.toNat_natCast]
   cases hqq:tracksS d n [] b with
   | none=>
    rw [hqq] at g5
    obtain ⟨a6,e6,l,h6,rfl | rfl⟩ :=g5
    ·exact ⟨_,_,_,rfl,h6⟩
    ·dsimp only [m_Ij_59]
     obtain ⟨a4,e4,h4,g4⟩ :=im_sum hd hb (show RdS d none a6 e6 from h6) 0 (by simp)
     rw [show ((0:Int))=((0:Nat):Int) from rfl,h4]
     exact ⟨_,_,_,rfl,g4⟩
   | some lc=>
    obtain ⟨l,c'⟩ :=lc
    rw [hqq] at g5
    obtain ⟨rfl,g5⟩ :=g5
    dsimp only [m_Ij_59]
    obtain ⟨a4,e4,h4,g4⟩ :=im_sum hd hb (show RdS d (some c') c' 0 from ⟨rfl,rfl,g5⟩) 0 (by simp)
    rw [show (((0:Nat):Int))=0 from rfl] at h4
    rw [h4]
    refine ⟨_,_,_,rfl,?_⟩
    cases hs:sumS d 0 (some c') with
    | none=>rw [hs] at g4;exact g4
    | some e=>rw [hs] at g4;exact ⟨rfl,g4⟩
 ·rw [if_pos (by rw [decide_eq_false k];rfl)]
  obtain ⟨a5,e5,h5,g5⟩ :=im_fail g3 5 (by decide)
  rw [h5]
  simp only [Option.bind_some]
  obtain ⟨T',at',e',h6,h7⟩ :=bad _ _ g5
  refine ⟨T',at',e',h6,?_⟩
  cases (byteS d (magS d)).2 with
  | none=>exact h7
  | some b=>dsimp only;rw [if_neg k];exact h7
end
end Go.Proofs.V

namespace Go.Proofs.V
open Go
def pq1 (d:List Int) (a:Nat):=numS d (some a)
def pq2 (d:List Int) (a:Nat):=numS d (pq1 d a).2
def pq3 (d:List Int) (a:Nat):=numS d (pq2 d a).2
def pq4 (d:List Int) (a:Nat):=numS d (pq3 d a).2
def pq5 (d:List Int) (a:Nat):=numS d (pq4 d a).2
def pkv (d:List Int) (a:Nat):S_Packet:=⟨(pq1 d a).1,(pq2 d a).1,(pq3 d a).1,(pq4 d a).1 == 1,[]⟩
def pkc (d:List Int) (nt:Nat) (a:Nat):Bool:=decide ((pq1 d a).1 < nt)&&ticksOk (pq2 d a).1&&ticksOk (pq3 d a).1&&decide ((pq4 d a).1≤1)
def pkS (d:List Int) (nt:Nat) (by_:Int) (a:Nat):Option Nat:=if pkc d nt a=true∧(pq5 d a).1≤60000 - by_ then (pq5 d a).2 else none
def pksS (d:List Int) (nt:Nat):Nat→Int→Nat→List S_Packet→List Int→Option (List S_Packet×List Int×Int×Nat)
 | 0,by_,a,L,S=>some (L,S,by_,a)
 | k+1,by_,a,L,S=>match pkS d nt by_ a with | some b=>pksS d nt k (by_+(pq5 d a).1) b (L++[pkv d a]) (S++[(pq5 d a).1]) | none=>none
def datS (d:List Int):List S_Packet→List Int→Option Nat→List S_Packet×Option Nat
 | p::P,s::S,st=>(⟨p.track,p.time,p.span,p.key,(takeS d s st).1⟩::(datS d P S (takeS d s st).2).1,(datS d P S (takeS d s st).2).2)
 | _,_,st=>([],st)
def restS (d:List Int) (f nt np:Nat) (by_ num:Int) (q:Int×Option Nat):Option (Int×List S_Packet×Int×Nat):=match q.2 with
 | none=>none
 | some b=>if 1≤q.1∧q.1≤100∧(np:Int)+q.1≤400 then
   (match pksS d nt q.1.toNat by_ b [] [] with
   | none=>none
   | some (L,S,by',c)=>match sumS d f (datS d L S (some c)).2 with | none=>none | some e=>some (num,(datS d L S (some c)).1,by',e)) else none
def pieceS (d:List Int) (f nt np:Nat) (by_ due:Int) (st:Option Nat):Option (Int×List S_Packet×Int×Nat):=
 if due < 0∨(numS d st).1=due then restS d f nt np by_ (numS d st).1 (numS d (numS d st).2) else none
def PkI (L:List S_Packet) (S:List Int):Prop:=(∀ p ∈ L,p.data=[])∧∀ s ∈ S,0≤s∧s≤4611686018427387904
theorem PkI_step {d:List Int} {L:List S_Packet} {S:List Int} (h:PkI L S) (a:Nat):PkI (L++[pkv d a]) (S++[(pq5 d a).1]):=by
 refine ⟨fun p hp=>?_,fun s hs=>?_⟩
 ·rcases List.mem_append.1 hp with hp | hp
  ·exact h.1 p hp
  ·simp at hp;subst hp;rfl
 ·rcases List.mem_append.1 hs with hs | hs
  ·exact h.2 s hs
  ·simp at hs;subst hs;exact numS_rng d (pq4 d a).2
theorem takeS_none (d:List Int) (n:Int):takeS d n none=([],none):=rfl
theorem datS_none (d:List Int):∀ (P:List S_Packet) (S:List Int),(datS d P S none).2=none
 | [],_=>by unfold datS;rfl
 | _::_,[]=>by unfold datS;rfl
 | p::P,s::S=>by unfold datS;rw [takeS_none];exact datS_none d P S
theorem numS_none (d:List Int):numS d none=(0,none):=rfl
theorem sumS_none (d:List Int) (f:Nat):sumS d f none=none:=rfl
section
variable {d:List Int} (hd:d.length≤1048576) (hb:∀ x ∈ d,0≤x∧x≤255)
theorem sp73 (p0:S_l16R) (x0 x14:Int×S_l16R) (by_ i:Int) (x6 x2 x3 x4:Int×S_l16R) (b:Bool) (L:List S_Packet) (S:List Int) (at_ e du byr:Int) (T:List S_Track) (P:List S_Packet) (ix:List S_Entry) (hL:L.length≤1000) (hS:S.length≤1000) :
  m_Sk_73 p0 x0 x14 by_ i x6 x2 x3 x4 b L S d at_ e du byr T P ix=some (.inl (w64 (by_+x6.1),w64 (i+1),d,at_,e,du,byr,L++[S_Packet.mk x2.1 x3.1 x4.1 b []],S++[x6.1],T,P,ix)):=by
 dsimp only [m_Sk_73]
 rw [ck_eq (by simp;omega)]
 simp only [Option.bind_some]
 rw [ck_eq (by simp;omega)]
 rfl
theorem sp67 (p0:S_l16R) (x0 x14:Int×S_l16R) (by_ i:Int) (x6 x2 x3 x4:Int×S_l16R) (b:Bool) (L:List S_Packet) (S:List Int) (at_ e du byr:Int) (T:List S_Track) (P:List S_Packet) (ix:List S_Entry) (hL:L.length≤1000) (hS:S.length≤1000)
  (hy:0≤by_∧by_≤60000) {st:Option Nat} (h:RdS d st at_ e) :
  ∃ at' e',m_Sk_67 p0 x0 x14 by_ i x6 x2 x3 x4 b L S d at_ e du byr T P ix=some (.inl (w64 (by_+x6.1),w64 (i+1),d,at',e',du,byr,L++[S_Packet.mk x2.1 x3.1 x4.1 b []],S++[x6.1],T,P,ix))∧RdS d (if x6.1≤60000 - by_ then st else none) at' e':=by
 dsimp only [m_Sk_67]
 rw [RdS_e h]
 cases st with
 | none=>
  simp only [Option.isSome_none,Bool.false_eq_true,if_false,ite_self]
  dsimp only [m_Sk_70]
  rw [if_neg (by simp),sp73 _ _ _ _ _ _ _ _ _ _ _ _ _ _ _ _ _ _ _ hL hS]
  exact ⟨_,_,rfl,h⟩
 | some a=>
  simp only [Option.isSome_some,if_true]
  rw [w64_id (x:=60000 - by_) (by omega) (by omega)]
  dsimp only [m_Sk_70]
  by_cases k:x6.1≤60000 - by_
  ·rw [if_neg (by simpa using k),sp73 _ _ _ _ _ _ _ _ _ _ _ _ _ _ _ _ _ _ _ hL hS,if_pos k]
   exact ⟨_,_,rfl,h⟩
  ·obtain ⟨a5,e5,h5,g5⟩ :=sp_fail h 7 (by decide) (S_Box.mk T P) du byr ix
   rw [if_pos (by simpa using k),h5]
   simp only [Option.bind_some]
   rw [sp73 _ _ _ _ _ _ _ _ _ _ _ _ _ _ _ _ _ _ _ hL hS,if_neg k]
   exact ⟨_,_,rfl,g5⟩
theorem sp64 (p0:S_l16R) (x0 x14:Int×S_l16R) (by_ i:Int) (x6 x2 x3 x4:Int×S_l16R) (b0 b:Bool) (L:List S_Packet) (S:List Int) (at_ e du byr:Int) (T:List S_Track) (P:List S_Packet) (ix:List S_Entry) (hL:L.length≤1000) (hS:S.length≤1000)
  (hy:0≤by_∧by_≤60000) {st:Option Nat} (h:RdS d st at_ e) (hx:x6.2=S_l16R.mk d at_ e (S_Box.mk T P) du byr ix) :
  ∃ at' e',m_Sk_64 p0 x0 x14 by_ i x6 x2 x3 x4 L S b0 b=some (.inl (w64 (by_+x6.1),w64 (i+1),d,at',e',du,byr,L++[S_Packet.mk x2.1 x3.1 x4.1 b []],S++[x6.1],T,P,ix))∧RdS d (if b0=false∧x6.1≤60000 - by_ then st else none) at' e':=by
 dsimp only [m_Sk_64]
 rw [hx]
 cases b0 with
 | true=>
  obtain ⟨a5,e5,h5,g5⟩ :=sp_fail h 5 (by decide) (S_Box.mk T P) du byr ix
  rw [if_pos rfl,h5]
  simp only [Option.bind_some]
  obtain ⟨a6,e6,h6,g6⟩ :=sp67 p0 x0 x14 by_ i x6 x2 x3 x4 b L S a5 e5 du byr T P ix hL hS hy g5
  rw [h6]
  refine ⟨_,_,rfl,?_⟩
  rw [if_neg (by simp)]
  rw [ite_self] at g6
  exact g6
 | false=>
  rw [if_neg (by simp)]
  obtain ⟨a6,e6,h6,g6⟩ :=sp67 p0 x0 x14 by_ i x6 x2 x3 x4 b L S at_ e du byr T P ix hL hS hy h
  dsimp only
  rw [h6]
  refine ⟨_,_,rfl,?_⟩
  simpa using g6
include hd hb
theorem spec_pk_step (p0:S_l16R) (x0 x14:Int×S_l16R) (m:Nat) (hx:x14.1=m) (hm:m≤100) (by_:Int) (hy:0≤by_∧by_≤60000) (i:Nat) (hi:i < m) (a:Nat) (ha:a≤d.length) (du byr:Int) (L:List S_Packet) (S:List Int) (hL:L.length=i) (hS:S.length=i) (T:List S_Track) (P:List S_Packet) (ix:List S_Entry) :
  ∃ at' e',lp_Sk_39 p0 x0 x14 (by_,(i:Int),d,(a:Int),0,du,byr,L,S,T,P,ix)=some (.inl (w64 (by_+(pq5 d a).1),((i+1:Nat):Int),d,at',e',du,byr,L++[pkv d a],S++[(pq5 d a).1],T,P,ix))∧RdS d (pkS d T.length by_ a) at' e':=by
 dsimp only [lp_Sk_39,m_Sk_39]
 have h0:RdS d (some a) a 0:=⟨rfl,rfl,ha⟩
 rw [if_pos (by rw [hx];simp;omega),if_pos (by simp)]
 obtain ⟨a1,e1,h1,g1⟩ :=sp_number hd hb h0 (S_Box.mk T P) du byr ix
 rw [h1]
 simp only [Option.bind_some]
 obtain ⟨a2,e2,h2,g2⟩ :=sp_number hd hb g1 (S_Box.mk T P) du byr ix
 rw [h2]
 simp only [Option.bind_some]
 obtain ⟨a3,e3,h3,g3⟩ :=sp_number hd hb g2 (S_Box.mk T P) du byr ix
 rw [h3]
 simp only [Option.bind_some]
 obtain ⟨a4,e4,h4,g4⟩ :=sp_number hd hb g3 (S_Box.mk T P) du byr ix
 rw [h4]
 simp only [Option.bind_some]
 obtain ⟨a5,e5,h5,g5⟩ :=sp_number hd hb g4 (S_Box.mk T P) du byr ix
 rw [h5]
 simp only [Option.bind_some]
 have gq:RdS d (pq5 d a).2 a5 e5:=g5
 rw [show numS d (numS d (numS d (numS d (numS d (some a)).2).2).2).2=pq5 d a from rfl,show numS d (numS d (numS d (numS d (some a)).2).2).2=pq4 d a from rfl,show numS d (numS d (numS d (some a)).2).2=pq3 d a from rfl,show numS d (numS d (some a)).2=pq2 d a from rfl,show numS d (some a)=pq1 d a from rfl]
 rw [RdS_e gq]
 have k64:∀ b0,(b0=(((pq5 d a).2).isSome && !pkc d T.length a))→∃ at' e',m_Sk_64 p0 x0 x14 by_ (i:Int) ((pq5 d a).1,S_l16R.mk d a5 e5 (S_Box.mk T P) du byr ix) ((pq1 d a).1,S_l16R.mk d a1 e1 (S_Box.mk T P) du byr ix) ((pq2 d a).1,S_l16R.mk d a2 e2 (S_Box.mk T P) du byr ix) ((pq3 d a).1,S_l16R.mk d a3 e3 (S_Box.mk T P) du byr ix) L S b0 ((pq4 d a).1 == 1)=some (.inl (w64 (by_+(pq5 d a).1),((i+1:Nat):Int),d,at',e',du,byr,L++[pkv d a],S++[(pq5 d a).1],T,P,ix))∧RdS d (pkS d T.length by_ a) at' e':=by
  intro b0 hb0
  obtain ⟨a6,e6,h6,g6⟩ :=sp64 p0 x0 x14 by_ (i:Int) ((pq5 d a).1,S_l16R.mk d a5 e5 (S_Box.mk T P) du byr ix) ((pq1 d a).1,S_l16R.mk d a1 e1 (S_Box.mk T P) du byr ix) ((pq2 d a).1,S_l16R.mk d a2 e2 (S_Box.mk T P) du byr ix) ((pq3 d a).1,S_l16R.mk d a3 e3 (S_Box.mk T P) du byr ix) b0 ((pq4 d a).1 == 1) L S a5 e5 du byr T P ix (by omega) (by omega) hy gq rfl
  rw [h6,w64_succ (by omega)]
  refine ⟨_,_,rfl,?_⟩
  unfold pkS
  cases hq:(pq5 d a).2 with
  | none=>
   rw [hq] at g6
   rw [ite_self] at g6 ⊢
   exact g6
  | some b=>
   rw [hq] at g6 hb0
   simp only [Option.isSome_some,Bool.true_and] at hb0
   subst hb0
   simpa using g6
 cases hs:((pq5 d a).2).isSome with
 | false=>
  simp only [Bool.false_eq_true,if_false]
  exact k64 false (by rw [hs];rfl)
 | true=>
  simp only [if_true]
  rw [spec_ticks,spec_ticks]
  simp only [Option.bind_some]
  have hp:pkc d T.length a=(decide ((pq1 d a).1 < T.length)&&ticksOk (pq2 d a).1&&ticksOk (pq3 d a).1&&decide ((pq4 d a).1≤1)):=rfl
  by_cases c1:(pq1 d a).1 < T.length
  ·rw [if_neg (by simpa using c1)]
   cases c2:ticksOk (pq2 d a).1 with
   | false=>
    simp only [Bool.false_eq_true,if_false]
    exact k64 true (by rw [hs,hp,c2];simp)
   | true=>
    simp only [if_true]
    cases c3:ticksOk (pq3 d a).1 with
    | false=>
     simp only [Bool.false_eq_true,if_false]
     exact k64 true (by rw [hs,hp,c3];simp)
    | true=>
     simp only [if_true]
     refine k64 _ ?_
     rw [hs,hp,c2,c3]
     by_cases c4:(pq4 d a).1≤1
     ·simp [c1,c4]
     ·simp [c1,c4];omega
  ·rw [if_pos (by simpa using c1)]
   exact k64 true (by rw [hs,hp,decide_eq_false c1];simp)
theorem pkS_some {nt:Nat} {by_:Int} {a b:Nat} (h:pkS d nt by_ a=some b):(pq5 d a).2=some b∧pkc d nt a=true∧0≤(pq5 d a).1∧by_+(pq5 d a).1≤60000:=by
 unfold pkS at h
 by_cases k:pkc d nt a=true∧(pq5 d a).1≤60000 - by_
 ·rw [if_pos k] at h
  exact ⟨h,k.1,(numS_rng d (pq4 d a).2).1,by omega⟩
 ·rw [if_neg k] at h;simp at h
theorem spec_pks (p0:S_l16R) (x0 x14:Int×S_l16R) (m:Nat) (hx:x14.1=m) (hm:m≤100) (du byr:Int) (T:List S_Track) (P:List S_Packet) (ix:List S_Entry):∀ (k i:Nat) (by_:Int) (a:Nat) (L:List S_Packet) (S:List Int),i+k=m→0≤by_∧by_≤60000→a≤d.length→L.length=i→S.length=i→PkI L S→
  ∃ by' at' e' L' S',loopM (lp_Sk_39 p0 x0 x14) (by_,(i:Int),d,(a:Int),0,du,byr,L,S,T,P,ix)=some (by',d,at',e',du,byr,L',S',T,P,ix)∧L'.length=S'.length∧L'.length≤100∧PkI L' S'∧
   (match pksS d T.length k by_ a L S with | some (L2,S2,by2,b)=>L' = L2∧S' = S2∧by' = by2∧RdS d (some b) at' e' | none=>e'≠0):=by
 intro k
 induction k with
 | zero=>
  intro i by_ a L S hi hy ha hL hS hI
  refine ⟨by_,a,0,L,S,loop_end ?_,by omega,by omega,hI,rfl,rfl,rfl,rfl,rfl,ha⟩
  dsimp only [lp_Sk_39,m_Sk_39]
  rw [if_neg (by rw [hx];simp;omega)]
 | succ k ih=>
  intro i by_ a L S hi hy ha hL hS hI
  have hI':=PkI_step (d:=d) hI a
  obtain ⟨a1,e1,h1,g1⟩ :=spec_pk_step hd hb p0 x0 x14 m hx hm by_ hy i (by omega) a ha du byr L S hL hS T P ix
  rw [loop_step h1]
  unfold pksS
  cases hq:pkS d T.length by_ a with
  | none=>
   rw [hq] at g1
   have g1' : e1≠0:=g1
   refine ⟨w64 (by_+(pq5 d a).1),a1,e1,L++[pkv d a],S++[(pq5 d a).1],loop_end ?_,by simp;omega,by simp;omega,hI',g1'⟩
   dsimp only [lp_Sk_39,m_Sk_39]
   rw [if_neg (show ¬ ((e1 == 0)=true) by simpa using g1'),ite_self]
  | some b=>
   rw [hq] at g1
   obtain ⟨rfl,rfl,hb'⟩ :=g1
   obtain ⟨_,_,y1,y2⟩ :=pkS_some hd hb hq
   rw [w64_id (by omega) (by omega)]
   exact ih (i+1) _ b _ _ (by omega) (by omega) hb' (by simp;omega) (by simp;omega) hI'
theorem spec_dat (p0:S_l16R) (x0:Int×S_l16R) (by' : Int) (L0:List S_Packet) (S0:List Int) (hLS:L0.length=S0.length) (hS0:∀ s ∈ S0,0≤s∧s≤4611686018427387904) (du byr:Int) (T:List S_Track) (P:List S_Packet) (ix:List S_Entry):∀ (R:List S_Packet) (i:Nat) (Q:List S_Packet) (st:Option Nat) (at_ e:Int),RdS d st at_ e→Q.length=i→L0.length=i+R.length→(∀ p ∈ R,p.data=[])→L0.length≤1000→
  ∃ at' e' L',loopM (lp_Sk_84 p0 x0 by' L0 S0) ((i:Int),d,at_,e,du,byr,Q++R,T,P,ix)=some (d,at',e',du,byr,L',T,P,ix)∧RdS d (datS d R (S0.drop i) st).2 at' e'∧(∀ b,(datS d R (S0.drop i) st).2=some b→L' = Q++(datS d R (S0.drop i) st).1):=by
 intro R
 induction R with
 | nil=>
  intro i Q st at_ e h hQ hl hR hlen
  have e0:datS d [] (S0.drop i) st=([],st):=by unfold datS;rfl
  rw [e0]
  refine ⟨at_,e,Q++[],loop_end ?_,h,fun _ _=>rfl⟩
  dsimp only [lp_Sk_84,m_Sk_84]
  simp at hl
  rw [if_neg (by simp;omega)]
 | cons p R ih=>
  intro i Q st at_ e h hQ hl hR hlen
  have hi:i < S0.length:=by simp at hl;omega
  have hdr:S0.drop i=S0.getD i 0::S0.drop (i+1):=by
   rw [List.drop_eq_getElem_cons hi,List.getD_eq_getElem?_getD,List.getElem?_eq_getElem hi];rfl
  have hs:S0.getD i 0 ∈ S0:=mem_gd hi
  rw [hdr]
  unfold datS
  obtain ⟨a1,e1,h1,g1⟩ :=sp_take hd h (S0.getD i 0) (hS0 _ hs) (S_Box.mk T P) du byr ix
  have hp:=hR p (by simp)
  have htl:=takeS_len (d:=d) (S0.getD i 0) st
  have hrd:rd (Q++p::R) (i:Int)=some p:=by
   rw [rd_d default (by simp;omega),List.getD_eq_getElem?_getD,List.getElem?_append_right (by omega)]
   simp [hQ]
  have hset:(Q++p::R).set (0+Int.toNat (i:Int)) (S_Packet.mk p.track p.time p.span p.key (p.data++(takeS d (S0.getD i 0) st).1))=(Q++[S_Packet.mk p.track p.time p.span p.key (takeS d (S0.getD i 0) st).1])++R:=by
   rw [hp,List.nil_append,Int.toNat_natCast,Nat.zero_add,List.set_append_right _ _ (by omega)]
   simp [hQ]
  have hstep:m_Sk_84 p0 x0 by' L0 S0 (i:Int) d at_ e du byr (Q++p::R) T P ix=if (takeS d (S0.getD i 0) st).2.isNone then some (.inr (d,a1,e1,du,byr,(Q++[S_Packet.mk p.track p.time p.span p.key (takeS d (S0.getD i 0) st).1])++R,T,P,ix)) else some (.inl (((i+1:Nat):Int),d,a1,e1,du,byr,(Q++[S_Packet.mk p.track p.time p.span p.key (takeS d (S0.getD i 0) st).1])++R,T,P,ix)):=by
   dsimp only [m_Sk_84]
   rw [if_pos (by simp at hl ⊢;omega),hrd]
   simp only [Option.bind_some]
   rw [rd_d 0 hi]
   simp only [Option.bind_some]
   rw [h1]
   simp only [Option.bind_some]
   rw [ck_eq (by rw [hp,List.length_nil];omega)]
   simp only [Option.bind_some]
   rw [RdS_ne g1,hset,w64_succ (by omega)]
  cases hq:(takeS d (S0.getD i 0) st).2 with
  | none=>
   rw [hq] at hstep g1
   rw [datS_none]
   exact ⟨_,_,_,loop_end (by show m_Sk_84 p0 x0 by' L0 S0 (i:Int) d at_ e du byr (Q++p::R) T P ix=_;rw [hstep];rfl),g1,fun b hb=>by simp at hb⟩
  | some b=>
   rw [hq] at hstep g1
   obtain ⟨a2,e2,L2,h2,g2,k2⟩ :=ih (i+1) (Q++[S_Packet.mk p.track p.time p.span p.key (takeS d (S0.getD i 0) st).1]) (some b) a1 e1 g1 (by simp;omega) (by simp at hl ⊢;omega) (fun x hx=>hR x (by simp [hx])) hlen
   refine ⟨a2,e2,L2,(loop_step (by show m_Sk_84 p0 x0 by' L0 S0 (i:Int) d at_ e du byr (Q++p::R) T P ix=_;rw [hstep];rfl)).trans h2,g2,fun b' hb'=>?_⟩
   rw [k2 b' hb']
   simp
theorem spec_79 (p0:S_l16R) (f:Nat) (hf:p0.at_=f) (x0:Int×S_l16R) (by' : Int) (L:List S_Packet) (S:List Int) (hLS:L.length=S.length) (hI:PkI L S) (hlen:L.length≤1000) (du byr:Int) (T:List S_Track) (P:List S_Packet) (ix:List S_Entry) (st:Option Nat) (at_ e:Int) (h:RdS d st at_ e) (hfs:∀ a,(datS d L S st).2=some a→f≤a) :
  ∃ at' e' L' y',m_Sk_79 p0 x0 by' d at_ e du byr L S T P ix=some (x0.1,L',S_l16R.mk d at' e' (S_Box.mk T P) du y' ix)∧(match sumS d f (datS d L S st).2 with | some b=>RdS d (some b) at' e'∧L' = (datS d L S st).1∧y' = by' | none=>e'≠0∧y' = byr):=by
 dsimp only [m_Sk_79]
 obtain ⟨a1,e1,L1,h1,g1,k1⟩ :=spec_dat hd hb p0 x0 by' L S hLS hI.2 du byr T P ix L 0 [] st at_ e h rfl (by simp) hI.1 hlen
 rw [List.nil_append,show (((0:Nat):Int))=0 from rfl] at h1
 rw [h1]
 rw [List.drop_zero] at g1 k1
 simp only [Option.bind_some]
 dsimp only [m_Sk_102]
 obtain ⟨a2,e2,h2,g2⟩ :=sp_sum hd hb g1 f hfs (S_Box.mk T P) du byr ix
 rw [hf,h2]
 simp only [Option.bind_some]
 rw [RdS_e g2]
 cases hq:sumS d f (datS d L S st).2 with
 | none=>
  rw [hq] at g2
  simp only [Option.isSome_none,Bool.false_eq_true,if_false]
  exact ⟨a2,e2,L1,byr,rfl,g2,rfl⟩
 | some b=>
  rw [hq] at g2
  simp only [Option.isSome_some,if_true]
  refine ⟨a2,e2,L1,by',rfl,g2,?_,rfl⟩
  cases hz:(datS d L S st).2 with
  | none=>rw [hz] at hq;simp [sumS] at hq
  | some c=>have:=k1 c hz;simpa using this
omit hd hb in
theorem numS_lt {st:Option Nat} {b:Nat} (h:(numS d st).2=some b):∃ a,st=some a∧a < b∧b≤d.length:=by
 cases st with
 | none=>simp [numS] at h
 | some a=>
  rcases numS_F a (d:=d) with ⟨v,n,m,h5,rfl,h6,h7,h8,h9,h10⟩ | ⟨h5,h10⟩
  ·rw [h10] at h;simp at h;exact ⟨a,rfl,by omega,by omega⟩
  ·rw [h10] at h;simp at h
omit hd hb in
theorem datS_le:∀ (L:List S_Packet) (S:List Int) (a b:Nat),(∀ s ∈ S,0≤s∧s≤4611686018427387904)→(datS d L S (some a)).2=some b→a≤b
 | [],S,a,b,_,h=>by unfold datS at h;simp at h;omega
 | _::_,[],a,b,_,h=>by unfold datS at h;simp at h;omega
 | p::L,s::S,a,b,hs,h=>by
  unfold datS at h
  cases hq:(takeS d s (some a)).2 with
  | none=>rw [hq] at h;rw [datS_none] at h;simp at h
  | some c=>
   rw [hq] at h
   have:=datS_le L S c b (fun x hx=>hs x (by simp [hx])) h
   have h1:=hs s (by simp)
   unfold takeS at hq
   dsimp only at hq
   split at hq
   ·simp at hq;omega
   ·simp at hq
theorem pksS_le (nt:Nat):∀ (k:Nat) (by_:Int) (a:Nat) (L:List S_Packet) (S:List Int) (L2:List S_Packet) (S2:List Int) (y:Int) (b:Nat),0≤by_∧by_≤60000→PkI L S→L.length=S.length→pksS d nt k by_ a L S=some (L2,S2,y,b)→a≤b∧PkI L2 S2∧(0≤y∧y≤60000)∧L2.length=S2.length∧L2.length=L.length+k
 | 0,by_,a,L,S,L2,S2,y,b,hy,hI,hL,h=>by
  unfold pksS at h
  simp at h
  obtain ⟨rfl,rfl,rfl,rfl⟩ :=h
  exact ⟨by omega,hI,hy,hL,rfl⟩
 | k+1,by_,a,L,S,L2,S2,y,b,hy,hI,hL,h=>by
  unfold pksS at h
  cases hq:pkS d nt by_ a with
  | none=>rw [hq] at h;simp at h
  | some c=>
   rw [hq] at h
   obtain ⟨z1,z2,z3,z4⟩ :=pkS_some hd hb hq
   obtain ⟨j1,j2,j3,j4,j5⟩ :=pksS_le nt k _ c _ _ L2 S2 y b (by omega) (PkI_step hI a) (by simp [hL]) h
   refine ⟨?_,j2,j3,j4,by rw [j5];simp;omega⟩
   obtain ⟨x4,w4,v4,_⟩ :=numS_lt z1
   obtain ⟨x3,w3,v3,_⟩ :=numS_lt w4
   obtain ⟨x2,w2,v2,_⟩ :=numS_lt w3
   obtain ⟨x1,w1,v1,_⟩ :=numS_lt w2
   obtain ⟨x0,w0,v0,_⟩ :=numS_lt w1
   simp at w0
   omega
theorem spec_28_bad (p0:S_l16R) (f:Nat) (hf:p0.at_=f) (x0 x14:Int×S_l16R) (at_ e du byr:Int) (T:List S_Track) (P:List S_Packet) (ix:List S_Entry) (he:e≠0) :
  ∃ v L at' e',m_Sk_28 p0 x0 x14 d at_ e du byr T P ix=some (v,L,S_l16R.mk d at' e' (S_Box.mk T P) du byr ix)∧e'≠0:=by
 dsimp only [m_Sk_28]
 rw [loop_end (e:=(byr,d,at_,e,du,byr,[],[],T,P,ix)) (by
  dsimp only [lp_Sk_39,m_Sk_39]
  rw [if_neg (show ¬ ((e == 0)=true) by simpa using he),ite_self])]
 simp only [Option.bind_some]
 obtain ⟨a1,e1,L1,y1,h1,g1⟩ :=spec_79 hd hb p0 f hf x0 byr [] [] rfl ⟨by simp,by simp⟩ (by simp) du byr T P ix none at_ e he (by simp [datS_none])
 rw [datS_none,sumS_none] at g1
 rw [h1,g1.2]
 exact ⟨_,_,_,_,rfl,g1.1⟩
theorem spec_rest (p0:S_l16R) (f:Nat) (hpf:p0.at_=f) (x0:Int×S_l16R) (q:Int×Option Nat) (hq1:0≤q.1∧q.1≤4611686018427387904) (hqf:∀ b,q.2=some b→f≤b) (a2 e2 du byr:Int) (g2:RdS d q.2 a2 e2) (T:List S_Track) (P:List S_Packet) (ix:List S_Entry) (hy:0≤byr∧byr≤60000) (hP:P.length≤1000) :
  ∃ v L at' e' y',(if (e2 == 0)=true then if decide (q.1 < 1)=true then m_Sk_19 p0 x0 (q.1,S_l16R.mk d a2 e2 (S_Box.mk T P) du byr ix) true else m_Sk_19 p0 x0 (q.1,S_l16R.mk d a2 e2 (S_Box.mk T P) du byr ix) (decide (q.1 > 100)) else m_Sk_19 p0 x0 (q.1,S_l16R.mk d a2 e2 (S_Box.mk T P) du byr ix) false)=some (v,L,S_l16R.mk d at' e' (S_Box.mk T P) du y' ix)∧
   (match restS d f T.length P.length byr x0.1 q with | some (v2,L2,y2,b)=>v=v2∧L=L2∧y' = y2∧RdS d (some b) at' e' | none=>e'≠0∧y' = byr):=by
 obtain ⟨c,st⟩ :=q
 dsimp only at hq1 hqf g2 ⊢
 have bad:∀ at_ e,e≠0→∃ v L at' e' y',m_Sk_28 p0 x0 (c,S_l16R.mk d a2 e2 (S_Box.mk T P) du byr ix) d at_ e du byr T P ix=some (v,L,S_l16R.mk d at' e' (S_Box.mk T P) du y' ix)∧e'≠0∧y' = byr:=fun at_ e he=>by
  obtain ⟨v,L,at',e',h3,h4⟩ :=spec_28_bad hd hb p0 f hpf x0 (c,S_l16R.mk d a2 e2 (S_Box.mk T P) du byr ix) at_ e du byr T P ix he
  exact ⟨v,L,at',e',byr,h3,h4,rfl⟩
 have bad22:∀ at_ e,e≠0→∃ v L at' e' y',m_Sk_22 p0 x0 (c,S_l16R.mk d a2 e2 (S_Box.mk T P) du byr ix) d at_ e du byr T P ix=some (v,L,S_l16R.mk d at' e' (S_Box.mk T P) du y' ix)∧e'≠0∧y' = byr:=fun at_ e he=>by
  dsimp only [m_Sk_22]
  rw [if_neg (by simpa using he)]
  dsimp only [m_Sk_25]
  rw [if_neg (by simp)]
  exact bad _ _ he
 rw [RdS_e g2]
 unfold restS
 cases st with
 | none=>
  simp only [Option.isSome_none,Bool.false_eq_true,if_false]
  dsimp only [m_Sk_19]
  rw [if_neg (by simp)]
  exact bad22 _ _ g2
 | some b=>
  simp only [Option.isSome_some,if_true]
  have e19:(if decide (c < 1)=true then m_Sk_19 p0 x0 (c,S_l16R.mk d a2 e2 (S_Box.mk T P) du byr ix) true else m_Sk_19 p0 x0 (c,S_l16R.mk d a2 e2 (S_Box.mk T P) du byr ix) (decide (c > 100)))=m_Sk_19 p0 x0 (c,S_l16R.mk d a2 e2 (S_Box.mk T P) du byr ix) (!decide (1≤c∧c≤100)):=by
   by_cases k1:c < 1
   ·rw [if_pos (by simpa using k1),show decide (1≤c∧c≤100)=false by simp;omega];rfl
   ·rw [if_neg (by simpa using k1)]
    congr 1
    by_cases k2:c≤100
    ·rw [show decide (1≤c∧c≤100)=true by simp;omega,show decide (c > 100)=false by simp;omega];rfl
    ·rw [show decide (1≤c∧c≤100)=false by simp;omega,show decide (c > 100)=true by simp;omega];rfl
  rw [e19]
  dsimp only [m_Sk_19]
  by_cases k:1≤c∧c≤100
  ·rw [if_neg (by rw [decide_eq_true k];simp)]
   dsimp only [m_Sk_22]
   rw [RdS_e g2]
   simp only [Option.isSome_some,if_true]
   rw [w64_id (by omega) (by omega)]
   dsimp only [m_Sk_25]
   by_cases k2:(P.length:Int)+c≤400
   ·rw [if_neg (by simpa using k2),if_pos ⟨k.1,k.2,k2⟩]
    dsimp only [m_Sk_28]
    obtain ⟨m,rfl⟩:∃ m:Nat,c=m:=⟨c.toNat,by omega⟩
    obtain ⟨rfl,rfl,hb2⟩ :=g2
    obtain ⟨y3,a3,e3,L3,S3,h3,n1,n2,n3,g3⟩ :=spec_pks hd hb p0 x0 ((m:Int),S_l16R.mk d b 0 (S_Box.mk T P) du byr ix) m rfl (by omega) du byr T P ix m 0 byr b [] [] (by omega) hy hb2 rfl rfl ⟨by simp,by simp⟩
    rw [show (((0:Nat):Int))=0 from rfl] at h3
    rw [h3]
    simp only [Option.bind_some]
    rw [Int.toNat_natCast]
    cases hqq:pksS d T.length m byr b [] [] with
    | none=>
     rw [hqq] at g3
     obtain ⟨a4,e4,L4,y4,h4,g4⟩ :=spec_79 hd hb p0 f hpf x0 y3 L3 S3 n1 n3 (by omega) du byr T P ix none a3 e3 g3 (by simp [datS_none])
     rw [datS_none,sumS_none] at g4
     exact ⟨_,_,_,_,_,h4,g4⟩
    | some r=>
     obtain ⟨L5,S5,y5,c5⟩ :=r
     rw [hqq] at g3
     obtain ⟨rfl,rfl,rfl,g3⟩ :=g3
     obtain ⟨j1,j2,j3,j4,j5⟩ :=pksS_le hd hb _ _ _ _ _ _ _ _ _ _ hy ⟨by simp,by simp⟩ rfl hqq
     have hfb:=hqf b rfl
     obtain ⟨a4,e4,L4,y4,h4,g4⟩ :=spec_79 hd hb p0 f hpf x0 y3 L3 S3 n1 n3 (by omega) du byr T P ix (some c5) a3 e3 g3 (fun a ha=>by
      have:=datS_le L3 S3 c5 a n3.2 ha
      omega)
     refine ⟨_,_,_,_,_,h4,?_⟩
     dsimp only
     cases hs:sumS d f (datS d L3 S3 (some c5)).2 with
     | none=>rw [hs] at g4;exact g4
     | some z=>rw [hs] at g4;exact ⟨rfl,g4.2.1,g4.2.2,g4.1⟩
   ·obtain ⟨a5,e5,h5,g5⟩ :=sp_fail g2 7 (by decide) (S_Box.mk T P) du byr ix
    rw [if_pos (by simpa using k2),h5,if_neg (fun hh=>k2 hh.2.2)]
    simp only [Option.bind_some]
    exact bad _ _ g5
  ·rw [if_pos (by rw [decide_eq_false k];rfl),if_neg (fun hh=>k ⟨hh.1,hh.2.1⟩)]
   obtain ⟨a5,e5,h5,g5⟩ :=sp_fail g2 5 (by decide) (S_Box.mk T P) du byr ix
   rw [h5]
   simp only [Option.bind_some]
   exact bad22 _ _ g5
theorem spec_14 (p0:S_l16R) (f:Nat) (hpf:p0.at_=f) (x0:Int×S_l16R) (st:Option Nat) (hqf:∀ b,st=some b→f≤b) (at_ e du byr:Int) (h:RdS d st at_ e) (T:List S_Track) (P:List S_Packet) (ix:List S_Entry) (hy:0≤byr∧byr≤60000) (hP:P.length≤1000) :
  ∃ v L at' e' y',m_Sk_14 p0 x0 d at_ e du byr T P ix=some (v,L,S_l16R.mk d at' e' (S_Box.mk T P) du y' ix)∧
   (match restS d f T.length P.length byr x0.1 (numS d st) with | some (v2,L2,y2,b)=>v=v2∧L=L2∧y' = y2∧RdS d (some b) at' e' | none=>e'≠0∧y' = byr):=by
 dsimp only [m_Sk_14]
 obtain ⟨a2,e2,h2,g2⟩ :=sp_number hd hb h (S_Box.mk T P) du byr ix
 rw [h2]
 simp only [Option.bind_some]
 exact spec_rest hd hb p0 f hpf x0 (numS d st) (numS_rng d st) (fun b hb'=>by
  obtain ⟨a,h3,h4,_⟩ :=numS_lt hb'
  have:=hqf a h3
  omega) a2 e2 du byr g2 T P ix hy hP
theorem spec_piece (f:Nat) (hfl:f+8≤d.length) (due du byr:Int) (T:List S_Track) (P:List S_Packet) (ix:List S_Entry) (hy:0≤byr∧byr≤60000) (hP:P.length≤1000) :
  ∃ v L at' e' y',m_Sk (S_l16R.mk d f 0 (S_Box.mk T P) du byr ix) due=some (v,L,S_l16R.mk d at' e' (S_Box.mk T P) du y' ix)∧
   (match pieceS d f T.length P.length byr due (some (f+8)) with | some (v2,L2,y2,b)=>v=v2∧L=L2∧y' = y2∧RdS d (some b) at' e' | none=>e'≠0∧y' = byr):=by
 dsimp only [m_Sk,m_Sk_0]
 rw [w64_id (x:=(f:Int)+8) (by omega) (by omega)]
 obtain ⟨a1,e1,h1,g1⟩ :=sp_number hd hb (st:=some (f+8)) (at_:=(f:Int)+8) (e:=0) ⟨rfl,by simp,hfl⟩ (S_Box.mk T P) du byr ix
 rw [h1]
 simp only [Option.bind_some]
 rw [RdS_e g1]
 have hqf:∀ b,(numS d (some (f+8))).2=some b→f≤b:=fun b hb'=>by
  obtain ⟨a,h3,h4,_⟩ :=numS_lt hb'
  simp at h3
  omega
 have good:=spec_14 hd hb (S_l16R.mk d (f:Int) 0 (S_Box.mk T P) du byr ix) f rfl ((numS d (some (f+8))).1,S_l16R.mk d a1 e1 (S_Box.mk T P) du byr ix) _ hqf a1 e1 du byr g1 T P ix hy hP
 unfold pieceS
 cases hq:(numS d (some (f+8))).2 with
 | none=>
  simp only [Option.isSome_none,Bool.false_eq_true,if_false]
  dsimp only [m_Sk_11]
  rw [if_neg (by simp)]
  rw [hq] at good
  rw [show (if due < 0∨(numS d (some (f+8))).1=due then restS d f T.length P.length byr (numS d (some (f+8))).1 (numS d none) else none)=none by rw [numS_none];unfold restS;dsimp only;rw [ite_self]]
  have:restS d f T.length P.length byr (numS d (some (f+8))).1 (numS d none)=none:=by rw [numS_none];rfl
  dsimp only at good
  rw [this] at good
  exact good
 | some b=>
  simp only [Option.isSome_some,if_true]
  have e11:(if decide (due≥0)=true then m_Sk_11 (S_l16R.mk d (f:Int) 0 (S_Box.mk T P) du byr ix) ((numS d (some (f+8))).1,S_l16R.mk d a1 e1 (S_Box.mk T P) du byr ix) ((numS d (some (f+8))).1 != due) else m_Sk_11 (S_l16R.mk d (f:Int) 0 (S_Box.mk T P) du byr ix) ((numS d (some (f+8))).1,S_l16R.mk d a1 e1 (S_Box.mk T P) du byr ix) false)
    = m_Sk_11 (S_l16R.mk d (f:Int) 0 (S_Box.mk T P) du byr ix) ((numS d (some (f+8))).1,S_l16R.mk d a1 e1 (S_Box.mk T P) du byr ix) (!decide (due < 0∨(numS d (some (f+8))).1=due)):=by
   by_cases k1:due≥0
   ·rw [if_pos (by simpa using k1)]
    congr 1
    by_cases k2:(numS d (some (f+8))).1=due
    ·simp [k2]
    ·rw [decide_eq_false (by omega : ¬ (due < 0∨(numS d (some (f+8))).1=due))];simp [k2]
   ·rw [if_neg (by simpa using k1),show decide (due < 0∨(numS d (some (f+8))).1=due)=true by simp;omega];rfl
  rw [e11]
  dsimp only [m_Sk_11]
  by_cases k:due < 0∨(numS d (some (f+8))).1=due
  ·rw [if_neg (by rw [decide_eq_true k];simp),if_pos k]
   rw [hq] at good
   exact good
  ·rw [if_pos (by rw [decide_eq_false k];rfl),if_neg k]
   obtain ⟨a5,e5,h5,g5⟩ :=sp_fail g1 6 (by decide) (S_Box.mk T P) du byr ix
   rw [h5]
   simp only [Option.bind_some]
   have:=spec_14 hd hb (S_l16R.mk d (f:Int) 0 (S_Box.mk T P) du byr ix) f rfl ((numS d (some (f+8))).1,S_l16R.mk d a1 e1 (S_Box.mk T P) du byr ix) none (by simp) a5 e5 du byr g5 T P ix hy hP
   rw [show restS d f T.length P.length byr (numS d (some (f+8))).1 (numS d none)=none by rw [numS_none];rfl] at this
   exact this
end
end Go.Proofs.V

namespace Go.Proofs.V
open Go
section
variable {d:List Int} (hd:d.length≤1048576) (hb:∀ x ∈ d,0≤x∧x≤255)
theorem mnI_le {x y:Int} (h:x≤y):mnI x y=x:=by unfold mnI;rw [if_neg (by omega)]
theorem im65 (p1 p2 np room:Int) (x0 x6 x10:Int×S_zreader) (i:Int) (x2 x3 x4:Int×S_zreader) (b:Bool) (L:List S_Packet) (S:List Int) (at_ e:Int) (hL:L.length≤1000) (hS:S.length≤1000) :
  m_Il_65 p1 p2 np room x0 x6 x10 i x2 x3 x4 b L S d at_ e=some (.inl (np,room,w64 (i+1),d,at_,e,L++[S_Packet.mk x2.1 x3.1 x4.1 b []],S++[x6.1])):=by
 dsimp only [m_Il_65]
 rw [ck_eq (by simp;omega)]
 simp only [Option.bind_some]
 rw [ck_eq (by simp;omega)]
 rfl
theorem im53 (p1 p2 np room:Int) (x0 x5 x6 x10:Int×S_zreader) (i:Int) (x2 x3 x4:Int×S_zreader) (L:List S_Packet) (S:List Int) (at_ e:Int) (hL:L.length≤1000) (hS:S.length≤1000) (hn:0≤np∧np≤1000) (hr:0≤room∧room≤60000) (hx:0≤x6.1)
  {st:Option Nat} (h:RdS d st at_ e) :
  ∃ at' e' room',m_Il_53 p1 p2 np room x0 x5 x6 x10 i x2 x3 x4 L S d at_ e=some (.inl (np+1,room',w64 (i+1),d,at',e',L++[S_Packet.mk x2.1 x3.1 x4.1 (x5.1 == 1) []],S++[x6.1]))∧RdS d (if np+1≤400∧x6.1≤room then st else none) at' e'∧(x6.1≤room→room' = room - x6.1):=by
 have hm:0≤mnI x6.1 1099511627776∧mnI x6.1 1099511627776≤1099511627776∧(x6.1≤room→mnI x6.1 1099511627776=x6.1)∧(room < x6.1→room < mnI x6.1 1099511627776):=by
  unfold mnI
  by_cases h1:(1099511627776:Int) < x6.1
  ·rw [if_pos h1];omega
  ·rw [if_neg h1];omega
 have e62:∀ b2 b3,∃ at' e',m_Il_62 p1 p2 x0 x6 x10 i d at_ e x2 x3 x4 L S (np+1) (room - mnI x6.1 1099511627776) b2 b3=some (.inl (np+1,room - mnI x6.1 1099511627776,w64 (i+1),d,at',e',L++[S_Packet.mk x2.1 x3.1 x4.1 b3 []],S++[x6.1]))∧RdS d (if b2=false then st else none) at' e':=by
  intro b2 b3
  dsimp only [m_Il_62]
  cases b2 with
  | true=>
   obtain ⟨a5,e5,h5,g5⟩ :=im_fail h 7 (by decide)
   rw [if_pos rfl,h5]
   simp only [Option.bind_some]
   rw [im65 _ _ _ _ _ _ _ _ _ _ _ _ _ _ _ _ hL hS]
   exact ⟨_,_,rfl,g5⟩
  | false=>
   rw [if_neg (by simp),im65 _ _ _ _ _ _ _ _ _ _ _ _ _ _ _ _ hL hS]
   exact ⟨_,_,rfl,h⟩
 dsimp only [m_Il_53]
 rw [w64_id (x:=np+1) (by omega) (by omega),w64_id (x:=room - mnI x6.1 1099511627776) (by omega) (by omega)]
 by_cases k1:np+1≤400
 ·rw [if_neg (by simpa using k1)]
  obtain ⟨a6,e6,h6,g6⟩ :=e62 (decide (room - mnI x6.1 1099511627776 < 0)) (x5.1 == 1)
  rw [h6]
  refine ⟨_,_,_,rfl,?_,fun hh=>by rw [hm.2.2.1 hh]⟩
  by_cases k2:x6.1≤room
  ·rw [if_pos ⟨k1,k2⟩]
   rw [if_pos (by have:=hm.2.2.1 k2;simp;omega)] at g6
   exact g6
  ·rw [if_neg (fun hh=>k2 hh.2)]
   rw [if_neg (by have:=hm.2.2.2 (by omega);simp;omega)] at g6
   exact g6
 ·rw [if_pos (by simpa using k1)]
  obtain ⟨a6,e6,h6,g6⟩ :=e62 true (x5.1 == 1)
  rw [h6]
  refine ⟨_,_,_,rfl,?_,fun hh=>by rw [hm.2.2.1 hh]⟩
  rw [if_neg (fun hh=>k1 hh.1)]
  exact g6
theorem im50 (p1 p2 np room:Int) (x0 x5 x6 x10:Int×S_zreader) (i:Int) (x2 x3 x4:Int×S_zreader) (L:List S_Packet) (S:List Int) (b0:Bool) (at_ e:Int) (hL:L.length≤1000) (hS:S.length≤1000) (hn:0≤np∧np≤1000) (hr:0≤room∧room≤60000) (hx:0≤x6.1)
  {st:Option Nat} (h:RdS d st at_ e) (h6:x6.2=S_zreader.mk d at_ e) :
  ∃ at' e' room',m_Il_50 p1 p2 np room x0 x5 x6 x10 i x2 x3 x4 L S b0=some (.inl (np+1,room',w64 (i+1),d,at',e',L++[S_Packet.mk x2.1 x3.1 x4.1 (x5.1 == 1) []],S++[x6.1]))∧RdS d (if b0=false∧np+1≤400∧x6.1≤room then st else none) at' e'∧(x6.1≤room→room' = room - x6.1):=by
 dsimp only [m_Il_50]
 rw [h6]
 cases b0 with
 | true=>
  obtain ⟨a5,e5,h5,g5⟩ :=im_fail h 5 (by decide)
  rw [if_pos rfl,h5]
  simp only [Option.bind_some]
  obtain ⟨a7,e7,r7,h7,g7,k7⟩ :=im53 p1 p2 np room x0 x5 x6 x10 i x2 x3 x4 L S a5 e5 hL hS hn hr hx g5
  rw [h7]
  refine ⟨_,_,_,rfl,?_,k7⟩
  rw [if_neg (by simp)]
  rw [ite_self] at g7
  exact g7
 | false=>
  rw [if_neg (by simp)]
  obtain ⟨a7,e7,r7,h7,g7,k7⟩ :=im53 p1 p2 np room x0 x5 x6 x10 i x2 x3 x4 L S at_ e hL hS hn hr hx h
  dsimp only
  rw [h7]
  refine ⟨_,_,_,rfl,?_,k7⟩
  simpa using g7
include hd hb
theorem impl_pk_step (p1:Int) (nt:Nat) (np:Int) (hnp:0≤np∧np≤500) (room:Int) (hr:0≤room∧room≤60000) (x0 x10:Int×S_zreader) (m:Nat) (hx:x10.1=m) (hm:m≤100) (i:Nat) (hi:i < m) (a:Nat) (ha:a≤d.length) (L:List S_Packet) (S:List Int) (hL:L.length=i) (hS:S.length=i) :
  ∃ at' e' room',lp_Il_27 p1 (nt:Int) x0 x10 (np,room,(i:Int),d,(a:Int),0,L,S)=some (.inl (np+1,room',((i+1:Nat):Int),d,at',e',L++[pkv d a],S++[(pq5 d a).1]))∧RdS d (if np+1≤400 then pkS d nt (60000 - room) a else none) at' e'∧((pq5 d a).1≤room→room' = room - (pq5 d a).1):=by
 dsimp only [lp_Il_27,m_Il_27]
 have h0:RdS d (some a) a 0:=⟨rfl,rfl,ha⟩
 rw [if_pos (by rw [hx];simp;omega),if_neg (by simp)]
 obtain ⟨a1,e1,h1,g1⟩ :=im_number hd hb h0
 rw [h1]
 simp only [Option.bind_some]
 obtain ⟨a2,e2,h2,g2⟩ :=im_number hd hb g1
 rw [h2]
 simp only [Option.bind_some]
 obtain ⟨a3,e3,h3,g3⟩ :=im_number hd hb g2
 rw [h3]
 simp only [Option.bind_some]
 obtain ⟨a4,e4,h4,g4⟩ :=im_number hd hb g3
 rw [h4]
 simp only [Option.bind_some]
 obtain ⟨a5,e5,h5,g5⟩ :=im_number hd hb g4
 rw [h5]
 simp only [Option.bind_some]
 have gq:RdS d (pq5 d a).2 a5 e5:=g5
 rw [show numS d (numS d (numS d (numS d (numS d (some a)).2).2).2).2=pq5 d a from rfl,show numS d (numS d (numS d (numS d (some a)).2).2).2=pq4 d a from rfl,show numS d (numS d (numS d (some a)).2).2=pq3 d a from rfl,show numS d (numS d (some a)).2=pq2 d a from rfl,show numS d (some a)=pq1 d a from rfl]
 have k50:∀ b0,(b0 = !pkc d nt a)→∃ at' e' room',m_Il_50 p1 (nt:Int) np room x0 ((pq4 d a).1,S_zreader.mk d a4 e4) ((pq5 d a).1,S_zreader.mk d a5 e5) x10 (i:Int) ((pq1 d a).1,S_zreader.mk d a1 e1) ((pq2 d a).1,S_zreader.mk d a2 e2) ((pq3 d a).1,S_zreader.mk d a3 e3) L S b0=some (.inl (np+1,room',((i+1:Nat):Int),d,at',e',L++[pkv d a],S++[(pq5 d a).1]))∧RdS d (if np+1≤400 then pkS d nt (60000 - room) a else none) at' e'∧((pq5 d a).1≤room→room' = room - (pq5 d a).1):=by
  intro b0 hb0
  obtain ⟨a6,e6,r6,h6,g6,k6⟩ :=im50 p1 (nt:Int) np room x0 ((pq4 d a).1,S_zreader.mk d a4 e4) ((pq5 d a).1,S_zreader.mk d a5 e5) x10 (i:Int) ((pq1 d a).1,S_zreader.mk d a1 e1) ((pq2 d a).1,S_zreader.mk d a2 e2) ((pq3 d a).1,S_zreader.mk d a3 e3) L S b0 a5 e5 (by omega) (by omega) (by omega) hr (numS_rng d (pq4 d a).2).1 gq rfl
  rw [h6,w64_succ (by omega)]
  refine ⟨_,_,_,rfl,?_,k6⟩
  unfold pkS
  subst hb0
  dsimp only at g6
  rw [show (60000:Int) - (60000 - room)=room by omega]
  by_cases k1:np+1≤400
  ·rw [if_pos k1]
   by_cases k2:pkc d nt a=true∧(pq5 d a).1≤room
   ·rw [if_pos ⟨by rw [k2.1];rfl,k1,k2.2⟩] at g6
    rw [if_pos k2];exact g6
   ·rw [if_neg (fun hh=>k2 ⟨by simpa using hh.1,hh.2.2⟩)] at g6
    rw [if_neg k2];exact g6
  ·rw [if_neg (fun hh=>k1 hh.2.1)] at g6
   rw [if_neg k1];exact g6
 rw [impl_ticks,impl_ticks]
 simp only [Option.bind_some]
 have hp:pkc d nt a=(decide ((pq1 d a).1 < nt)&&ticksOk (pq2 d a).1&&ticksOk (pq3 d a).1&&decide ((pq4 d a).1≤1)):=rfl
 by_cases c1:(pq1 d a).1 < nt
 ·rw [if_neg (by simpa using c1)]
  cases c2:ticksOk (pq2 d a).1 with
  | false=>
   simp only [Bool.false_eq_true,if_false]
   exact k50 true (by rw [hp,c2];simp)
  | true=>
   simp only [if_true]
   cases c3:ticksOk (pq3 d a).1 with
   | false=>
    simp only [Bool.false_eq_true,if_false]
    exact k50 true (by rw [hp,c3];simp)
   | true=>
    simp only [if_true]
    refine k50 _ ?_
    rw [hp,c2,c3]
    by_cases c4:(pq4 d a).1≤1
    ·simp [c1,c4]
    ·simp [c1,c4];omega
 ·rw [if_pos (by simpa using c1)]
  exact k50 true (by rw [hp,decide_eq_false c1];simp)
theorem impl_pks (p1:Int) (nt np:Nat) (hnp:np≤400) (x0 x10:Int×S_zreader) (m:Nat) (hx:x10.1=m) (hm:m≤100):∀ (k i:Nat) (room:Int) (a:Nat) (L:List S_Packet) (S:List Int),i+k=m→np+i≤400→0≤room∧room≤60000→a≤d.length→L.length=i→S.length=i→PkI L S→
  ∃ r,loopM (lp_Il_27 p1 (nt:Int) x0 x10) (((np+i:Nat):Int),room,(i:Int),d,(a:Int),0,L,S)=some r∧
   (match (if (np:Int)+m≤400 then pksS d nt k (60000 - room) a L S else none) with | some (L2,S2,by2,b)=>r = .inr (d,(b:Int),0,L2,S2)∧b≤d.length | none=>∃ at' e' L' S',e'≠0∧(r = .inl (0,[],S_zreader.mk d at' e')∨r = .inr (d,at',e',L',S'))∧L'.length=S'.length∧L'.length≤100∧PkI L' S'):=by
 intro k
 induction k with
 | zero=>
  intro i room a L S hi hni hr ha hL hS hI
  refine ⟨.inr (d,(a:Int),0,L,S),loop_end ?_,?_⟩
  ·dsimp only [lp_Il_27,m_Il_27]
   rw [if_neg (by rw [hx];simp;omega)]
  ·rw [if_pos (by omega)]
   exact ⟨rfl,ha⟩
 | succ k ih=>
  intro i room a L S hi hni hr ha hL hS hI
  have hI':=PkI_step (d:=d) hI a
  obtain ⟨a1,e1,r1,h1,g1,k1⟩ :=impl_pk_step hd hb p1 nt ((np+i:Nat):Int) (by omega) room hr x0 x10 m hx hm i (by omega) a ha L S hL hS
  rw [loop_step h1]
  have bad:e1≠0→∃ r,loopM (lp_Il_27 p1 (nt:Int) x0 x10) (((np+i:Nat):Int)+1,r1,((i+1:Nat):Int),d,a1,e1,L++[pkv d a],S++[(pq5 d a).1])=some r∧∃ at' e' L' S',e'≠0∧(r = .inl (0,[],S_zreader.mk d at' e')∨r = .inr (d,at',e',L',S'))∧L'.length=S'.length∧L'.length≤100∧PkI L' S':=by
   intro he
   by_cases h2:(((i+1:Nat):Int)) < x10.1
   ·refine ⟨.inl (0,[],S_zreader.mk d a1 e1),loop_end ?_,a1,e1,L++[pkv d a],S++[(pq5 d a).1],he,.inl rfl,by simp;omega,by simp;omega,hI'⟩
    dsimp only [lp_Il_27,m_Il_27]
    rw [if_pos (by simpa using h2),if_pos (by simpa using he)]
   ·refine ⟨.inr (d,a1,e1,L++[pkv d a],S++[(pq5 d a).1]),loop_end ?_,a1,e1,L++[pkv d a],S++[(pq5 d a).1],he,.inr rfl,by simp;omega,by simp;omega,hI'⟩
    dsimp only [lp_Il_27,m_Il_27]
    rw [if_neg (by simpa using h2)]
  by_cases hc:((np+i:Nat):Int)+1≤400
  ·rw [if_pos hc] at g1
   unfold pksS
   cases hq:pkS d nt (60000 - room) a with
   | none=>
    rw [hq] at g1
    rw [ite_self]
    exact bad g1
   | some b=>
    rw [hq] at g1
    obtain ⟨rfl,rfl,hb'⟩ :=g1
    obtain ⟨_,_,y1,y2⟩ :=pkS_some hd hb hq
    rw [k1 (by omega)]
    obtain ⟨r,h5,g5⟩ :=ih (i+1) (room - (pq5 d a).1) b (L++[pkv d a]) (S++[(pq5 d a).1]) (by omega) (by omega) (by omega) hb' (by simp;omega) (by simp;omega) hI'
    refine ⟨r,?_,?_⟩
    ·rw [←h5];congr 2
    ·rw [show (60000:Int) - room+(pq5 d a).1=60000 - (room - (pq5 d a).1) by omega];exact g5
  ·rw [if_neg hc] at g1
   rw [if_neg (by omega)]
   exact bad g1
theorem impl_dat (p1:Int) (x0:Int×S_zreader) (L0:List S_Packet) (S0:List Int) (hLS:L0.length=S0.length) (hS0:∀ s ∈ S0,0≤s∧s≤4611686018427387904):∀ (R:List S_Packet) (i:Nat) (Q:List S_Packet) (st:Option Nat) (at_ e:Int),RdS d st at_ e→Q.length=i→L0.length=i+R.length→L0.length≤1000→
  ∃ at' e',loopM (lp_Il_74 p1 x0 L0 S0) ((i:Int),d,at_,e,Q++R)=some (d,at',e',Q++(datS d R (S0.drop i) st).1)∧RdS d (datS d R (S0.drop i) st).2 at' e':=by
 intro R
 induction R with
 | nil=>
  intro i Q st at_ e h hQ hl hlen
  have e0:datS d [] (S0.drop i) st=([],st):=by unfold datS;rfl
  rw [e0]
  refine ⟨at_,e,loop_end ?_,h⟩
  dsimp only [lp_Il_74,m_Il_74]
  simp at hl
  rw [if_neg (by simp;omega)]
 | cons p R ih=>
  intro i Q st at_ e h hQ hl hlen
  have hi:i < S0.length:=by simp at hl;omega
  have hdr:S0.drop i=S0.getD i 0::S0.drop (i+1):=by
   rw [List.drop_eq_getElem_cons hi,List.getD_eq_getElem?_getD,List.getElem?_eq_getElem hi];rfl
  have hs:S0.getD i 0 ∈ S0:=mem_gd hi
  rw [hdr]
  unfold datS
  obtain ⟨a1,e1,h1,g1⟩ :=im_take hd h (S0.getD i 0) (hS0 _ hs)
  have htl:=takeS_len (d:=d) (S0.getD i 0) st
  have hrd:rd (Q++p::R) (i:Int)=some p:=by
   rw [rd_d default (by simp;omega),List.getD_eq_getElem?_getD,List.getElem?_append_right (by omega)]
   simp [hQ]
  have hset:(Q++p::R).set (0+Int.toNat (i:Int)) (S_Packet.mk p.track p.time p.span p.key ([]++(takeS d (S0.getD i 0) st).1))=(Q++[S_Packet.mk p.track p.time p.span p.key (takeS d (S0.getD i 0) st).1])++R:=by
   rw [List.nil_append,Int.toNat_natCast,Nat.zero_add,List.set_append_right _ _ (by omega)]
   simp [hQ]
  have hstep:m_Il_74 p1 x0 L0 S0 (i:Int) d at_ e (Q++p::R)=some (.inl (((i+1:Nat):Int),d,a1,e1,(Q++[S_Packet.mk p.track p.time p.span p.key (takeS d (S0.getD i 0) st).1])++R)):=by
   dsimp only [m_Il_74]
   rw [if_pos (by simp at hl ⊢;omega),rd_d 0 hi]
   simp only [Option.bind_some]
   rw [h1]
   simp only [Option.bind_some]
   rw [ck_eq (by rw [List.length_nil];omega)]
   simp only [Option.bind_some]
   rw [hrd]
   simp only [Option.bind_some]
   rw [hset,w64_succ (by omega)]
  obtain ⟨a2,e2,h2,g2⟩ :=ih (i+1) (Q++[S_Packet.mk p.track p.time p.span p.key (takeS d (S0.getD i 0) st).1]) _ a1 e1 g1 (by simp;omega) (by simp at hl ⊢;omega) hlen
  refine ⟨a2,e2,(loop_step hstep).trans ?_,g2⟩
  rw [h2]
  simp
theorem impl_69 (f:Nat) (x0:Int×S_zreader) (L:List S_Packet) (S:List Int) (hLS:L.length=S.length) (hI:PkI L S) (hlen:L.length≤1000) (st:Option Nat) (at_ e:Int) (h:RdS d st at_ e) (hfs:∀ a,(datS d L S st).2=some a→f≤a) :
  ∃ at' e',m_Il_69 (f:Int) x0 d at_ e L S=some (x0.1,(datS d L S st).1,S_zreader.mk d at' e')∧RdS d (sumS d f (datS d L S st).2) at' e':=by
 dsimp only [m_Il_69]
 obtain ⟨a1,e1,h1,g1⟩ :=impl_dat hd hb (f:Int) x0 L S hLS hI.2 L 0 [] st at_ e h rfl (by simp) hlen
 rw [List.nil_append,show (((0:Nat):Int))=0 from rfl] at h1
 rw [h1]
 rw [List.drop_zero] at g1
 simp only [Option.bind_some]
 dsimp only [m_Il_86]
 obtain ⟨a2,e2,h2,g2⟩ :=im_sum hd hb g1 f hfs
 rw [h2]
 exact ⟨_,_,rfl,g2⟩
theorem impl_18_bad (f:Nat) (p2 p4 p5:Int) (x0 x10:Int×S_zreader) (at_ e:Int) (he:e≠0) :
  ∃ v L at' e',m_Il_18 (f:Int) p2 p4 p5 x0 x10 d at_ e=some (v,L,S_zreader.mk d at' e')∧e'≠0:=by
 dsimp only [m_Il_18]
 by_cases h2:(0:Int) < x10.1
 ·rw [loop_end (e:=.inl (0,[],S_zreader.mk d at_ e)) (by
   dsimp only [lp_Il_27,m_Il_27]
   rw [if_pos (by simpa using h2),if_pos (by simpa using he)])]
  exact ⟨_,_,_,_,rfl,he⟩
 ·rw [loop_end (e:=.inr (d,at_,e,[],[])) (by
   dsimp only [lp_Il_27,m_Il_27]
   rw [if_neg (by simpa using h2)])]
  simp only [Option.bind_some]
  obtain ⟨a4,e4,h4,g4⟩ :=impl_69 hd hb f x0 [] [] rfl ⟨by simp,by simp⟩ (by simp) none at_ e he (by simp [datS_none])
  rw [h4]
  exact ⟨_,_,_,_,rfl,g4⟩
theorem impl_10 (f nt np:Nat) (hnp:np≤400) (room:Int) (hr:0≤room∧room≤60000) (x0:Int×S_zreader) (st:Option Nat) (hqf:∀ b,st=some b→f≤b) (at_ e:Int) (h:RdS d st at_ e) :
  ∃ v L at' e',m_Il_10 (f:Int) (nt:Int) (np:Int) room x0 d at_ e=some (v,L,S_zreader.mk d at' e')∧
   (match restS d f nt np (60000 - room) x0.1 (numS d st) with | some (v2,L2,y2,b)=>v=v2∧L=L2∧RdS d (some b) at' e' | none=>e'≠0):=by
 dsimp only [m_Il_10]
 obtain ⟨a2,e2,h2,g2⟩ :=im_number hd hb h
 rw [h2]
 simp only [Option.bind_some]
 have hr1:=numS_rng d st
 have hqf' : ∀ b,(numS d st).2=some b→f≤b:=fun b hb'=>by
  obtain ⟨a,h3,h4,_⟩ :=numS_lt hb'
  have:=hqf a h3
  omega
 revert g2 hr1 hqf'
 generalize numS d st=q
 obtain ⟨c,s⟩ :=q
 intro g2 hr1 hqf'
 dsimp only at g2 hr1 hqf' ⊢
 have e15:(if decide (c < 1)=true then m_Il_15 (f:Int) (nt:Int) (np:Int) room x0 (c,S_zreader.mk d a2 e2) true else m_Il_15 (f:Int) (nt:Int) (np:Int) room x0 (c,S_zreader.mk d a2 e2) (decide (c > 100)))=m_Il_15 (f:Int) (nt:Int) (np:Int) room x0 (c,S_zreader.mk d a2 e2) (!decide (1≤c∧c≤100)):=by
  by_cases k1:c < 1
  ·rw [if_pos (by simpa using k1),show decide (1≤c∧c≤100)=false by simp;omega];rfl
  ·rw [if_neg (by simpa using k1)]
   congr 1
   by_cases k2:c≤100
   ·rw [show decide (1≤c∧c≤100)=true by simp;omega,show decide (c > 100)=false by simp;omega];rfl
   ·rw [show decide (1≤c∧c≤100)=false by simp;omega,show decide (c > 100)=true by simp;omega];rfl
 rw [e15]
 dsimp only [m_Il_15]
 have none_of:∀ (X:Option (Int×List S_Packet×S_zreader)),(∃ v L at' e',X=some (v,L,S_zreader.mk d at' e')∧e'≠0)→restS d f nt np (60000 - room) x0.1 (c,s)=none→∃ v L at' e',X=some (v,L,S_zreader.mk d at' e')∧(match restS d f nt np (60000 - room) x0.1 (c,s) with | some (v2,L2,y2,b)=>v=v2∧L=L2∧RdS d (some b) at' e' | none=>e'≠0):=by
  rintro X ⟨v,L,at',e',h3,h4⟩ h5
  rw [h5]
  exact ⟨v,L,at',e',h3,h4⟩
 by_cases k:1≤c∧c≤100
 ·rw [if_neg (by rw [decide_eq_true k];simp)]
  cases s with
  | none=>exact none_of _ (impl_18_bad hd hb f _ _ _ x0 _ a2 e2 g2) rfl
  | some b=>
   obtain ⟨m,rfl⟩:∃ m:Nat,c=m:=⟨c.toNat,by omega⟩
   obtain ⟨rfl,rfl,hb2⟩ :=g2
   dsimp only [m_Il_18]
   obtain ⟨r,h3,g3⟩ :=impl_pks hd hb (f:Int) nt np hnp x0 ((m:Int),S_zreader.mk d b 0) m rfl (by omega) m 0 room b [] [] (by omega) (by omega) hr hb2 rfl rfl ⟨by simp,by simp⟩
   rw [show ((np+0:Nat):Int)=np by omega,show (((0:Nat):Int))=0 from rfl] at h3
   rw [h3]
   simp only [Option.bind_some]
   unfold restS
   dsimp only
   rw [Int.toNat_natCast]
   by_cases k2:(np:Int)+m≤400
   ·rw [if_pos k2] at g3
    rw [if_pos ⟨k.1,k.2,k2⟩]
    cases hqq:pksS d nt m (60000 - room) b [] [] with
    | none=>
     rw [hqq] at g3
     obtain ⟨a5,e5,L5,S5,h5,rfl | rfl,n1,n2,n3⟩ :=g3
     ·exact ⟨_,_,_,_,rfl,h5⟩
     ·obtain ⟨a6,e6,h6,g6⟩ :=impl_69 hd hb f x0 L5 S5 n1 n3 (by omega) none a5 e5 h5 (by simp [datS_none])
      rw [datS_none,sumS_none] at g6
      exact ⟨_,_,_,_,h6,g6⟩
    | some r5=>
     obtain ⟨L5,S5,y5,c5⟩ :=r5
     rw [hqq] at g3
     obtain ⟨rfl,g3⟩ :=g3
     obtain ⟨j1,j2,j3,j4,j5⟩ :=pksS_le hd hb _ _ _ _ _ _ _ _ _ _ (by omega) ⟨by simp,by simp⟩ rfl hqq
     have hfb:=hqf' b rfl
     obtain ⟨a6,e6,h6,g6⟩ :=impl_69 hd hb f x0 L5 S5 j4 j2 (by simp at j5;omega) (some c5) c5 0 ⟨rfl,rfl,g3⟩ (fun a ha=>by
      have:=datS_le L5 S5 c5 a j2.2 ha
      omega)
     refine ⟨_,_,_,_,h6,?_⟩
     dsimp only
     cases hs:sumS d f (datS d L5 S5 (some c5)).2 with
     | none=>rw [hs] at g6;exact g6
     | some z=>rw [hs] at g6;exact ⟨rfl,rfl,g6⟩
   ·rw [if_neg k2] at g3
    rw [if_neg (fun hh=>k2 hh.2.2)]
    obtain ⟨a5,e5,L5,S5,h5,rfl | rfl,n1,n2,n3⟩ :=g3
    ·exact ⟨_,_,_,_,rfl,h5⟩
    ·obtain ⟨a6,e6,h6,g6⟩ :=impl_69 hd hb f x0 L5 S5 n1 n3 (by omega) none a5 e5 h5 (by simp [datS_none])
     rw [datS_none,sumS_none] at g6
     exact ⟨_,_,_,_,h6,g6⟩
 ·obtain ⟨a5,e5,h5,g5⟩ :=im_fail g2 5 (by decide)
  rw [if_pos (by rw [decide_eq_false k];rfl),h5]
  simp only [Option.bind_some]
  refine none_of _ (impl_18_bad hd hb f _ _ _ x0 _ a5 e5 g5) ?_
  unfold restS
  cases s with
  | none=>rfl
  | some b=>dsimp only;rw [if_neg (fun hh=>k ⟨hh.1,hh.2.1⟩)]
theorem impl_piece (f nt np:Nat) (hnp:np≤400) (due room:Int) (hr:0≤room∧room≤60000) (st:Option Nat) (hqf:∀ b,st=some b→f≤b) (at_ e:Int) (h:RdS d st at_ e) :
  ∃ v L at' e',m_Il (S_zreader.mk d at_ e) (f:Int) (nt:Int) due (np:Int) room=some (v,L,S_zreader.mk d at' e')∧
   (match pieceS d f nt np (60000 - room) due st with | some (v2,L2,y2,b)=>v=v2∧L=L2∧RdS d (some b) at' e' | none=>e'≠0):=by
 dsimp only [m_Il,m_Il_0]
 obtain ⟨a1,e1,h1,g1⟩ :=im_number hd hb h
 rw [h1]
 simp only [Option.bind_some]
 have hqf' : ∀ b,(numS d st).2=some b→f≤b:=fun b hb'=>by
  obtain ⟨a,h3,h4,_⟩ :=numS_lt hb'
  have:=hqf a h3
  omega
 unfold pieceS
 have e7:(if decide (due≥0)=true then m_Il_7 (f:Int) (nt:Int) (np:Int) room ((numS d st).1,S_zreader.mk d a1 e1) ((numS d st).1 != due) else m_Il_7 (f:Int) (nt:Int) (np:Int) room ((numS d st).1,S_zreader.mk d a1 e1) false)
   = m_Il_7 (f:Int) (nt:Int) (np:Int) room ((numS d st).1,S_zreader.mk d a1 e1) (!decide (due < 0∨(numS d st).1=due)):=by
  by_cases k1:due≥0
  ·rw [if_pos (by simpa using k1)]
   congr 1
   by_cases k2:(numS d st).1=due
   ·simp [k2]
   ·rw [decide_eq_false (by omega : ¬ (due < 0∨(numS d st).1=due))];simp [k2]
  ·rw [if_neg (by simpa using k1),show decide (due < 0∨(numS d st).1=due)=true by simp;omega];rfl
 rw [e7]
 dsimp only [m_Il_7]
 by_cases k:due < 0∨(numS d st).1=due
 ·rw [if_neg (by rw [decide_eq_true k];simp),if_pos k]
  exact impl_10 hd hb f nt np hnp room hr ((numS d st).1,S_zreader.mk d a1 e1) _ hqf' a1 e1 g1
 ·rw [if_pos (by rw [decide_eq_false k];rfl),if_neg k]
  obtain ⟨a5,e5,h5,g5⟩ :=im_fail g1 6 (by decide)
  rw [h5]
  simp only [Option.bind_some]
  have:=impl_10 hd hb f nt np hnp room hr ((numS d st).1,S_zreader.mk d a1 e1) none (by simp) a5 e5 g5
  rw [numS_none,show restS d f nt np (60000 - room) (numS d st).1 (0,none)=none from rfl] at this
  exact this
end
end Go.Proofs.V

namespace Go.Proofs.V
open Go
theorem bytesOf_eq:∀ (l:List Int),(∀ x ∈ l,0≤x∧x≤255)→bytesOf (l.map (rI .u8))=some (l.map fun x=>UInt8.ofNat x.toNat)
 | [],_=>rfl
 | x::l,h=>by
  have h1:=bytesOf_eq l (fun y hy=>h y (List.mem_cons_of_mem _ hy))
  have hx:=h x List.mem_cons_self
  show (if 0≤x∧x≤255 then (bytesOf (l.map (rI .u8))).map (UInt8.ofNat x.toNat :: ·) else none)=_
  rw [if_pos hx,h1];rfl
theorem name_list {l:List Int} (h:∀ x ∈ l,0≤x∧x≤255):(nameOf l).toList=l.map fun x=>UInt8.ofNat x.toNat:=by
 unfold nameOf bstr
 rw [bytesOf_eq l h]
 show (ByteArray.mk (l.map fun x=>UInt8.ofNat x.toNat).toArray).toList=_
 exact ByteArray.toList_mk _
theorem u8_inj:∀ (l m:List Int),(∀ x ∈ l,0≤x∧x≤255)→(∀ x ∈ m,0≤x∧x≤255)→l.map (fun x=>UInt8.ofNat x.toNat)=m.map (fun x=>UInt8.ofNat x.toNat)→l=m
 | [],[],_,_,_=>rfl
 | [],_::_,_,_,h=>by simp at h
 | _::_,[],_,_,h=>by simp at h
 | x::l,y::m,h1,h2,h=>by
  simp only [List.map_cons,List.cons.injEq] at h
  have hx:=h1 x List.mem_cons_self
  have hy:=h2 y List.mem_cons_self
  have h3:(UInt8.ofNat x.toNat).toNat=(UInt8.ofNat y.toNat).toNat:=by rw [h.1]
  have h4:∀ z:Int,0≤z∧z≤255→(UInt8.ofNat z.toNat).toNat=z.toNat:=fun z hz=>by
   simp [UInt8.toNat_ofNat];omega
  rw [h4 x hx,h4 y hy] at h3
  have h5:x=y:=by omega
  rw [h5,u8_inj l m (fun z hz=>h1 z (List.mem_cons_of_mem _ hz)) (fun z hz=>h2 z (List.mem_cons_of_mem _ hz)) h.2]
theorem name_eq {l m:List Int} {s:ByteArray} (hl:∀ x ∈ l,0≤x∧x≤255) (hm:∀ x ∈ m,0≤x∧x≤255) (hs:s.toList=m.map fun x=>UInt8.ofNat x.toNat):((nameOf l).toList == s.toList)=decide (l=m):=by
 rw [name_list hl,hs]
 by_cases h:l=m
 ·subst h;simp
 ·rw [decide_eq_false h]
  simp only [beq_eq_false_iff_ne]
  exact fun hh=>h (u8_inj l m hl hm hh)
def pMark:List Int:=[27,80,73,69,67,69,10,0]
def iMark:List Int:=[27,73,78,68,69,88,10,0]
def isM (d:List Int) (a:Nat) (m:List Int):Bool:=decide (a+8≤d.length∧slc d a 8=m)
def ixF (f:Nat) (ix:List S_Entry) (L:List S_Packet):List S_Entry:=L.foldl (fun s p=>if p.key then s++[S_Entry.mk p.track p.time f] else s) ix
def runS (d:List Int) (nt:Nat):Nat→Nat→Nat→Int→List S_Packet→List S_Entry→Bool×Nat×List S_Packet×List S_Entry
 | 0,a,_,_,P,ix=>(true,a,P,ix)
 | k+1,a,due,by_,P,ix=>if isM d a pMark then (match pieceS d a nt P.length by_ due (some (a+8)) with
  | some (_,L,y,b)=>runS d nt k b (due+1) y (P++L) (ixF a ix L)
  | none=>(false,a,P,ix)) else (true,a,P,ix)
def dsum:List S_Packet→Int
 | []=>0
 | p::L=>p.data.length+dsum L
def isum:List Int→Int
 | []=>0
 | x::l=>x+isum l
theorem isum_app:∀ (l m:List Int),isum (l++m)=isum l+isum m
 | [],m=>by simp [isum]
 | x::l,m=>by simp [isum,isum_app l m];omega
section
variable {d:List Int} (hd:d.length≤1048576) (hb:∀ x ∈ d,0≤x∧x≤255)
theorem ixF_len (f:Nat):∀ (L:List S_Packet) (ix:List S_Entry),(ixF f ix L).length≤ix.length+L.length
 | [],ix=>by unfold ixF;simp
 | p::L,ix=>by
  have:=ixF_len f L (if p.key then ix++[S_Entry.mk p.track p.time f] else ix)
  unfold ixF at this ⊢
  rw [List.foldl_cons]
  refine Nat.le_trans this ?_
  split <;> simp <;> omega
theorem datS_sum:∀ (L:List S_Packet) (S:List Int) (a b:Nat),L.length=S.length→(∀ s ∈ S,0≤s∧s≤4611686018427387904)→(datS d L S (some a)).2=some b→a≤d.length→dsum (datS d L S (some a)).1=isum S∧b≤d.length∧(datS d L S (some a)).1.length=L.length
 | [],S,a,b,hl,_,h,ha=>by
  have:S=[]:=List.length_eq_zero_iff.1 (by simpa using hl.symm)
  subst this
  unfold datS at h ⊢;simp at h;simp [dsum,isum];omega
 | _::_,[],a,b,hl,_,h,_=>by simp at hl
 | p::L,s::S,a,b,hl,hs,h,ha=>by
  unfold datS at h ⊢
  cases hq:(takeS d s (some a)).2 with
  | none=>rw [hq] at h;rw [datS_none] at h;simp at h
  | some c=>
   rw [hq] at h
   have h1:=hs s (by simp)
   have hc:c≤d.length∧((takeS d s (some a)).1.length:Int)=s:=by
    unfold takeS at hq ⊢
    dsimp only at hq ⊢
    by_cases k:(a:Int)+s≤d.length
    ·rw [if_pos k] at hq ⊢
     simp at hq
     refine ⟨by omega,?_⟩
     rw [slc_ln (by omega)];omega
    ·rw [if_neg k] at hq;simp at hq
   obtain ⟨j1,j2,j3⟩ :=datS_sum L S c b (by simpa using hl) (fun x hx=>hs x (by simp [hx])) h hc.1
   refine ⟨?_,j2,by simp [j3]⟩
   show ((takeS d s (some a)).1.length:Int)+dsum (datS d L S (some c)).1=s+isum S
   rw [j1,hc.2]
include hd hb
theorem pksS_sum (nt:Nat):∀ (k:Nat) (by_:Int) (a:Nat) (L:List S_Packet) (S:List Int) (L2:List S_Packet) (S2:List Int) (y:Int) (b:Nat),pksS d nt k by_ a L S=some (L2,S2,y,b)→a≤d.length→y=by_+isum S2 - isum S∧b≤d.length
 | 0,by_,a,L,S,L2,S2,y,b,h,ha=>by
  unfold pksS at h
  simp at h
  obtain ⟨rfl,rfl,rfl,rfl⟩ :=h
  exact ⟨by omega,ha⟩
 | k+1,by_,a,L,S,L2,S2,y,b,h,ha=>by
  unfold pksS at h
  cases hq:pkS d nt by_ a with
  | none=>rw [hq] at h;simp at h
  | some c=>
   rw [hq] at h
   obtain ⟨z1,z2,z3,z4⟩ :=pkS_some hd hb hq
   obtain ⟨x4,w4,v4,v5⟩ :=numS_lt z1
   obtain ⟨j1,j2⟩ :=pksS_sum nt k _ c _ _ L2 S2 y b h v5
   rw [isum_app] at j1
   simp [isum] at j1
   exact ⟨by omega,j2⟩
theorem pieceS_facts {f nt np:Nat} {by_ due:Int} {a:Nat} {v:Int} {L:List S_Packet} {y:Int} {b:Nat} (hy:0≤by_∧by_≤60000) (h:pieceS d f nt np by_ due (some a)=some (v,L,y,b)) :
  a < b∧b≤d.length∧np+L.length≤400∧(0≤y∧y≤60000)∧y=by_+dsum L:=by
 unfold pieceS at h
 by_cases k:due < 0∨(numS d (some a)).1=due
 ·rw [if_pos k] at h
  unfold restS at h
  cases hq:(numS d (numS d (some a)).2).2 with
  | none=>rw [hq] at h;simp at h
  | some c=>
   rw [hq] at h
   dsimp only at h
   by_cases k2:1≤(numS d (numS d (some a)).2).1∧(numS d (numS d (some a)).2).1≤100∧(np:Int)+(numS d (numS d (some a)).2).1≤400
   ·rw [if_pos k2] at h
    cases hqq:pksS d nt (numS d (numS d (some a)).2).1.toNat by_ c [] [] with
    | none=>rw [hqq] at h;simp at h
    | some r=>
     obtain ⟨L2,S2,y2,c2⟩ :=r
     rw [hqq] at h
     dsimp only at h
     cases hs:sumS d f (datS d L2 S2 (some c2)).2 with
     | none=>rw [hs] at h;simp at h
     | some e=>
      rw [hs] at h
      simp at h
      obtain ⟨rfl,rfl,rfl,rfl⟩ :=h
      obtain ⟨x1,w1,v1,_⟩ :=numS_lt hq
      obtain ⟨x0,w0,v0,_⟩ :=numS_lt w1
      simp at w0
      subst w0
      obtain ⟨j1,j2,j3,j4,j5⟩ :=pksS_le hd hb _ _ _ _ _ _ _ _ _ _ hy ⟨by simp,by simp⟩ rfl hqq
      have hc:c≤d.length:=(numS_lt hq).choose_spec.2.2
      obtain ⟨s1,s2⟩ :=pksS_sum hd hb _ _ _ _ _ _ _ _ _ _ hqq hc
      cases hz:(datS d L2 S2 (some c2)).2 with
      | none=>rw [hz] at hs;simp [sumS] at hs
      | some z=>
       obtain ⟨t1,t2,t3⟩ :=datS_sum L2 S2 c2 z j4 j2.2 hz s2
       have t4:=datS_le L2 S2 c2 z j2.2 hz
       rw [hz] at hs
       unfold sumS at hs
       dsimp only at hs
       by_cases k3:z+4≤d.length∧be4 (slc d z 4)=crcF (slc d f (z - f))
       ·rw [if_pos k3] at hs
        simp at hs
        refine ⟨by omega,by omega,?_,j3,?_⟩
        ·rw [t3,j5];simp;omega
        ·rw [t1,s1];simp [isum]
       ·rw [if_neg k3] at hs;simp at hs
   ·rw [if_neg k2] at h;simp at h
 ·rw [if_neg k] at h;simp at h
omit hb in
theorem spec_mark (a:Nat) (m:List Int) (hm:m.length=8) (ha:a≤d.length) (e du byr:Int) (B:S_Box) (ix:List S_Entry):m_Si (S_l16R.mk d a e B du byr ix) m=some (isM d a m,S_l16R.mk d a e B du byr ix):=by
 dsimp only [m_Si,m_Si_0]
 rw [w64_id (x:=(d.length:Int) - a) (by omega) (by omega)]
 unfold isM
 by_cases h:a+8≤d.length
 ·rw [if_neg (by simp;omega)]
  have key:=all_fold (l:=List.range 8) (σ:=Unit) (fun _ i=>((i:Nat):Int)) (q:=fun i=>decide (d.getD (a+i) 0=m.getD i 0)) (g:=fun _ _=>()) (I:=fun _ _=>True) (b:=lp_Si_15 m (S_l16R.mk d a e B du byr ix)) (e0:=.inl (false,S_l16R.mk d a e B du byr ix)) (e1:=fun _=>.inr ())
   (fun i s hi _=>by
    simp at hi
    simp only [List.getElem_range]
    have hs:lp_Si_15 m (S_l16R.mk d a e B du byr ix) (i:Int)=if d.getD (a+i) 0=m.getD i 0 then some (.inl (((i+1:Nat)):Int)) else some (.inr (.inl (false,S_l16R.mk d a e B du byr ix))):=by
     dsimp only [lp_Si_15,m_Si_15]
     rw [if_pos (by rw [hm];simp;omega),rd_d 0 (by omega)]
     simp only [Option.bind_some]
     rw [w64_id (x:=(a:Int)+i) (by omega) (by omega),show (a:Int)+i=((a+i:Nat):Int) by omega,rd_d 0 (by omega)]
     simp only [Option.bind_some]
     rw [w64_succ (by omega)]
     by_cases k:d.getD (a+i) 0=m.getD i 0
     ·rw [if_neg (by simpa using k),if_pos k]
     ·rw [if_pos (by simpa using k),if_neg k]
    refine ⟨fun hq=>⟨?_,trivial⟩,fun hq=>?_⟩
    ·rw [hs,if_pos (of_decide_eq_true hq)]
    ·rw [hs,if_neg (of_decide_eq_false hq)])
   (fun s _=>by
    dsimp only [lp_Si_15,m_Si_15]
    rw [if_neg (by rw [hm];simp)]) () trivial
  have e1:(((0:Nat):Int))=0:=rfl
  rw [e1] at key
  rw [key]
  have e2:(List.range 8).all (fun i=>decide (d.getD (a+i) 0=m.getD i 0))=decide (a+8≤d.length∧slc d a 8=m):=by
   rw [Bool.eq_iff_iff]
   simp only [List.all_eq_true,List.mem_range,decide_eq_true_eq]
   constructor
   ·intro hh
    refine ⟨h,?_⟩
    apply List.ext_getElem?
    intro i
    by_cases hi:i < 8
    ·have:=hh i hi
     rw [List.getD_eq_getElem?_getD,List.getD_eq_getElem?_getD,List.getElem?_eq_getElem (show a+i < d.length by omega),List.getElem?_eq_getElem (show i < m.length by omega)] at this
     simp only [Option.getD_some] at this
     unfold slc
     rw [List.getElem?_drop,List.getElem?_take,if_pos (by omega),List.getElem?_eq_getElem (show a+i < d.length by omega),List.getElem?_eq_getElem (show i < m.length by omega),this]
    ·rw [List.getElem?_eq_none (by rw [slc_ln h];omega),List.getElem?_eq_none (by omega)]
   ·rintro ⟨_,hh⟩ i hi
    rw [←hh]
    unfold slc
    rw [List.getD_eq_getElem?_getD,List.getD_eq_getElem?_getD,List.getElem?_drop,List.getElem?_take,if_pos (by omega)]
  rw [e2]
  cases decide (a+8≤d.length∧slc d a 8=m) <;> rfl
 ·rw [if_pos (by simp;omega),decide_eq_false (fun hh=>h hh.1)]
theorem spec_pieces (nt:Nat) (T:List S_Track) (hT:T.length=nt):∀ (k a due:Nat) (byr:Int) (P:List S_Packet) (ix:List S_Entry),d.length < a+k→a≤d.length→due≤a→0≤byr∧byr≤60000→P.length≤400→ix.length≤P.length→
  ∃ r,loopM lp_Sl_2 (d,(a:Int),0,(due:Int),byr,T,P,ix)=some r∧(match runS d nt k a due byr P ix with | (ok,b,P',ix')=>r.data=d∧r.index=ix'∧r.box=S_Box.mk T P'∧ix'.length≤400∧P'.length≤400∧(if ok=true then r.err=0∧r.at_=b∧b≤d.length∧isM d b pMark=false else r.err≠0)):=by
 intro k
 induction k with
 | zero=>intro a due byr P ix h1 h2;omega
 | succ k ih=>
  intro a due byr P ix h1 ha hdue hy hP hix
  have hm:=spec_mark hd a pMark rfl ha 0 due byr (S_Box.mk T P) ix
  unfold runS
  by_cases hmk:isM d a pMark=true
  ·rw [if_pos hmk]
   have ha8:a+8≤d.length:=(of_decide_eq_true hmk).1
   obtain ⟨v,L,a1,e1,y1,h3,g3⟩ :=spec_piece hd hb a ha8 (due:Int) (due:Int) byr T P ix hy (by omega)
   rw [hT] at g3
   have hstep:m_Sl_2 d (a:Int) 0 (due:Int) byr T P ix=if (e1 != 0)=true then some (.inr (S_l16R.mk d a1 e1 (S_Box.mk T P) due y1 ix)) else (loopM (lp_Sl_26 (isM d a pMark,S_l16R.mk d a 0 (S_Box.mk T P) due byr ix) (v,L,S_l16R.mk d a1 e1 (S_Box.mk T P) due y1 ix)) (0,(w64 ((due:Int)+1)),ix)).bind fun e=>m_Sl_42 (v,L,S_l16R.mk d a1 e1 (S_Box.mk T P) due y1 ix) e.1 e.2:=by
    dsimp only [m_Sl_2]
    rw [if_pos (by simp)]
    show (some pMark).bind _=_
    simp only [Option.bind_some]
    rw [hm]
    simp only [Option.bind_some]
    rw [if_pos hmk,h3]
    rfl
   cases hq:pieceS d a nt P.length byr due (some (a+8)) with
   | none=>
    rw [hq] at g3
    obtain ⟨g3,rfl⟩ :=g3
    refine ⟨S_l16R.mk d a1 e1 (S_Box.mk T P) due y1 ix,loop_end ?_,rfl,rfl,rfl,by omega,hP,?_⟩
    ·show m_Sl_2 d (a:Int) 0 (due:Int) y1 T P ix=_
     rw [hstep,if_pos (by simpa using g3)]
    ·rw [if_neg (by simp)];exact g3
   | some r=>
    obtain ⟨v2,L2,y2,b⟩ :=r
    rw [hq] at g3
    obtain ⟨rfl,rfl,rfl,rfl,rfl,hb2⟩ :=g3
    obtain ⟨f1,f2,f3,f4,f5⟩ :=pieceS_facts hd hb hy hq
    have hL:L.length≤400:=by omega
    have fold:=fold_list (l:=L) (σ:=List S_Entry) (fun s i=>(((i:Nat):Int),(((due+1:Nat)):Int),s)) (g:=fun s p=>if p.key then s++[S_Entry.mk p.track p.time a] else s) (I:=fun i s=>s.length≤ix.length+i) (b:=lp_Sl_26 (isM d a pMark,S_l16R.mk d a 0 (S_Box.mk T P) due byr ix) (v,L,S_l16R.mk d b 0 (S_Box.mk T P) due y1 ix)) (e1:=fun s=>(((due+1:Nat):Int),s))
     (fun i s hi hI=>by
      dsimp only [lp_Sl_26,m_Sl_26]
      rw [if_pos (by simp;omega),rd_eq hi]
      simp only [Option.bind_some]
      rw [w64_succ (by omega)]
      cases hk:L[i].key with
      | true=>
       simp only [if_true]
       rw [ck_eq (by simp;omega)]
       simp only [Option.bind_some]
       exact ⟨by trivial,by simp;omega⟩
      | false=>
       simp only [Bool.false_eq_true,if_false]
       exact ⟨by trivial,by omega⟩)
     (fun s _=>by
      dsimp only [lp_Sl_26,m_Sl_26]
      rw [if_neg (by simp)]) ix (by simp)
    obtain ⟨r,h5,g5⟩ :=ih b (due+1) y1 (P++L) (ixF a ix L) (by omega) f2 (by omega) f4 (by simp;omega) (by have:=ixF_len a L ix;simp;omega)
    refine ⟨r,(loop_step ?_).trans h5,g5⟩
    show m_Sl_2 d (a:Int) 0 (due:Int) byr T P ix=_
    rw [hstep,if_neg (by simp),w64_succ (by omega)]
    have h6:=fold.1
    rw [show (((0:Nat):Int))=0 from rfl] at h6
    rw [h6]
    simp only [Option.bind_some]
    dsimp only [m_Sl_42]
    rw [ck_eq (by omega)]
    rfl
  ·have hmk' : isM d a pMark=false:=by simpa using hmk
   rw [if_neg hmk]
   refine ⟨S_l16R.mk d a 0 (S_Box.mk T P) due byr ix,loop_end ?_,rfl,rfl,rfl,by omega,hP,?_⟩
   ·show m_Sl_2 d (a:Int) 0 (due:Int) byr T P ix=_
    dsimp only [m_Sl_2]
    rw [if_pos (by simp)]
    show (some pMark).bind _=_
    simp only [Option.bind_some]
    rw [hm]
    simp only [Option.bind_some]
    rw [if_neg hmk]
   ·rw [if_pos rfl];exact ⟨rfl,rfl,ha,hmk'⟩
omit hd hb in
theorem room_fold (f:Nat):∀ (L:List S_Packet) (room:Int) (ix:List S_Entry),L.foldl (fun (s:Int×List S_Entry) p=>(s.1 - p.data.length,if p.key then s.2++[S_Entry.mk p.track p.time f] else s.2)) (room,ix)=(room - dsum L,ixF f ix L)
 | [],room,ix=>by simp [dsum,ixF]
 | p::L,room,ix=>by
  rw [List.foldl_cons,room_fold f L]
  rw [show dsum (p::L)=p.data.length+dsum L from rfl,show ixF f ix (p::L)=ixF f (if p.key then ix++[S_Entry.mk p.track p.time f] else ix) L from rfl]
  congr 1
  omega
omit hd hb in
theorem dsum_nn:∀ L:List S_Packet,0≤dsum L
 | []=>by simp [dsum]
 | p::L=>by have:=dsum_nn L;simp [dsum];omega
omit hd hb in
theorem dsum_take (L:List S_Packet):∀ i,dsum (L.take i)≤dsum L:=by
 induction L with
 | nil=>intro i;simp [dsum]
 | cons p L ih=>
  intro i
  cases i with
  | zero=>simp [dsum];have:=dsum_nn L;omega
  | succ i=>simp [dsum];have:=ih i;omega
omit hd hb in
theorem dsum_take_succ (L:List S_Packet):∀ i (h:i < L.length),dsum (L.take (i+1))=dsum (L.take i)+L[i].data.length:=by
 induction L with
 | nil=>intro i h;simp at h
 | cons p L ih=>
  intro i h
  cases i with
  | zero=>simp [dsum]
  | succ i=>simp [dsum];have:=ih i (by simpa using h);omega
theorem impl_pieces (nt:Nat) (x0:List S_Track×S_zreader) (hT:x0.1.length=nt):∀ (k a due:Nat) (byr:Int) (P:List S_Packet) (ix:List S_Entry),d.length < a+k→a≤d.length→due≤a→0≤byr∧byr≤60000→P.length≤400→ix.length≤P.length→
  ∃ r,loopM (lp_If_13 x0) (60000 - byr,(due:Int),d,(a:Int),0,ix,P)=some r∧(match runS d nt k a due byr P ix with | (ok,b,P',ix')=>if ok=true∧isM d b iMark=true then r = .inr (S_Box.mk x0.1 P',ix',S_zreader.mk d ((b+8:Nat):Int) 0) else ∃ at' e',e'≠0∧r = .inl (d,at',e',ix',P')):=by
 intro k
 induction k with
 | zero=>intro a due byr P ix h1 h2;omega
 | succ k ih=>
  intro a due byr P ix h1 ha hdue hy hP hix
  obtain ⟨a1,e1,h3,g3⟩ :=im_take hd (st:=some a) (at_:=(a:Int)) (e:=0) ⟨rfl,rfl,ha⟩ 8 (by omega)
  have hnm:=bstr_name (takeS_b hb 8 (some a))
  have hpm:∀ x ∈ pMark,0≤x∧x≤255:=by decide
  have him:∀ x ∈ iMark,0≤x∧x≤255:=by decide
  have eqp:=name_eq (l:=(takeS d 8 (some a)).1) (m:=pMark) (s:=ByteArray.mk #[27,80,73,69,67,69,10,0]) (takeS_b hb 8 (some a)) hpm (by rw [ByteArray.toList_eq];rfl)
  have eqi:=name_eq (l:=(takeS d 8 (some a)).1) (m:=iMark) (s:=ByteArray.mk #[27,73,78,68,69,88,10,0]) (takeS_b hb 8 (some a)) him (by rw [ByteArray.toList_eq];rfl)
  have badx:∀ (at_ e:Int),e≠0→∃ y at' e',m_If_39 (60000 - byr) (due:Int) (a:Int) ix x0 P d at_ e=some (.inr (.inl (d,at',e',ix,P)))∧e'≠0∧y=(0:Int):=by
   intro at_ e he
   dsimp only [m_If_39]
   obtain ⟨v,L,a2,e2,h4,g4⟩ :=impl_piece hd hb a nt P.length hP (due:Int) (60000 - byr) (by omega) none (by simp) at_ e he
   rw [hT,h4]
   simp only [Option.bind_some]
   have:pieceS d a nt P.length (60000 - (60000 - byr)) due none=none:=by
    unfold pieceS;rw [numS_none,numS_none];split <;> rfl
   rw [this] at g4
   rw [if_pos (by simpa using g4)]
   exact ⟨0,_,_,rfl,g4,rfl⟩
  have hstep:lp_If_13 x0 (60000 - byr,(due:Int),d,(a:Int),0,ix,P)=if (takeS d 8 (some a)).2.isSome=true then m_If_28 (60000 - byr) (due:Int) (a:Int) (nameOf (takeS d 8 (some a)).1) ((takeS d 8 (some a)).1,S_zreader.mk d a1 e1) ix x0 P (decide ((takeS d 8 (some a)).1=iMark)) else m_If_28 (60000 - byr) (due:Int) (a:Int) (nameOf (takeS d 8 (some a)).1) ((takeS d 8 (some a)).1,S_zreader.mk d a1 e1) ix x0 P false:=by
   dsimp only [lp_If_13,m_If_13]
   rw [if_pos (by simp),h3]
   simp only [Option.bind_some]
   rw [hnm.1]
   simp only [Option.bind_some]
   rw [RdS_e g3,eqi]
  unfold runS
  have hpi:pMark≠iMark:=by decide
  by_cases h8:a+8≤d.length
  ·have htk:takeS d 8 (some a)=(slc d a 8,some (a+8)):=by unfold takeS;dsimp only;rw [if_pos (by omega)];rfl
   rw [htk] at hstep g3 eqp hnm
   simp only [Option.isSome_some,if_true] at hstep
   obtain ⟨rfl,rfl,_⟩ :=g3
   have ip:isM d a pMark=decide (slc d a 8=pMark):=by unfold isM;simp [h8]
   have ii:isM d a iMark=decide (slc d a 8=iMark):=by unfold isM;simp [h8]
   by_cases hmk:slc d a 8=pMark
   ·rw [ip,decide_eq_true hmk,if_pos rfl]
    have h28:lp_If_13 x0 (60000 - byr,(due:Int),d,(a:Int),0,ix,P)=m_If_39 (60000 - byr) (due:Int) (a:Int) ix x0 P d ((a+8:Nat):Int) 0:=by
     rw [hstep,decide_eq_false (by rw [hmk];exact hpi)]
     dsimp only [m_If_28]
     rw [if_neg (by simp),eqp,decide_eq_true hmk,if_pos rfl]
    obtain ⟨v,L,a2,e2,h4,g4⟩ :=impl_piece hd hb a nt P.length hP (due:Int) (60000 - byr) (by omega) (some (a+8)) (fun b hb'=>by simp at hb';omega) ((a+8:Nat):Int) 0 ⟨rfl,rfl,h8⟩
    rw [show (60000:Int) - (60000 - byr)=byr by omega] at g4
    have h39:m_If_39 (60000 - byr) (due:Int) (a:Int) ix x0 P d ((a+8:Nat):Int) 0=if (e2 != 0)=true then some (.inr (.inl (d,a2,e2,ix,P))) else (loopM (lp_If_52 (due:Int) (a:Int) (v,L,S_zreader.mk d a2 e2) x0 P) (60000 - byr,0,ix)).bind fun e=>m_If_70 (due:Int) (v,L,S_zreader.mk d a2 e2) x0 P e.1 e.2:=by
     dsimp only [m_If_39]
     rw [hT,h4]
     rfl
    cases hq:pieceS d a nt P.length byr due (some (a+8)) with
    | none=>
     rw [hq] at g4
     refine ⟨.inl (d,a2,e2,ix,P),loop_end ?_,?_⟩
     ·rw [h28,h39,if_pos (by simpa using g4)]
     ·dsimp only
      rw [if_neg (by simp)]
      exact ⟨_,_,g4,rfl⟩
    | some r=>
     obtain ⟨v2,L2,y2,b⟩ :=r
     rw [hq] at g4
     obtain ⟨rfl,rfl,rfl,rfl,hb2⟩ :=g4
     obtain ⟨f1,f2,f3,f4,f5⟩ :=pieceS_facts hd hb hy hq
     have fold:=fold_list (l:=L) (σ:=Int×List S_Entry) (fun s i=>(s.1,((i:Nat):Int),s.2)) (g:=fun s p=>(s.1 - p.data.length,if p.key then s.2++[S_Entry.mk p.track p.time a] else s.2)) (I:=fun i s=>s.1=60000 - byr - dsum (L.take i)∧s.2.length≤ix.length+i) (b:=lp_If_52 (due:Int) (a:Int) (v,L,S_zreader.mk d b 0) x0 P) (e1:=fun s=>(s.1,s.2))
      (fun i s hi hI=>by
       have hL:L.length≤400:=by omega
       have d1:=dsum_take_succ L i hi
       have d2:=dsum_take L (i+1)
       have d3:=dsum_nn (L.take (i+1))
       have d4:=dsum_nn (L.take i)
       have hr:w64 (s.1 - (L[i].data.length:Int))=s.1 - (L[i].data.length:Int):=by rw [hI.1];exact w64_id (by omega) (by omega)
       dsimp only [lp_If_52,m_If_52]
       rw [if_pos (by simp;omega),rd_eq hi]
       simp only [Option.bind_some]
       rw [w64_succ (by omega),hr]
       cases hk:L[i].key with
       | true=>
        simp only [if_true]
        rw [ck_eq (by simp;omega)]
        simp only [Option.bind_some]
        exact ⟨by trivial,by omega,by simp;omega⟩
       | false=>
        simp only [Bool.false_eq_true,if_false]
        exact ⟨by trivial,by omega,by omega⟩)
      (fun s _=>by
       dsimp only [lp_If_52,m_If_52]
       rw [if_neg (by simp)]) (60000 - byr,ix) ⟨by simp [dsum],by simp⟩
     obtain ⟨r,h5,g5⟩ :=ih b (due+1) y2 (P++L) (ixF a ix L) (by omega) f2 (by omega) f4 (by simp;omega) (by have:=ixF_len a L ix;simp;omega)
     refine ⟨r,(loop_step ?_).trans h5,g5⟩
     rw [h28,h39,if_neg (by simp)]
     have h6:=fold.1
     dsimp only at h6
     rw [show (((0:Nat):Int))=0 from rfl,room_fold] at h6
     rw [h6]
     simp only [Option.bind_some]
     dsimp only [m_If_70]
     rw [ck_eq (by omega)]
     simp only [Option.bind_some]
     rw [w64_succ (by omega),show (60000:Int) - byr - dsum L=60000 - y2 by omega]
   ·rw [ip,decide_eq_false hmk,if_neg (by simp)]
    dsimp only
    rw [ii]
    by_cases hmi:slc d a 8=iMark
    ·refine ⟨.inr (S_Box.mk x0.1 P,ix,S_zreader.mk d ((a+8:Nat):Int) 0),loop_end ?_,?_⟩
     ·rw [hstep,decide_eq_true hmi]
      rfl
     ·rw [if_pos ⟨rfl,decide_eq_true hmi⟩]
    ·obtain ⟨a5,e5,h5,g5⟩ :=im_fail (d:=d) (st:=some (a+8)) (at_:=((a+8:Nat):Int)) (e:=0) ⟨rfl,rfl,h8⟩ 4 (by decide)
     obtain ⟨_,a6,e6,h6,g6,_⟩ :=badx a5 e5 g5
     refine ⟨.inl (d,a6,e6,ix,P),loop_end ?_,?_⟩
     ·rw [hstep,decide_eq_false hmi]
      dsimp only [m_If_28]
      rw [if_neg (by simp),eqp,decide_eq_false hmk,if_neg (by simp),h5]
      exact h6
     ·rw [if_neg (fun hh=>hmi (of_decide_eq_true hh.2))]
      exact ⟨_,_,g6,rfl⟩
  ·have htk:takeS d 8 (some a)=([],none):=by unfold takeS;dsimp only;rw [if_neg (by omega)]
   rw [htk] at hstep g3 eqp
   simp only [Option.isSome_none,Bool.false_eq_true,if_false] at hstep
   have ip:isM d a pMark=false:=by unfold isM;simp [h8]
   have ii:isM d a iMark=false:=by unfold isM;simp [h8]
   rw [ip,if_neg (by simp)]
   dsimp only
   obtain ⟨a5,e5,h5,g5⟩ :=im_fail g3 4 (by decide)
   obtain ⟨_,a6,e6,h6,g6,_⟩ :=badx a5 e5 g5
   refine ⟨.inl (d,a6,e6,ix,P),loop_end ?_,?_⟩
   ·rw [hstep]
    dsimp only [m_If_28]
    rw [if_neg (by simp),eqp,decide_eq_false (by decide),if_neg (by simp),h5]
    exact h6
   ·rw [ii,if_neg (by simp)]
    exact ⟨_,_,g6,rfl⟩
end
end Go.Proofs.V

namespace Go.Proofs.V
open Go
def indexF (d:List Int):List S_Entry:=if d.length≤120000 then (match headS d with | none=>[] | some (T,a)=>(runS d T.length (d.length+1) a 0 0 [] []).2.2.2) else []
theorem core_MakeIndex (d:List Int) (hb:∀ x ∈ d,0≤x∧x≤255) (hd:d.length≤1048576):∃ w:List S_Entry,m_Sc d=some w∧m_Ic d=some w∧w.length≤1048576:=by
 refine ⟨indexF d,?_⟩
 have bad:∀ (T:List S_Track) (at_ e:Int),e≠0→m_Ij (S_zreader.mk d 0 0)=some (T,S_zreader.mk d at_ e)→m_Ic d=some []:=by
  intro T at_ e he h
  dsimp only [m_Ic,m_Ic_0,m_If,m_If_0]
  rw [h]
  simp only [Option.bind_some]
  rw [loop_end (e:=.inl (d,at_,e,[],[])) (by
   dsimp only [lp_If_13,m_If_13]
   rw [if_neg (show ¬ ((e == 0)=true) by simpa using he)])]
  rfl
 unfold indexF
 by_cases hl:d.length≤120000
 ·rw [if_pos hl]
  obtain ⟨a1,e1,T1,h1,g1⟩ :=spec_head hd hb 0 0 [] []
  obtain ⟨T2,a2,e2,h2,g2⟩ :=impl_head hd hb hl
  cases hq:headS d with
  | none=>
   rw [hq] at g1 g2
   refine ⟨?_,bad T2 a2 e2 g2 h2,by simp⟩
   dsimp only [m_Sc,m_Sc_0]
   rw [if_neg (by simp;omega),h1]
   simp only [Option.bind_some]
   rw [if_pos (by simpa using g1)]
  | some r=>
   obtain ⟨T,a⟩ :=r
   rw [hq] at g1 g2
   obtain ⟨rfl,rfl,rfl,ha⟩ :=g1
   obtain ⟨rfl,rfl,rfl,_⟩ :=g2
   obtain ⟨r3,h3,g3⟩ :=spec_pieces hd hb T2.length T2 rfl (d.length+1) a 0 0 [] [] (by omega) ha (by omega) (by omega) (by simp) (by simp)
   obtain ⟨r4,h4,g4⟩ :=impl_pieces hd hb T2.length (T2,S_zreader.mk d a 0) rfl (d.length+1) a 0 0 [] [] (by omega) ha (by omega) (by omega) (by simp) (by simp)
   revert g3 g4
   dsimp only
   generalize runS d T2.length (d.length+1) a 0 0 [] []=q
   obtain ⟨ok,b,P',ix'⟩ :=q
   dsimp only
   rintro ⟨s1,s2,s3,s4,s5,s6⟩ g4
   refine ⟨?_,?_,by omega⟩
   ·dsimp only [m_Sc,m_Sc_0]
    rw [if_neg (by simp;omega),h1]
    simp only [Option.bind_some]
    rw [if_neg (by simp)]
    dsimp only [m_Sl,m_Sl_0]
    rw [show (((0:Nat):Int))=0 from rfl] at h3
    rw [h3]
    simp only [Option.bind_some]
    rw [s2]
   ·dsimp only [m_Ic,m_Ic_0,m_If,m_If_0]
    rw [h2]
    simp only [Option.bind_some]
    rw [show (60000:Int) - 0=60000 from rfl,show (((0:Nat):Int))=0 from rfl] at h4
    rw [h4]
    simp only [Option.bind_some]
    split at g4
    ·subst g4;rfl
    ·obtain ⟨a5,e5,h5,rfl⟩ :=g4;rfl
 ·rw [if_neg hl]
  refine ⟨?_,?_,by simp⟩
  ·dsimp only [m_Sc,m_Sc_0]
   rw [if_pos (by simp;omega)]
  ·refine bad [] 0 1 (by decide) ?_
   dsimp only [m_Ij,m_Ij_0]
   rw [if_pos (by simp;omega)]
   rfl
end Go.Proofs.V

namespace Go.Proofs.V
open Go
theorem to_ByteS (x:(List Int)) (hx:x.length≤1048576):m_Lg x=some x:=by
 have hl:x.length≤1048576:=hx
 simp only [m_Lg,m_Lg_0,m_Lg_19]
 rw [ck_eq (by omega)]
 simp only [Option.bind_some]
 suffices key:∀ z,loopM (lp_Lg_9 x) (0,List.replicate (Int.toNat (x.length:Int)) z)=some x by
  rw [key]
  rfl
 intro z
 refine to_list (l:=x) (fun i out hi ho=>?_) (fun out=>?_) z
 ·simp only [lp_Lg_9,m_Lg_9]
  rw [if_pos (by simp <;> omega),rd_eq hi]
  simp only [Option.bind_some]
  rw [rd_eq (by omega)]
  simp only [Option.bind_some]
  rw [w64_succ (by omega)]
 ·simp only [lp_Lg_9,m_Lg_9]
  rw [if_neg (by simp)]
theorem eq_Entry (x:S_Entry):m_Lb x x=some true:=by
 simp only [m_Lb,m_Lb_0]
 rw [if_neg (by simp)]
 rw [if_neg (by simp)]
 rw [if_neg (by simp)]
theorem eq_EntryS (x:(List S_Entry)) (hx:x.length≤1048576):m_Lc x x=some true:=by
 have hl:x.length≤1048576:=hx
 simp only [m_Lc,m_Lc_0,m_Lc_31]
 rw [if_neg (by simp)]
 suffices key:loopM (lp_Lc_15 x x) 0=some (.inr ()) by
  rw [key]
  rfl
 refine eq_list (n:=x.length) (fun i hi=>?_) ?_
 ·simp only [lp_Lc_15,m_Lc_15]
  rw [if_pos (by simp <;> omega),rd_eq hi]
  simp only [Option.bind_some]
  rw [eq_Entry x[i]]
  simp only [Option.bind_some,if_true]
  rw [w64_succ (by omega)]
 ·simp only [lp_Lc_15,m_Lc_15]
  rw [if_neg (by simp)]
theorem eq_ByteS (x:(List Int)) (hx:x.length≤1048576):m_La x x=some true:=by
 have hl:x.length≤1048576:=hx
 simp only [m_La,m_La_0,m_La_31]
 rw [if_neg (by simp)]
 suffices key:loopM (lp_La_15 x x) 0=some (.inr ()) by
  rw [key]
  rfl
 refine eq_list (n:=x.length) (fun i hi=>?_) ?_
 ·simp only [lp_La_15,m_La_15]
  rw [if_pos (by simp <;> omega),rd_eq hi]
  simp only [Option.bind_some]
  rw [if_neg (by simp),w64_succ (by omega)]
 ·simp only [lp_La_15,m_La_15]
  rw [if_neg (by simp)]
theorem mark_ByteS (x:(List Int)) (k:Nat) (hx:x.length≤1048576) (hk:k+1048576≤4611686018427387904):∃ (x' : (List Int)) (k' : Nat),m_Le x k=some ((k' : Int),x')∧x'.length=x.length∧k≤k'∧k'≤k+1048576:=by
 have hl:x.length≤1048576:=hx
 have hlc:x.length*1≤1048576:=by omega
 have key:=mark_list0 (Sm:=fun y=>True) 1 (b:=lp_Le_7) (fun l i k hi hl hk hs=>?_) (fun l k=>?_) x k hl (by omega) (fun _ _=>trivial)
 ·obtain ⟨l1,k1,e1,e2,e3,e4⟩ :=key
  refine ⟨l1,k1,?_,e2,e3,by omega⟩
  ·simp only [m_Le,m_Le_0]
   rw [e1]
   rfl
 ·refine ⟨(wr .u8 (k:Int)),k+1,?_,by omega,by omega⟩
  ·simp only [lp_Le_7,m_Le_7]
   rw [if_pos (by simp <;> omega),rd_eq hi]
   simp only [Option.bind_some]
   rw [w64_succ (by omega),w64_succ (by omega)]
   simp
 ·simp only [lp_Le_7,m_Le_7]
  rw [if_neg (by simp)]
theorem mark_EntryS (x:(List S_Entry)) (k:Nat) (hx:x.length≤1048576) (hk:k+3145728≤4611686018427387904):∃ (x' : (List S_Entry)) (k' : Nat),m_Lf x k=some ((k' : Int),x')∧x'.length=x.length∧k≤k'∧k'≤k+3145728∧m_Ld x' k=some (k' : Int):=by
 have hl:x.length≤1048576:=hx
 have hlc:x.length*3≤3145728:=by omega
 have key:=mark_list (Sm:=fun y=>True) 3 (b:=lp_Lf_7) (bh:=lp_Ld_7) (fun l i k hi hl hk hs=>?_) (fun l k=>?_) (fun l k=>?_) x k hl (by omega) (fun _ _=>trivial)
 ·obtain ⟨l1,k1,e1,e2,e3,e4,e5⟩ :=key
  refine ⟨l1,k1,?_,e2,e3,by omega,?_⟩
  ·simp only [m_Lf,m_Lf_0]
   rw [e1]
   rfl
  ·simp only [m_Ld,m_Ld_0]
   rw [e5]
   rfl
 ·skip
  refine ⟨⟨(k:Int),((k+1:Nat):Int),((k+1+1:Nat):Int)⟩,k+1+1+1,?_,by omega,by omega,fun l' h' hl' hx'=>?_⟩
  ·simp only [lp_Lf_7,m_Lf_7]
   rw [if_pos (by simp <;> omega),rd_eq hi]
   simp only [Option.bind_some]
   simp (disch:=omega) only [w64_succ]
   simp
  ·simp only [lp_Ld_7,m_Ld_7]
   rw [if_pos (by simp <;> omega),rd_eq h',hx']
   simp only [Option.bind_some]
   simp (disch:=omega) only [w64_succ]
   rw [if_neg (by simp)]
   rw [if_neg (by simp)]
   rw [if_neg (by simp)]
 ·simp only [lp_Lf_7,m_Lf_7]
  rw [if_neg (by simp)]
 ·simp only [lp_Ld_7,m_Ld_7]
  rw [if_neg (by simp)]
theorem plain_FnExactMakeIndex (p0:(List Int)) (hp0:(p0.length≤maxLen∧∀ y0 ∈ p0,inK .u8 y0)) (core:(p0.length≤1048576)→∃ w:(List S_Entry),m_Sc p0=some w∧m_Ic p0=some w∧w.length≤1048576):m_laws_FnExactMakeIndex p0=some true:=by
 simp only [m_laws_FnExactMakeIndex,m_laws_FnExactMakeIndex_0,decide_eq_true_eq]
 by_cases hl:(p0.length:Int) > 1048576
 ·rw [if_pos hl]
 rw [if_neg hl]
 have sm_p0:p0.length≤1048576:=by omega
 rw [to_ByteS p0 sm_p0]
 simp only [Option.bind_some]
 obtain ⟨w,hsp,him,sm0⟩ :=core sm_p0
 rw [hsp]
 simp only [Option.bind_some]
 rw [him]
 simp only [Option.bind_some]
 rw [eq_EntryS w sm0]
 simp only [Option.bind_some,if_true]
 rw [eq_ByteS p0 sm_p0]
 simp only [Option.bind_some,if_true]
 obtain ⟨y1,k1,a1,b1,c1x,d1⟩ :=mark_ByteS p0 1 sm_p0 (by omega)
 replace a1:m_Le p0 1=_:=a1
 rw [a1]
 simp only [Option.bind_some]
 rw [ck_eq (by first | assumption | rfl)]
 simp only [Option.bind_some]
 rw [if_neg (by simp <;> omega)]
 obtain ⟨y2,k2,a2,b2,c2x,d2,f2⟩ :=mark_EntryS w 1 sm0 (by omega)
 replace a2:m_Lf w 1=_:=a2
 rw [a2]
 simp only [Option.bind_some]
 replace f2:m_Ld _ 1=_:=f2
 rw [ck_eq (by first | assumption | rfl)]
 simp only [Option.bind_some]
 rw [f2]
 simp only [Option.bind_some]
 rw [if_neg (by simp <;> omega)]
 rw [if_neg (by simp)]
end Go.Proofs.V

namespace Go.Proofs.V
open Go
theorem final_FnExactMakeIndex (x0:List Int) (w0:(x0.length≤maxLen∧∀ y0 ∈ x0,inK .u8 y0)):m_laws_FnExactMakeIndex x0=some true:=
 plain_FnExactMakeIndex x0 w0 fun h=>core_MakeIndex x0 (fun x hx=>(w0.2 x hx)) h
end Go.Proofs.V
