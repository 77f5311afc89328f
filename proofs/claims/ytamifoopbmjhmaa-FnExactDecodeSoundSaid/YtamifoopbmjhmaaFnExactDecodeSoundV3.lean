import Derived.Test.YtamifoopbmjhmaaFnExactDecodeSoundV2
set_option linter.unusedVariables false
set_option maxRecDepth 100000
namespace Go.Proofs.V
open Go
abbrev LI:=List Int
structure Za where
 rate:Int
 bits:Int
 frame:Int
 channels:(List LI)
 deriving DecidableEq,Inhabited
structure Zb where
 err:Int
 sound:Za
 deriving DecidableEq,Inhabited
structure Zc where
 data:LI
 at_:Int
 err:Int
 deriving DecidableEq,Inhabited
structure Zd where
 ok:Bool
 value:Int
 next:Int
 deriving DecidableEq,Inhabited
structure Ze where
 b:LI
 at_:Int
 short:Bool
 deriving DecidableEq,Inhabited
noncomputable section
def m_Lo_19 (a:LI):Option (LI):=
 some a
def m_Lo_9 (p0:LI) (a:Int) (b:LI):Option ((Int×LI)⊕((LI))):=
 if (decide (a < (p0.length:Int))) then
  (rd p0 a).bind fun c=>
  (rd b a).bind fun _=>
  some (.inl ((w64 (a+1)),(b.set (0+Int.toNat a) c)))
 else
  some (.inr b)
def lp_Lo_9 (p0:LI) (s:Int×LI):Option ((Int×LI)⊕((LI))):=m_Lo_9 p0 s.1 s.2
def m_Lo_0 (p0:LI):Option (LI):=
 (ck (decide ((0:Int)≤(p0.length:Int)∧(p0.length:Int)≤(140737488355328:Int)))).bind fun _=>
 (loopM (lp_Lo_9 p0) (0,(List.replicate (Int.toNat (p0.length:Int)) (0:Int)))).bind fun e=>m_Lo_19 e
def m_Lo (p0:LI):Option (LI):=m_Lo_0 p0
def m_Ss_0 (p0:LI) (p1:Int) (p2:Bool):Option (Int):=
 if p2 then
  (rd p0 (w64 (Int.tdiv p1 8))).bind fun a=>
  (ck (decide ((0:Int)≤(wr .u64 (w64 (7 - (Int.tmod p1 8))))))).bind fun _=>
  some (andI .u64 (wr .u64 (shrI .u8 a (wr .u64 (w64 (7 - (Int.tmod p1 8)))))) 1)
 else
  (rd p0 (w64 (Int.tdiv p1 8))).bind fun a=>
  (ck (decide ((0:Int)≤(wr .u64 (Int.tmod p1 8))))).bind fun _=>
  some (andI .u64 (wr .u64 (shrI .u8 a (wr .u64 (Int.tmod p1 8)))) 1)
def m_Ss (p0:LI) (p1:Int) (p2:Bool):Option (Int):=m_Ss_0 p0 p1 p2
def m_St_33 (p1 p2 a:Int):Option (Zd):=
 some (Zd.mk true a (w64 (p1+p2)))
def m_St_17 (p0:LI) (p1 p2:Int) (p3:Bool) (b a:Int):Option ((Int×Int)⊕((Int))):=
 if (decide (a < p2)) then
  (m_Ss p0 (w64 (p1+a)) p3).bind fun c=>
  if p3 then
   some (.inl ((wr .u64 ((wr .u64 (b*2))+c)),(w64 (a+1))))
  else
   (ck (decide ((0:Int)≤(wr .u64 a)))).bind fun _=>
   some (.inl ((orI .u64 b (shlI .u64 c (wr .u64 a))),(w64 (a+1))))
 else
  some (.inr b)
def lp_St_17 (p0:LI) (p1 p2:Int) (p3:Bool) (s:Int×Int):Option ((Int×Int)⊕((Int))):=m_St_17 p0 p1 p2 p3 s.1 s.2
def m_St_5 (p0:LI) (p1 p2:Int) (p3 a:Bool):Option (Zd):=
 if a then
  some (Zd.mk false 0 0)
 else
  (loopM (lp_St_17 p0 p1 p2 p3) (0,0)).bind fun e=>m_St_33 p1 p2 e
def m_St_0 (p0:LI) (p1 p2:Int) (p3:Bool):Option (Zd):=
 if (decide (p2 < 0)) then
  m_St_5 p0 p1 p2 p3 true
 else
  if (decide (p2 > 64)) then
   m_St_5 p0 p1 p2 p3 true
  else
   if (decide (p1 < 0)) then
    m_St_5 p0 p1 p2 p3 true
   else
    if (decide (p1 > (w64 (8*(p0.length:Int))))) then
     m_St_5 p0 p1 p2 p3 true
    else
     m_St_5 p0 p1 p2 p3 (decide (p2 > (w64 ((w64 (8*(p0.length:Int))) - p1))))
def m_St (p0:LI) (p1 p2:Int) (p3:Bool):Option (Zd):=m_St_0 p0 p1 p2 p3
def m_Sj_0 (p1:Int) (p0:Zc):Option (Zc):=
 if (p0.err == 0) then
  some (Zc.mk p0.data p0.at_ p1)
 else
  some p0
def m_Sj (p0:Zc) (p1:Int):Option (Zc):=m_Sj_0 p1 p0
def m_Sq_10 (b:Zd) (c:LI) (d a:Int):Option (Int×Zc):=
 if (a != 0) then
  some (0,(Zc.mk c d a))
 else
  some ((w64 b.value),(Zc.mk c b.next a))
def m_Sq_0 (p1:Int) (p0:Zc):Option (Int×Zc):=
 (m_St p0.data p0.at_ p1 true).bind fun a=>
 if a.ok then
  m_Sq_10 a p0.data p0.at_ p0.err
 else
  (m_Sj p0 2).bind fun b=>
  m_Sq_10 a b.data b.at_ b.err
def m_Sq (p0:Zc) (p1:Int):Option (Int×Zc):=m_Sq_0 p1 p0
def m_Sn_18 (p1:LI) (c:Int) (a:Int×Zc) (d:Bool):Option ((Int×LI×Int×Int)⊕(Zc)):=
 if d then
  (m_Sj a.2 4).bind fun b=>
  some (.inl ((w64 (c+1)),b.data,b.at_,b.err))
 else
  some (.inl ((w64 (c+1)),a.2.data,a.2.at_,a.2.err))
def m_Sn_4 (p1:LI) (a:Int) (c:LI) (d e:Int):Option ((Int×LI×Int×Int)⊕(Zc)):=
 if (decide (a < (p1.length:Int))) then
  (rd p1 a).bind fun f=>
  (m_Sq (Zc.mk c d e) 8).bind fun b=>
  if (b.2.err == 0) then
   m_Sn_18 p1 a b (b.1 != (w64 f))
  else
   m_Sn_18 p1 a b false
 else
  some (.inr (Zc.mk c d e))
def lp_Sn_4 (p1:LI) (s:Int×LI×Int×Int):Option ((Int×LI×Int×Int)⊕(Zc)):=m_Sn_4 p1 s.1 s.2.1 s.2.2.1 s.2.2.2
def m_Sn_0 (p1:LI) (p0:Zc):Option (Zc):=
 (loopM (lp_Sn_4 p1) (0,p0.data,p0.at_,p0.err)).bind fun e=>some e
def m_Sn (p0:Zc) (p1:LI):Option (Zc):=m_Sn_0 p1 p0
def m_Sf_0 (p0:Za) (p1 p2:Int):Option (Bool):=
 if (decide (p0.rate < 1)) then
  some false
 else
  if (decide (p0.rate > 1000000)) then
   some false
  else
   if (decide (p0.bits < 2)) then
    some false
   else
    if (decide (p0.bits > 24)) then
     some false
    else
     if (decide (p0.frame < 1)) then
      some false
     else
      if (decide (p0.frame > 512)) then
       some false
      else
       if (decide (p1≥1)) then
        if (decide (p1≤2)) then
         some (decide (p2≤4000))
        else
         some false
       else
        some false
def m_Sf (p0:Za) (p1 p2:Int):Option (Bool):=m_Sf_0 p0 p1 p2
def m_Sp_0 (p1:Int) (p0:Zc):Option (Int×Zc):=
 (m_Sq p0 p1).bind fun a=>
 (ck (decide ((0:Int)≤(wr .u64 (w64 (p1 - 1)))))).bind fun _=>
 if (decide (a.1≥(shlI .i64 1 (wr .u64 (w64 (p1 - 1)))))) then
  (ck (decide ((0:Int)≤(wr .u64 p1)))).bind fun _=>
  some ((w64 (a.1 - (shlI .i64 1 (wr .u64 p1)))),a.2)
 else
  some (a.1,a.2)
def m_Sp (p0:Zc) (p1:Int):Option (Int×Zc):=m_Sp_0 p1 p0
def m_Si_0 (p0 p1 p2:Int):Option (Bool):=
 if (decide (p0 < 0)) then
  some false
 else
  if (decide (p0 > 4)) then
   some false
  else
   if (decide (p0 > p2)) then
    some false
   else
    if (decide (p1 < 0)) then
     some false
    else
     if (decide (p1 > 4)) then
      some false
     else
      (ck (decide ((0:Int)≤(wr .u64 p1)))).bind fun _=>
      (ck (decide (((shlI .i64 1 (wr .u64 p1)):Int)≠0))).bind fun _=>
      if ((Int.tmod p2 (shlI .i64 1 (wr .u64 p1))) == 0) then
       some (decide ((shrI .i64 p2 (wr .u64 p1))≥p0))
      else
       some false
def m_Si (p0 p1 p2:Int):Option (Bool):=m_Si_0 p0 p1 p2
def m_Sd_0 (p0:Int):Option (Int):=
 if ((Int.tmod p0 2) == 1) then
  some (w64 ((w64 (0 - (w64 (wr .u64 (Int.tdiv p0 2))))) - 1))
 else
  some (w64 (wr .u64 (Int.tdiv p0 2)))
def m_Sd (p0:Int):Option (Int):=m_Sd_0 p0
def m_So_23 (p1 b:Int) (c:LI) (d e:Int):Option (Int×Zc):=
 (ck (decide ((0:Int)≤(wr .u64 p1)))).bind fun _=>
 (m_Sq (Zc.mk c d e) p1).bind fun a=>
 (m_Sd (orI .u64 (shlI .u64 (wr .u64 b) (wr .u64 p1)) (wr .u64 a.1))).bind fun f=>
 some (f,a.2)
def m_So_15 (p1 b:Int) (d:LI) (e c:Int):Option ((Int×LI×Int×Int)⊕((Int×LI×Int×Int))):=
 if (c == 0) then
  (m_Sq (Zc.mk d e c) 1).bind fun a=>
  if (a.1 == 0) then
   some (.inl ((w64 (b+1)),a.2.data,a.2.at_,a.2.err))
  else
   some (.inr (b,a.2.data,a.2.at_,a.2.err))
 else
  some (.inr (b,d,e,c))
def lp_So_15 (p1:Int) (s:Int×LI×Int×Int):Option ((Int×LI×Int×Int)⊕((Int×LI×Int×Int))):=m_So_15 p1 s.1 s.2.1 s.2.2.1 s.2.2.2
def m_So_0 (p1:Int) (p0:Zc):Option (Int×Zc):=
 if (p1 == 25) then
  (m_Sp p0 32).bind fun a=>
  some (a.1,a.2)
 else
  (loopM (lp_So_15 p1) (0,p0.data,p0.at_,p0.err)).bind fun e=>m_So_23 p1 e.1 e.2.1 e.2.2.1 e.2.2.2
def m_So (p0:Zc) (p1:Int):Option (Int×Zc):=m_So_0 p1 p0
def m_Sm_78 (p1:Int) (f:Int×Zc) (g:Int×Zc) (a:Int) (b:LI) (c d:Int) (e:LI):Option ((Int×LI×Int×Int×LI)⊕((LI×Int×Int×LI))):=
 some (.inl ((w64 (a+1)),b,c,d,e))
def m_Sm_68 (p1:Int) (i:Int×Zc) (j:Int×Zc) (k:Int) (g:Int×Zc) (h f:Int) (d:LI) (e b:Int) (c:LI):Option ((Int×LI×Int×Int×LI)⊕((LI×Int×Int×LI))):=
 if (decide (f < h)) then
  if (b == 0) then
   (m_So (Zc.mk d e b) g.1).bind fun a=>
   (ck (decide (c.length+([a.1]:LI).length≤17592186044416))).bind fun _=>
   some (.inl ((w64 (f+1)),a.2.data,a.2.at_,a.2.err,(c++([a.1]:LI))))
  else
   some (.inr (d,e,b,c))
 else
  some (.inr (d,e,b,c))
def lp_Sm_68 (p1:Int) (a:Int×Zc) (b:Int×Zc) (c:Int) (d:Int×Zc) (e:Int) (s:Int×LI×Int×Int×LI):Option ((Int×LI×Int×Int×LI)⊕((LI×Int×Int×LI))):=m_Sm_68 p1 a b c d e s.1 s.2.1 s.2.2.1 s.2.2.2.1 s.2.2.2.2
def m_Sm_64 (p1:Int) (a:Int×Zc) (b:Int×Zc) (c:Int) (d:Int×Zc) (f:LI) (g h:Int) (i:LI) (j:Int):Option ((Int×LI×Int×Int×LI)⊕((LI×Int×Int×LI))):=
 (loopM (lp_Sm_68 p1 a b c d j) (0,f,g,h,i)).bind fun e=>m_Sm_78 p1 a b c e.1 e.2.1 e.2.2.1 e.2.2.2
def m_Sm_56 (p1:Int) (b:Int×Zc) (a:Int×Zc) (c:Int) (d:Int×Zc) (e f:LI) (g h:Int):Option ((Int×LI×Int×Int×LI)⊕((LI×Int×Int×LI))):=
 (ck (decide ((0:Int)≤(wr .u64 a.1)))).bind fun _=>
 if (c == 0) then
  m_Sm_64 p1 b a c d f g h e (w64 ((shrI .i64 p1 (wr .u64 a.1)) - b.1))
 else
  m_Sm_64 p1 b a c d f g h e (shrI .i64 p1 (wr .u64 a.1))
def m_Sm_53 (p1:Int) (c:Int×Zc) (d:Int×Zc) (e:Int) (a:Int×Zc) (f:LI) (g:Bool):Option ((Int×LI×Int×Int×LI)⊕((LI×Int×Int×LI))):=
 if g then
  (m_Sj a.2 5).bind fun b=>
  m_Sm_56 p1 c d e a f b.data b.at_ b.err
 else
  m_Sm_56 p1 c d e a f a.2.data a.2.at_ a.2.err
def m_Sm_79 (a:Int×Zc) (b:LI) (c d:Int) (e:LI):Option (Int×LI×Zc):=
 some (a.1,e,(Zc.mk b c d))
def m_Sm_40 (p1:Int) (h:Int×Zc) (a:Int×Zc) (e:Int) (f:LI) (g b:Int) (c:LI):Option ((Int×LI×Int×Int×LI)⊕((LI×Int×Int×LI))):=
 (ck (decide ((0:Int)≤(wr .u64 a.1)))).bind fun _=>
 if (decide (e < (shlI .i64 1 (wr .u64 a.1)))) then
  if (b == 0) then
   (m_Sq (Zc.mk f g b) 5).bind fun d=>
   if (d.2.err == 0) then
    m_Sm_53 p1 h a e d c (decide (d.1 > 25))
   else
    m_Sm_53 p1 h a e d c false
  else
   some (.inr (f,g,b,c))
 else
  some (.inr (f,g,b,c))
def lp_Sm_40 (p1:Int) (a:Int×Zc) (b:Int×Zc) (s:Int×LI×Int×Int×LI):Option ((Int×LI×Int×Int×LI)⊕((LI×Int×Int×LI))):=m_Sm_40 p1 a b s.1 s.2.1 s.2.2.1 s.2.2.2.1 s.2.2.2.2
def m_Sm_35 (p1:Int) (a:Int×Zc) (b:Int×Zc) (c d:LI) (f g:Int):Option (Int×LI×Zc):=
 (loopM (lp_Sm_40 p1 a b) (0,d,f,g,c)).bind fun e=>m_Sm_79 a e.1 e.2.1 e.2.2.1 e.2.2.2
def m_Sm_32 (p1:Int) (c:Int×Zc) (a:Int×Zc) (d:LI) (e:Bool):Option (Int×LI×Zc):=
 if e then
  (m_Sj a.2 5).bind fun b=>
  m_Sm_35 p1 c a d b.data b.at_ b.err
 else
  m_Sm_35 p1 c a d a.2.data a.2.at_ a.2.err
def m_Sm_27 (p1:Int) (b:Int×Zc) (d:LI) (e f:Int) (c:LI):Option (Int×LI×Zc):=
 (m_Sq (Zc.mk d e f) 3).bind fun a=>
 if (a.2.err == 0) then
  (m_Si b.1 a.1 p1).bind fun g=>
  m_Sm_32 p1 b a c (!g)
 else
  m_Sm_32 p1 b a c false
def m_Sm_17 (p1:Int) (g:Int×Zc) (f:Int) (d:LI) (e b:Int) (c:LI):Option ((Int×LI×Int×Int×LI)⊕((LI×Int×Int×LI))):=
 if (decide (f < g.1)) then
  if (b == 0) then
   (m_Sp (Zc.mk d e b) 26).bind fun a=>
   (ck (decide (c.length+([a.1]:LI).length≤17592186044416))).bind fun _=>
   some (.inl ((w64 (f+1)),a.2.data,a.2.at_,a.2.err,(c++([a.1]:LI))))
  else
   some (.inr (d,e,b,c))
 else
  some (.inr (d,e,b,c))
def lp_Sm_17 (p1:Int) (a:Int×Zc) (s:Int×LI×Int×Int×LI):Option ((Int×LI×Int×Int×LI)⊕((LI×Int×Int×LI))):=m_Sm_17 p1 a s.1 s.2.1 s.2.2.1 s.2.2.2.1 s.2.2.2.2
def m_Sm_10 (p1:Int) (a:Int×Zc) (b:LI) (c d:Int):Option (Int×LI×Zc):=
 (loopM (lp_Sm_17 p1 a) (0,b,c,d,([]:LI))).bind fun e=>m_Sm_27 p1 a e.1 e.2.1 e.2.2.1 e.2.2.2
def m_Sm_7 (p1:Int) (a:Int×Zc) (c:Bool):Option (Int×LI×Zc):=
 if c then
  (m_Sj a.2 5).bind fun b=>
  m_Sm_10 p1 a b.data b.at_ b.err
 else
  m_Sm_10 p1 a a.2.data a.2.at_ a.2.err
def m_Sm_0 (p1:Int) (p0:Zc):Option (Int×LI×Zc):=
 (m_Sq p0 3).bind fun a=>
 if (a.2.err == 0) then
  if (decide (a.1 > 4)) then
   m_Sm_7 p1 a true
  else
   m_Sm_7 p1 a (decide (a.1 > p1))
 else
  m_Sm_7 p1 a false
def m_Sm (p0:Zc) (p1:Int):Option (Int×LI×Zc):=m_Sm_0 p1 p0
def m_Sk_2 (d:LI) (b c:Int):Option ((LI×Int×Int)⊕(Zc)):=
 if ((Int.tmod b 8) != 0) then
  if (c == 0) then
   (m_Sq (Zc.mk d b c) 1).bind fun a=>
   if (a.1 == 1) then
    (m_Sj a.2 4).bind fun e=>
    some (.inl (e.data,e.at_,e.err))
   else
    some (.inl (a.2.data,a.2.at_,a.2.err))
  else
   some (.inr (Zc.mk d b c))
 else
  some (.inr (Zc.mk d b c))
def lp_Sk_2 (s:LI×Int×Int):Option ((LI×Int×Int)⊕(Zc)):=m_Sk_2 s.1 s.2.1 s.2.2
def m_Sk_0 (p0:Zc):Option (Zc):=
 (loopM (lp_Sk_2) (p0.data,p0.at_,p0.err)).bind fun e=>some e
def m_Sk (p0:Zc):Option (Zc):=m_Sk_0 p0
def m_Sa_43 (p0:LI) (a b:Int):Option ((Int×Int)⊕((Int))):=
 some (.inl (b,(w64 (a+1))))
def m_Sa_25 (p0:LI) (c a b:Int):Option ((Int×Int)⊕((Int))):=
 if (decide (b < 8)) then
  if ((andI .u32 a 1) == 1) then
   some (.inl ((xorI .u32 (shrI .u32 a 1) 3988292384),(w64 (b+1))))
  else
   some (.inl ((shrI .u32 a 1),(w64 (b+1))))
 else
  some (.inr a)
def lp_Sa_25 (p0:LI) (a:Int) (s:Int×Int):Option ((Int×Int)⊕((Int))):=m_Sa_25 p0 a s.1 s.2
def m_Sa_44 (a:Int):Option (Int):=
 some (notI .u32 a)
def m_Sa_9 (p0:LI) (b a:Int):Option ((Int×Int)⊕((Int))):=
 if (decide (a < (p0.length:Int))) then
  (rd p0 a).bind fun c=>
  (loopM (lp_Sa_25 p0 a) ((xorI .u32 b (wr .u32 c)),0)).bind fun e=>m_Sa_43 p0 a e
 else
  some (.inr b)
def lp_Sa_9 (p0:LI) (s:Int×Int):Option ((Int×Int)⊕((Int))):=m_Sa_9 p0 s.1 s.2
def m_Sa_0 (p0:LI):Option (Int):=
 (loopM (lp_Sa_9 p0) (4294967295,0)).bind fun e=>m_Sa_44 e
def m_Sa (p0:LI):Option (Int):=m_Sa_0 p0
def m_Se_0 (p0:Int) (p1:LI) (p2:Int):Option (Int):=
 if (p0 == 1) then
  (rd p1 (w64 (p2 - 1))).bind fun d=>
  some d
 else
  if (p0 == 2) then
   (rd p1 (w64 (p2 - 1))).bind fun e=>
   (rd p1 (w64 (p2 - 2))).bind fun a=>
   some (w64 ((w64 (2*e)) - a))
  else
   if (p0 == 3) then
    (rd p1 (w64 (p2 - 1))).bind fun a=>
    (rd p1 (w64 (p2 - 2))).bind fun b=>
    (rd p1 (w64 (p2 - 3))).bind fun c=>
    some (w64 ((w64 ((w64 (3*a)) - (w64 (3*b))))+c))
   else
    if (p0 == 4) then
     (rd p1 (w64 (p2 - 1))).bind fun b=>
     (rd p1 (w64 (p2 - 2))).bind fun c=>
     (rd p1 (w64 (p2 - 3))).bind fun f=>
     (rd p1 (w64 (p2 - 4))).bind fun g=>
     some (w64 ((w64 ((w64 ((w64 (4*b)) - (w64 (6*c))))+(w64 (4*f)))) - g))
    else
     some 0
def m_Se (p0:Int) (p1:LI) (p2:Int):Option (Int):=m_Se_0 p0 p1 p2
def m_Sc_58 (p0:Int) (p1:LI) (a:Int) (b:LI):Option ((Int×LI)⊕(((LI))⊕((LI)))):=
 (rd b a).bind fun c=>
 if (decide (c < (-67108864))) then
  some (.inr (.inr ([]:LI)))
 else
  if (decide (c > 67108863)) then
   some (.inr (.inr ([]:LI)))
  else
   some (.inl ((w64 (a+1)),b))
def m_Sc_66 (a:LI):Option (LI):=
 some a
def m_Sc_40 (p0:Int) (p1:LI) (a:Int) (b:LI):Option ((Int×LI)⊕(((LI))⊕((LI)))):=
 if (decide (a < (p1.length:Int))) then
  (rd p1 a).bind fun c=>
  (rd b a).bind fun _=>
  if (decide (a≥p0)) then
   (m_Se p0 (b.set (0+Int.toNat a) c) a).bind fun d=>
   m_Sc_58 p0 p1 a (b.set (0+Int.toNat a) (w64 (c+d)))
  else
   m_Sc_58 p0 p1 a (b.set (0+Int.toNat a) c)
 else
  some (.inr (.inl b))
def lp_Sc_40 (p0:Int) (p1:LI) (s:Int×LI):Option ((Int×LI)⊕(((LI))⊕((LI)))):=m_Sc_40 p0 p1 s.1 s.2
def m_Sc_33 (p0:Int) (p1:LI):Option (LI):=
 (ck (decide ((0:Int)≤(p1.length:Int)∧(p1.length:Int)≤(17592186044416:Int)))).bind fun _=>
 (loopM (lp_Sc_40 p0 p1) (0,(List.replicate (Int.toNat (p1.length:Int)) (0:Int)))).bind fun e=>match e with | .inl e=>m_Sc_66 e | .inr e=>some e
def m_Sc_15 (p0:Int) (p1:LI) (a:Int):Option ((Int)⊕(((LI))⊕((Unit)))):=
 if (decide (a < (p1.length:Int))) then
  (rd p1 a).bind fun b=>
  if (decide (b < (-2147483648))) then
   some (.inr (.inl ([]:LI)))
  else
   if (decide (b > 2147483647)) then
    some (.inr (.inl ([]:LI)))
   else
    some (.inl (w64 (a+1)))
 else
  some (.inr (.inr ()))
def lp_Sc_15 (p0:Int) (p1:LI) (s:Int):Option ((Int)⊕(((LI))⊕((Unit)))):=m_Sc_15 p0 p1 s
def m_Sc_0 (p0:Int) (p1:LI):Option (LI):=
 if (decide (p0 < 0)) then
  some ([]:LI)
 else
  if (decide (p0 > 4)) then
   some ([]:LI)
  else
   if (decide ((p1.length:Int) > 4000)) then
    some ([]:LI)
   else
    (loopM (lp_Sc_15 p0 p1) 0).bind fun e=>match e with | .inl e=>some e | .inr e=>m_Sc_33 p0 p1
def m_Sc (p0:Int) (p1:LI):Option (LI):=m_Sc_0 p0 p1
def m_Sh_25 (p0:LI):Option (Bool):=
 some (decide ((p0.length:Int)≤4000))
def m_Sh_7 (p0:LI) (a:Int):Option ((Int)⊕((Bool)⊕((Unit)))):=
 if (decide (a < (p0.length:Int))) then
  (rd p0 a).bind fun b=>
  if (decide (b < (-67108864))) then
   some (.inr (.inl false))
  else
   if (decide (b > 67108863)) then
    some (.inr (.inl false))
   else
    some (.inl (w64 (a+1)))
 else
  some (.inr (.inr ()))
def lp_Sh_7 (p0:LI) (s:Int):Option ((Int)⊕((Bool)⊕((Unit)))):=m_Sh_7 p0 s
def m_Sh_0 (p0:LI):Option (Bool):=
 (loopM (lp_Sh_7 p0) 0).bind fun e=>match e with | .inl e=>some e | .inr e=>m_Sh_25 p0
def m_Sh (p0:LI):Option (Bool):=m_Sh_0 p0
def m_Sr_39 (p0:Int) (p1 p2:LI) (a:Int) (c d:LI):Option ((Int×LI×LI)⊕(((LI×LI))⊕((LI×LI)))):=
 if (p0 == 2) then
  (rd p1 a).bind fun e=>
  (rd p2 a).bind fun b=>
  (rd c a).bind fun _=>
  (rd d a).bind fun _=>
  some (.inl ((w64 (a+1)),(c.set (0+Int.toNat a) (w64 (Int.tdiv (w64 ((w64 ((w64 (2*e))+(andI .i64 b 1)))+b)) 2))),(d.set (0+Int.toNat a) (w64 ((w64 (Int.tdiv (w64 ((w64 ((w64 (2*e))+(andI .i64 b 1)))+b)) 2)) - b)))))
 else
  some (.inl ((w64 (a+1)),c,d))
def m_Sr_24 (p0:Int) (p1 p2:LI) (a:Int) (b c:LI) (f:Bool):Option ((Int×LI×LI)⊕(((LI×LI))⊕((LI×LI)))):=
 if f then
  some (.inr (.inr (([]:LI),([]:LI))))
 else
  (rd p1 a).bind fun d=>
  (rd b a).bind fun _=>
  (rd p2 a).bind fun e=>
  (rd c a).bind fun _=>
  if (p0 == 1) then
   m_Sr_39 p0 p1 p2 a (b.set (0+Int.toNat a) d) (c.set (0+Int.toNat a) (w64 (d - e)))
  else
   m_Sr_39 p0 p1 p2 a (b.set (0+Int.toNat a) d) (c.set (0+Int.toNat a) e)
def m_Sr_50 (a b:LI) (c:Bool):Option (LI×LI):=
 if c then
  some (([]:LI),([]:LI))
 else
  some (a,b)
def m_Sr_47 (a b:LI):Option (LI×LI):=
 (m_Sh a).bind fun c=>
 if c then
  (m_Sh b).bind fun d=>
  m_Sr_50 a b (!d)
 else
  m_Sr_50 a b true
def m_Sr_11 (p0:Int) (p1 p2:LI) (a:Int) (b c:LI):Option ((Int×LI×LI)⊕(((LI×LI))⊕((LI×LI)))):=
 if (decide (a < (p1.length:Int))) then
  (rd p1 a).bind fun d=>
  if (decide (d < (-268435456))) then
   m_Sr_24 p0 p1 p2 a b c true
  else
   if (decide (d > 268435455)) then
    m_Sr_24 p0 p1 p2 a b c true
   else
    (rd p2 a).bind fun e=>
    if (decide (e < (-268435456))) then
     m_Sr_24 p0 p1 p2 a b c true
    else
     m_Sr_24 p0 p1 p2 a b c (decide (e > 268435455))
 else
  some (.inr (.inl (b,c)))
def lp_Sr_11 (p0:Int) (p1 p2:LI) (s:Int×LI×LI):Option ((Int×LI×LI)⊕(((LI×LI))⊕((LI×LI)))):=m_Sr_11 p0 p1 p2 s.1 s.2.1 s.2.2
def m_Sr_0 (p0:Int) (p1 p2:LI):Option (LI×LI):=
 (ck (decide ((0:Int)≤(p1.length:Int)∧(p1.length:Int)≤(17592186044416:Int)))).bind fun _=>
 (loopM (lp_Sr_11 p0 p1 p2) (0,(List.replicate (Int.toNat (p1.length:Int)) (0:Int)),(List.replicate (Int.toNat (p1.length:Int)) (0:Int)))).bind fun e=>match e with | .inl e=>m_Sr_47 e.1 e.2 | .inr e=>some e
def m_Sr (p0:Int) (p1 p2:LI):Option (LI×LI):=m_Sr_0 p0 p1 p2
def m_Sg_27:Option (Bool):=
 some true
def m_Sg_9 (p1:LI) (a b:Int):Option ((Int×Int)⊕((Bool)⊕((Unit)))):=
 if (decide (b < (p1.length:Int))) then
  (rd p1 b).bind fun c=>
  if (decide (c < (w64 (0 - a)))) then
   some (.inr (.inl false))
  else
   if (decide (c≥a)) then
    some (.inr (.inl false))
   else
    some (.inl (a,(w64 (b+1))))
 else
  some (.inr (.inr ()))
def lp_Sg_9 (p1:LI) (s:Int×Int):Option ((Int×Int)⊕((Bool)⊕((Unit)))):=m_Sg_9 p1 s.1 s.2
def m_Sg_0 (p0:Int) (p1:LI):Option (Bool):=
 (ck (decide ((0:Int)≤(wr .u64 (w64 (p0 - 1)))))).bind fun _=>
 (loopM (lp_Sg_9 p1) ((shlI .i64 1 (wr .u64 (w64 (p0 - 1)))),0)).bind fun e=>match e with | .inl e=>some e | .inr e=>m_Sg_27
def m_Sg (p0:Int) (p1:LI):Option (Bool):=m_Sg_0 p0 p1
def m_Sl_115 (p1:Za) (p3:Int) (g:(List LI)) (b:Int) (c:LI) (d e:Int) (f:Bool):Option ((Int×LI×Int×Int)⊕((LI×Int×Int))):=
 if f then
  (m_Sj (Zc.mk c d e) 5).bind fun a=>
  some (.inl ((w64 (b+1)),a.data,a.at_,a.err))
 else
  some (.inl ((w64 (b+1)),c,d,e))
def m_Sl_119 (p1:Za) (a:(List LI)) (b:LI) (c d:Int):Option ((List LI)×Zc×Za):=
 some (a,(Zc.mk b c d),p1)
def m_Sl_103 (p1:Za) (p3:Int) (a:(List LI)) (b:Int) (c:LI) (d e:Int):Option ((Int×LI×Int×Int)⊕((LI×Int×Int))):=
 if (decide (b < (a.length:Int))) then
  (rd a b).bind fun f=>
  if ((f.length:Int) != p3) then
   m_Sl_115 p1 p3 a b c d e true
  else
   (m_Sg p1.bits f).bind fun g=>
   m_Sl_115 p1 p3 a b c d e (!g)
 else
  some (.inr (c,d,e))
def lp_Sl_103 (p1:Za) (p3:Int) (a:(List LI)) (s:Int×LI×Int×Int):Option ((Int×LI×Int×Int)⊕((LI×Int×Int))):=m_Sl_103 p1 p3 a s.1 s.2.1 s.2.2.1 s.2.2.2
def m_Sl_98 (p1:Za) (p3:Int) (b:LI) (c d:Int) (a:(List LI)):Option ((List LI)×Zc×Za):=
 (loopM (lp_Sl_103 p1 p3 a) (0,b,c,d)).bind fun e=>m_Sl_119 p1 a e.1 e.2.1 e.2.2
def m_Sl_90 (p1:Za) (p2 p3:Int) (f:Int×Zc) (b:LI) (c d:Int) (a:(List LI)):Option ((List LI)×Zc×Za):=
 if (p2 == 2) then
  (rd a 0).bind fun g=>
  (rd a 1).bind fun h=>
  (m_Sr f.1 g h).bind fun e=>
  m_Sl_98 p1 p3 b c d ([e.1,e.2]:List LI)
 else
  m_Sl_98 p1 p3 b c d a
def m_Sl_68 (p1:Za) (p2 p3:Int) (l:Int×Zc) (d:(List LI)) (e:LI) (f g:Int) (h:LI) (a:Int) (b:(List LI)):Option ((Int×(List LI))⊕((((List LI)×Zc×Za))⊕(((List LI))))):=
 if (decide (a < (d.length:Int))) then
  (rd h a).bind fun i=>
  (rd b a).bind fun j=>
  (m_Sc i j).bind fun c=>
  if ((c.length:Int) != p3) then
   (m_Sj (Zc.mk e f g) 5).bind fun k=>
   some (.inr (.inl (([]:List LI),k,p1)))
  else
   some (.inl ((w64 (a+1)),(b.set (0+Int.toNat a) c)))
 else
  some (.inr (.inr b))
def lp_Sl_68 (p1:Za) (p2 p3:Int) (a:Int×Zc) (b:(List LI)) (c:LI) (d e:Int) (f:LI) (s:Int×(List LI)):Option ((Int×(List LI))⊕((((List LI)×Zc×Za))⊕(((List LI))))):=m_Sl_68 p1 p2 p3 a b c d e f s.1 s.2
def m_Sl_55 (p1:Za) (p2 p3:Int) (d:Int×Zc) (g:LI) (f:(List LI)) (b:LI) (c a:Int):Option ((List LI)×Zc×Za):=
 if (a != 0) then
  some (([]:List LI),(Zc.mk b c a),p1)
 else
  (loopM (lp_Sl_68 p1 p2 p3 d f b c a g) (0,f)).bind fun e=>match e with | .inl e=>some e | .inr e=>m_Sl_90 p1 p2 p3 d b c a e
def m_Sl_52 (p1:Za) (p2 p3:Int) (c:Int×Zc) (a:Int×Zc) (d:LI) (e:(List LI)) (f:Bool):Option ((List LI)×Zc×Za):=
 if f then
  (m_Sj a.2 3).bind fun b=>
  m_Sl_55 p1 p2 p3 c d e b.data b.at_ b.err
 else
  m_Sl_55 p1 p2 p3 c d e a.2.data a.2.at_ a.2.err
def m_Sl_35 (p1:Za) (p2 p3 c:Int) (d:Int×Zc) (g:LI) (h i:Int) (e:LI) (f:(List LI)):Option ((List LI)×Zc×Za):=
 (m_Sk (Zc.mk g h i)).bind fun a=>
 if (a.err != 0) then
  some (([]:List LI),a,p1)
 else
  (ck (decide ((0:Int)≤(w64 (Int.tdiv a.at_ 8))∧(w64 (Int.tdiv a.at_ 8))≤(a.data.length:Int)))).bind fun _=>
  (ck (decide ((0:Int)≤c∧c≤((Int.toNat (w64 (Int.tdiv a.at_ 8))):Int)))).bind fun _=>
  (m_Sa ((a.data.take (Int.toNat (w64 (Int.tdiv a.at_ 8)))).drop (Int.toNat c))).bind fun j=>
  (m_Sq a 16).bind fun b=>
  if (b.2.err == 0) then
   m_Sl_52 p1 p2 p3 d b e f (b.1 != (w64 (andI .u32 j 65535)))
  else
   m_Sl_52 p1 p2 p3 d b e f false
def m_Sl_21 (p1:Za) (p2 p3 h:Int) (i:Int×Zc) (g:Int) (e:LI) (f b:Int) (c:LI) (d:(List LI)):Option ((Int×LI×Int×Int×LI×(List LI))⊕((LI×Int×Int×LI×(List LI)))):=
 if (decide (g < p2)) then
  if (b == 0) then
   (m_Sm (Zc.mk e f b) p3).bind fun a=>
   (ck (decide (c.length+([a.1]:LI).length≤17592186044416))).bind fun _=>
   (ck (decide (d.length+([a.2.1]:List LI).length≤5864062014805))).bind fun _=>
   some (.inl ((w64 (g+1)),a.2.2.data,a.2.2.at_,a.2.2.err,(c++([a.1]:LI)),(d++([a.2.1]:List LI))))
  else
   some (.inr (e,f,b,c,d))
 else
  some (.inr (e,f,b,c,d))
def lp_Sl_21 (p1:Za) (p2 p3 a:Int) (b:Int×Zc) (s:Int×LI×Int×Int×LI×(List LI)):Option ((Int×LI×Int×Int×LI×(List LI))⊕((LI×Int×Int×LI×(List LI)))):=m_Sl_21 p1 p2 p3 a b s.1 s.2.1 s.2.2.1 s.2.2.2.1 s.2.2.2.2.1 s.2.2.2.2.2
def m_Sl_12 (p1:Za) (p2 p3 a:Int) (b:Int×Zc) (c:LI) (d f:Int):Option ((List LI)×Zc×Za):=
 (loopM (lp_Sl_21 p1 p2 p3 a b) (0,c,d,f,([]:LI),([]:List LI))).bind fun e=>m_Sl_35 p1 p2 p3 a b e.1 e.2.1 e.2.2.1 e.2.2.2.1 e.2.2.2.2
def m_Sl_9 (p1:Za) (p2 p3:Int) (a:Int×Zc) (c:Int) (d:Bool):Option ((List LI)×Zc×Za):=
 if d then
  (m_Sj a.2 5).bind fun b=>
  m_Sl_12 p1 p2 p3 c a b.data b.at_ b.err
 else
  m_Sl_12 p1 p2 p3 c a a.2.data a.2.at_ a.2.err
def m_Sl_0 (p1:Za) (p2 p3:Int) (p0:Zc):Option ((List LI)×Zc×Za):=
 (m_Sq p0 2).bind fun a=>
 if (a.2.err == 0) then
  if (a.1 == 3) then
   m_Sl_9 p1 p2 p3 a (w64 (Int.tdiv p0.at_ 8)) true
  else
   if (p2 == 1) then
    m_Sl_9 p1 p2 p3 a (w64 (Int.tdiv p0.at_ 8)) (a.1 != 0)
   else
    m_Sl_9 p1 p2 p3 a (w64 (Int.tdiv p0.at_ 8)) false
 else
  m_Sl_9 p1 p2 p3 a (w64 (Int.tdiv p0.at_ 8)) false
def m_Sl (p0:Zc) (p1:Za) (p2 p3:Int):Option ((List LI)×Zc×Za):=m_Sl_0 p1 p2 p3 p0
def m_Sb_79 (p0:LI) (e:Int) (f:Int×Zc) (b:Int) (a:(List LI)×Zc×Za) (g:Int×Zc) (h:Int×Zc) (c:Int×Zc) (d:(List LI)):Option ((Int×LI×Int×Int×(List LI))⊕((LI×Int×Int×(List LI)))):=
 some (.inl ((w64 (b+c.1)),a.2.1.data,a.2.1.at_,a.2.1.err,d))
def m_Sb_67 (p0:LI) (f:Int) (g:Int×Zc) (h:Int) (c:(List LI)×Zc×Za) (i:Int×Zc) (j:Int×Zc) (k:Int×Zc) (a:Int) (b:(List LI)):Option ((Int×(List LI))⊕(((List LI)))):=
 if (decide (a < (c.1.length:Int))) then
  (rd c.1 a).bind fun d=>
  (rd b a).bind fun e=>
  (ck (decide (e.length+d.length≤17592186044416))).bind fun _=>
  some (.inl ((w64 (a+1)),(b.set (0+Int.toNat a) (e++d))))
 else
  some (.inr b)
def lp_Sb_67 (p0:LI) (a:Int) (b:Int×Zc) (c:Int) (d:(List LI)×Zc×Za) (e:Int×Zc) (f:Int×Zc) (g:Int×Zc) (s:Int×(List LI)):Option ((Int×(List LI))⊕(((List LI)))):=m_Sb_67 p0 a b c d e f g s.1 s.2
def m_Sb_63 (p0:LI) (b:Int) (g:Int×Zc) (h:Int) (j:LI) (k l:Int) (c:Int×Zc) (d:Int×Zc) (f:Int×Zc) (i:(List LI)) (m:Int):Option ((Int×LI×Int×Int×(List LI))⊕((LI×Int×Int×(List LI)))):=
 (m_Sl (Zc.mk j k l) (Za.mk c.1 d.1 f.1 i) b m).bind fun a=>
 (ck (decide (a.2.2.channels.length=i.length))).bind fun _=>
 (loopM (lp_Sb_67 p0 b g h a c d f) (0,a.2.2.channels)).bind fun e=>m_Sb_79 p0 b g h a c d f e
def m_Sb_86 (b:Int×Zc) (c:Int×Zc) (d:Int×Zc) (e:(List LI)) (f:LI) (g a:Int):Option (Zb):=
 if (a != 0) then
  some (Zb.mk a (Za.mk 0 0 0 ([]:List LI)))
 else
  some (Zb.mk 0 (Za.mk b.1 c.1 d.1 e))
def m_Sb_83 (b:LI) (c d:Int) (e:Int×Zc) (f:Int×Zc) (g:Int×Zc) (h:(List LI)) (i:Bool):Option (Zb):=
 if i then
  (m_Sj (Zc.mk b c d) 8).bind fun a=>
  m_Sb_86 e f g h a.data a.at_ a.err
 else
  m_Sb_86 e f g h b c d
def m_Sb_80 (p0:LI) (c:Int×Zc) (d:Int×Zc) (e:Int×Zc) (f:LI) (a b:Int) (g:(List LI)):Option (Zb):=
 if (b == 0) then
  m_Sb_83 f a b c d e g (decide (a < (w64 (8*(p0.length:Int)))))
 else
  m_Sb_83 f a b c d e g false
def m_Sb_47 (p0:LI) (h:Int) (a:Int×Zc) (i:Int×Zc) (j:Int×Zc) (d:Int×Zc) (b:Int) (e:LI) (f c:Int) (g:(List LI)):Option ((Int×LI×Int×Int×(List LI))⊕((LI×Int×Int×(List LI)))):=
 if (decide (b < a.1)) then
  if (c == 0) then
   if (decide (d.1 > (w64 (a.1 - b)))) then
    m_Sb_63 p0 h a b e f c i j d g (w64 (a.1 - b))
   else
    m_Sb_63 p0 h a b e f c i j d g d.1
  else
   some (.inr (e,f,c,g))
 else
  some (.inr (e,f,c,g))
def lp_Sb_47 (p0:LI) (a:Int) (b:Int×Zc) (c:Int×Zc) (d:Int×Zc) (e:Int×Zc) (s:Int×LI×Int×Int×(List LI)):Option ((Int×LI×Int×Int×(List LI))⊕((LI×Int×Int×(List LI)))):=m_Sb_47 p0 a b c d e s.1 s.2.1 s.2.2.1 s.2.2.2.1 s.2.2.2.2
def m_Sb_32 (p0:LI) (a:Int) (g:Int×Zc) (c:Int×Zc) (d:Int×Zc) (f:Int×Zc) (h:LI) (i b:Int):Option (Zb):=
 if (b != 0) then
  some (Zb.mk b (Za.mk 0 0 0 ([]:List LI)))
 else
  (ck (decide ((0:Int)≤a∧a≤(5864062014805:Int)))).bind fun _=>
  (loopM (lp_Sb_47 p0 a g c d f) (0,h,i,b,(List.replicate (Int.toNat a) ([]:LI)))).bind fun e=>m_Sb_80 p0 c d f e.1 e.2.1 e.2.2.1 e.2.2.2
def m_Sb_29 (p0:LI) (a:Int×Zc) (c:Int×Zc) (d:Int×Zc) (e:Int×Zc) (f:Int) (g:Bool):Option (Zb):=
 if g then
  (m_Sj a.2 5).bind fun b=>
  m_Sb_32 p0 f a c d e b.data b.at_ b.err
 else
  m_Sb_32 p0 f a c d e a.2.data a.2.at_ a.2.err
def m_Sb_0 (p0:LI):Option (Zb):=
 if (decide ((p0.length:Int) > 60000)) then
  some (Zb.mk 1 (Za.mk 0 0 0 ([]:List LI)))
 else
  (m_Sn (Zc.mk p0 0 0) ([83,78,68,49]:LI)).bind fun f=>
  (m_Sq f 20).bind fun a=>
  (m_Sq a.2 5).bind fun b=>
  (m_Sq b.2 10).bind fun c=>
  (m_Sq c.2 1).bind fun d=>
  (m_Sq d.2 12).bind fun e=>
  if (e.2.err == 0) then
   (m_Sf (Za.mk a.1 b.1 c.1 ([]:List LI)) (w64 (d.1+1)) e.1).bind fun g=>
   m_Sb_29 p0 e a b c (w64 (d.1+1)) (!g)
  else
   m_Sb_29 p0 e a b c (w64 (d.1+1)) false
def m_Sb (p0:LI):Option (Zb):=m_Sb_0 p0
def m_Ic_0 (p0:Int):Option (Zb):=
 some (Zb.mk p0 (Za.mk 0 0 0 ([]:List LI)))
def m_Ic (p0:Int):Option (Zb):=m_Ic_0 p0
def m_Il_33:Option (Int):=
 some 0
def m_Il_7 (p0:LI) (p1:ByteArray) (a:Int):Option ((Int)⊕((Int)⊕((Unit)))):=
 if (decide (a < (p1.size:Int))) then
  if (decide (a≥(p0.length:Int))) then
   some (.inr (.inl 2))
  else
   (rd p0 a).bind fun b=>
   (sat p1 a).bind fun c=>
   if (b != c) then
    some (.inr (.inl 4))
   else
    some (.inl (w64 (a+1)))
 else
  some (.inr (.inr ()))
def lp_Il_7 (p0:LI) (p1:ByteArray) (s:Int):Option ((Int)⊕((Int)⊕((Unit)))):=m_Il_7 p0 p1 s
def m_Il_0 (p0:LI) (p1:ByteArray):Option (Int):=
 (loopM (lp_Il_7 p0 p1) 0).bind fun e=>match e with | .inl e=>some e | .inr e=>m_Il_33
def m_Il (p0:LI) (p1:ByteArray):Option (Int):=m_Il_0 p0 p1
def m_Io_0 (p0:Ze):Option (Int×Ze):=
 if (decide (p0.at_≥(w64 (8*(p0.b.length:Int))))) then
  some (0,(Ze.mk p0.b p0.at_ true))
 else
  (rd p0.b (w64 (Int.tdiv p0.at_ 8))).bind fun a=>
  (ck (decide ((0:Int)≤(w64 (7 - (Int.tmod p0.at_ 8)))))).bind fun _=>
  some ((w64 (andI .u8 (shrI .u8 a (w64 (7 - (Int.tmod p0.at_ 8)))) 1)),(Ze.mk p0.b (w64 (p0.at_+1)) p0.short))
def m_Io (p0:Ze):Option (Int×Ze):=m_Io_0 p0
def m_Iq_19 (a:Int) (b:LI) (c:Int) (d:Bool):Option (Int×Ze):=
 some (a,(Ze.mk b c d))
def m_Iq_9 (p1 c d:Int) (e:LI) (f:Int) (g:Bool):Option ((Int×Int×LI×Int×Bool)⊕((Int×LI×Int×Bool))):=
 if (decide (d < p1)) then
  (m_Io (Ze.mk e f g)).bind fun a=>
  some (.inl ((orI .u64 (shlI .u64 c 1) (wr .u64 a.1)),(w64 (d+1)),a.2.b,a.2.at_,a.2.short))
 else
  some (.inr (c,e,f,g))
def lp_Iq_9 (p1:Int) (s:Int×Int×LI×Int×Bool):Option ((Int×Int×LI×Int×Bool)⊕((Int×LI×Int×Bool))):=m_Iq_9 p1 s.1 s.2.1 s.2.2.1 s.2.2.2.1 s.2.2.2.2
def m_Iq_0 (p1:Int) (p0:Ze):Option (Int×Ze):=
 (loopM (lp_Iq_9 p1) (0,0,p0.b,p0.at_,p0.short)).bind fun e=>m_Iq_19 e.1 e.2.1 e.2.2.1 e.2.2.2
def m_Iq (p0:Ze) (p1:Int):Option (Int×Ze):=m_Iq_0 p1 p0
def m_Im_33:Option (Bool):=
 some true
def m_Im_15 (p1 p2:Int) (p0:LI) (a:Int):Option ((Int)⊕((Bool)⊕((Unit)))):=
 if (decide (a < (p0.length:Int))) then
  (rd p0 a).bind fun b=>
  if (decide (b < p1)) then
   some (.inr (.inl false))
  else
   if (decide (b > p2)) then
    some (.inr (.inl false))
   else
    some (.inl (w64 (a+1)))
 else
  some (.inr (.inr ()))
def lp_Im_15 (p1 p2:Int) (p0:LI) (s:Int):Option ((Int)⊕((Bool)⊕((Unit)))):=m_Im_15 p1 p2 p0 s
def m_Im_0 (p0:LI) (p1 p2 p3:Int):Option (Bool):=
 if (decide ((p0.length:Int) > p3)) then
  some false
 else
  (loopM (lp_Im_15 p1 p2 p0) 0).bind fun e=>match e with | .inl e=>some e | .inr e=>m_Im_33
def m_Im (p0:LI) (p1 p2 p3:Int):Option (Bool):=m_Im_0 p0 p1 p2 p3
def m_Id_35:Option (Bool):=
 some true
def m_Id_17 (p0:Za) (a:Int):Option ((Int)⊕((Bool)⊕((Unit)))):=
 if (decide (a < (p0.channels.length:Int))) then
  (rd p0.channels a).bind fun b=>
  (rd p0.channels 0).bind fun c=>
  if ((b.length:Int) != (c.length:Int)) then
   some (.inr (.inl false))
  else
   (ck (decide ((0:Int)≤(w64 (p0.bits - 1))))).bind fun _=>
   (m_Im b (shlI .i64 (-1) (w64 (p0.bits - 1))) (w64 ((shlI .i64 1 (w64 (p0.bits - 1))) - 1)) 4000).bind fun d=>
   if d then
    some (.inl (w64 (a+1)))
   else
    some (.inr (.inl false))
 else
  some (.inr (.inr ()))
def lp_Id_17 (p0:Za) (s:Int):Option ((Int)⊕((Bool)⊕((Unit)))):=m_Id_17 p0 s
def m_Id_0 (p0:Za):Option (Bool):=
 if (decide (p0.rate < 1)) then
  some false
 else
  if (decide (p0.rate > 1000000)) then
   some false
  else
   if (decide (p0.bits < 2)) then
    some false
   else
    if (decide (p0.bits > 24)) then
     some false
    else
     if (decide (p0.frame < 1)) then
      some false
     else
      if (decide (p0.frame > 512)) then
       some false
      else
       if (decide ((p0.channels.length:Int) < 1)) then
        some false
       else
        if (decide ((p0.channels.length:Int) > 2)) then
         some false
        else
         (loopM (lp_Id_17 p0) 0).bind fun e=>match e with | .inl e=>some e | .inr e=>m_Id_35
def m_Id (p0:Za):Option (Bool):=m_Id_0 p0
def m_In_0 (p0 p1:Int):Option (Int):=
 (ck (decide ((0:Int)≤(w64 (64 - p1))))).bind fun _=>
 some (shrI .i64 (w64 (shlI .u64 p0 (w64 (64 - p1)))) (w64 (64 - p1)))
def m_In (p0 p1:Int):Option (Int):=m_In_0 p0 p1
def m_Ii_0 (p0 p1 p2:Int):Option (Bool):=
 if (decide (p0≥0)) then
  if (decide (p0≤4)) then
   if (decide (p0≤p2)) then
    if (decide (p1≥0)) then
     if (decide (p1≤4)) then
      (ck (decide ((0:Int)≤p1))).bind fun _=>
      (ck (decide (((shlI .i64 1 p1):Int)≠0))).bind fun _=>
      if ((Int.tmod p2 (shlI .i64 1 p1)) == 0) then
       some (decide ((shrI .i64 p2 p1)≥p0))
      else
       some false
     else
      some false
    else
     some false
   else
    some false
  else
   some false
 else
  some false
def m_Ii (p0 p1 p2:Int):Option (Bool):=m_Ii_0 p0 p1 p2
def m_If_0 (p0:Int):Option (Int):=
 some (xorI .i64 (w64 (shrI .u64 p0 1)) (w64 (0 - (w64 (andI .u64 p0 1)))))
def m_If (p0:Int):Option (Int):=m_If_0 p0
def m_Ip_15 (a:Bool) (b:LI) (c:Int) (d:Bool):Option (Bool×Ze):=
 some (a,(Ze.mk b c d))
def m_Ip_7 (d:Bool) (e:LI) (c:Int) (f:Bool):Option ((Bool×LI×Int×Bool)⊕((Bool×LI×Int×Bool))):=
 if ((Int.tmod c 8) != 0) then
  (m_Io (Ze.mk e c f)).bind fun a=>
  if (a.1 == 0) then
   some (.inl (d,a.2.b,a.2.at_,a.2.short))
  else
   some (.inl (false,a.2.b,a.2.at_,a.2.short))
 else
  some (.inr (d,e,c,f))
def lp_Ip_7 (s:Bool×LI×Int×Bool):Option ((Bool×LI×Int×Bool)⊕((Bool×LI×Int×Bool))):=m_Ip_7 s.1 s.2.1 s.2.2.1 s.2.2.2
def m_Ip_0 (p0:Ze):Option (Bool×Ze):=
 (loopM (lp_Ip_7) (true,p0.b,p0.at_,p0.short)).bind fun e=>m_Ip_15 e.1 e.2.1 e.2.2.1 e.2.2.2
def m_Ip (p0:Ze):Option (Bool×Ze):=m_Ip_0 p0
def m_Ia_35 (p0:LI) (a b:Int):Option ((Int×Int)⊕((Int))):=
 some (.inl (b,(w64 (a+1))))
def m_Ia_25 (p0:LI) (c a b:Int):Option ((Int×Int)⊕((Int))):=
 if (decide (b < 8)) then
  some (.inl ((xorI .u32 (shrI .u32 a 1) (wr .u32 (3988292384*(andI .u32 a 1)))),(w64 (b+1))))
 else
  some (.inr a)
def lp_Ia_25 (p0:LI) (a:Int) (s:Int×Int):Option ((Int×Int)⊕((Int))):=m_Ia_25 p0 a s.1 s.2
def m_Ia_36 (a:Int):Option (Int):=
 some (notI .u32 a)
def m_Ia_9 (p0:LI) (b a:Int):Option ((Int×Int)⊕((Int))):=
 if (decide (a < (p0.length:Int))) then
  (rd p0 a).bind fun c=>
  (loopM (lp_Ia_25 p0 a) ((xorI .u32 b (wr .u32 c)),0)).bind fun e=>m_Ia_35 p0 a e
 else
  some (.inr b)
def lp_Ia_9 (p0:LI) (s:Int×Int):Option ((Int×Int)⊕((Int))):=m_Ia_9 p0 s.1 s.2
def m_Ia_0 (p0:LI):Option (Int):=
 (loopM (lp_Ia_9 p0) (4294967295,0)).bind fun e=>m_Ia_36 e
def m_Ia (p0:LI):Option (Int):=m_Ia_0 p0
def m_Ih_0 (p0:LI):Option (LI):=
 (ck (decide (([]:LI).length+p0.length≤17592186044416))).bind fun _=>
 some (([]:LI)++p0)
def m_Ih (p0:LI):Option (LI):=m_Ih_0 p0
def m_Ij_0 (p0:Int) (p1:LI) (p2:Int):Option (Int):=
 if (p0 == 1) then
  (rd p1 (w64 (p2 - 1))).bind fun d=>
  some d
 else
  if (p0 == 2) then
   (rd p1 (w64 (p2 - 1))).bind fun e=>
   (rd p1 (w64 (p2 - 2))).bind fun a=>
   some (w64 ((w64 (2*e)) - a))
  else
   if (p0 == 3) then
    (rd p1 (w64 (p2 - 1))).bind fun a=>
    (rd p1 (w64 (p2 - 2))).bind fun b=>
    (rd p1 (w64 (p2 - 3))).bind fun c=>
    some (w64 ((w64 ((w64 (3*a)) - (w64 (3*b))))+c))
   else
    if (p0 == 4) then
     (rd p1 (w64 (p2 - 1))).bind fun b=>
     (rd p1 (w64 (p2 - 2))).bind fun c=>
     (rd p1 (w64 (p2 - 3))).bind fun f=>
     (rd p1 (w64 (p2 - 4))).bind fun g=>
     some (w64 ((w64 ((w64 ((w64 (4*b)) - (w64 (6*c))))+(w64 (4*f)))) - g))
    else
     some 0
def m_Ij (p0:Int) (p1:LI) (p2:Int):Option (Int):=m_Ij_0 p0 p1 p2
def m_Ie_33 (p0 a:Int) (d b:LI):Option ((Int×LI)⊕(((LI))⊕((LI)))):=
 (rd b a).bind fun c=>
 if (decide (c < (-67108864))) then
  some (.inr (.inr ([]:LI)))
 else
  if (decide (c > 67108863)) then
   some (.inr (.inr ([]:LI)))
  else
   some (.inl ((w64 (a+1)),b))
def m_Ie_41 (a:LI):Option (LI):=
 some a
def m_Ie_17 (p0:Int) (c:LI) (a:Int) (b:LI):Option ((Int×LI)⊕(((LI))⊕((LI)))):=
 if (decide (a < (c.length:Int))) then
  if (decide (a≥p0)) then
   (rd b a).bind fun d=>
   (m_Ij p0 b a).bind fun e=>
   m_Ie_33 p0 a c (b.set (0+Int.toNat a) (w64 (d+e)))
  else
   m_Ie_33 p0 a c b
 else
  some (.inr (.inl b))
def lp_Ie_17 (p0:Int) (a:LI) (s:Int×LI):Option ((Int×LI)⊕(((LI))⊕((LI)))):=m_Ie_17 p0 a s.1 s.2
def m_Ie_0 (p0:Int) (p1:LI):Option (LI):=
 (m_Im p1 (-2147483648) 2147483647 4000).bind fun b=>
 if b then
  if (decide (p0 < 0)) then
   some ([]:LI)
  else
   if (decide (p0 > 4)) then
    some ([]:LI)
   else
    (m_Ih p1).bind fun a=>
    (loopM (lp_Ie_17 p0 a) (0,a)).bind fun e=>match e with | .inl e=>m_Ie_41 e | .inr e=>some e
 else
  some ([]:LI)
def m_Ie (p0:Int) (p1:LI):Option (LI):=m_Ie_0 p0 p1
def m_Ik_0 (p0:LI):Option (Bool):=
 (m_Im p0 (-67108864) 67108863 4000).bind fun a=>
 some a
def m_Ik (p0:LI):Option (Bool):=m_Ik_0 p0
def m_Ig_33 (p0:Int) (p1 p2:LI) (a:Int) (b c:LI):Option ((Int×LI×LI)⊕((LI×LI))):=
 if (decide (p0 > 0)) then
  (rd c a).bind fun d=>
  (rd p2 a).bind fun e=>
  (rd b a).bind fun _=>
  some (.inl ((w64 (a+1)),c,(b.set (0+Int.toNat a) (w64 (d - e)))))
 else
  some (.inl ((w64 (a+1)),c,b))
def m_Ig_42 (a b:LI) (c:Bool):Option (LI×LI):=
 if c then
  some (([]:LI),([]:LI))
 else
  some (a,b)
def m_Ig_39 (a b:LI):Option (LI×LI):=
 (m_Ik a).bind fun c=>
 if c then
  (m_Ik b).bind fun d=>
  m_Ig_42 a b (!d)
 else
  m_Ig_42 a b true
def m_Ig_17 (p0:Int) (p1 p2:LI) (a:Int) (b c:LI):Option ((Int×LI×LI)⊕((LI×LI))):=
 if (decide (a < (p1.length:Int))) then
  if (p0 == 2) then
   (rd p1 a).bind fun e=>
   (rd p2 a).bind fun d=>
   (rd b a).bind fun _=>
   m_Ig_33 p0 p1 p2 a c (b.set (0+Int.toNat a) (shrI .i64 (w64 ((w64 ((w64 (2*e))+(andI .i64 d 1)))+d)) 1))
  else
   m_Ig_33 p0 p1 p2 a c b
 else
  some (.inr (b,c))
def lp_Ig_17 (p0:Int) (p1 p2:LI) (s:Int×LI×LI):Option ((Int×LI×LI)⊕((LI×LI))):=m_Ig_17 p0 p1 p2 s.1 s.2.1 s.2.2
def m_Ig_5 (p0:Int) (p1 p2:LI) (a:Bool):Option (LI×LI):=
 if a then
  some (([]:LI),([]:LI))
 else
  (m_Ih p1).bind fun b=>
  (m_Ih p2).bind fun c=>
  (loopM (lp_Ig_17 p0 p1 p2) (0,b,c)).bind fun e=>m_Ig_39 e.1 e.2
def m_Ig_0 (p0:Int) (p1 p2:LI):Option (LI×LI):=
 (m_Im p1 (-268435456) 268435455 4000).bind fun a=>
 if a then
  (m_Im p2 (-268435456) 268435455 4000).bind fun b=>
  if b then
   if ((p1.length:Int) != (p2.length:Int)) then
    m_Ig_5 p0 p1 p2 true
   else
    if (decide (p0 < 0)) then
     m_Ig_5 p0 p1 p2 true
    else
     m_Ig_5 p0 p1 p2 (decide (p0 > 2))
  else
   m_Ig_5 p0 p1 p2 true
 else
  m_Ig_5 p0 p1 p2 true
def m_Ig (p0:Int) (p1 p2:LI):Option (LI×LI):=m_Ig_0 p0 p1 p2
def m_Ib_217 (p0:LI) (l m n o p q r s c t u v w f x y z:Int) (A:(List LI)) (B d:LI) (C:(List LI)) (g:Int) (h:LI) (i:Int) (j:Bool):Option ((Int×LI×Int×Bool×LI)⊕((Zb)⊕((LI×Int×Bool×LI)))):=
 (ck (decide ((0:Int)≤c))).bind fun _=>
 (m_Iq (Ze.mk h i j) c).bind fun a=>
 (m_If (orI .u64 (shlI .u64 g c) a.1)).bind fun e=>
 (ck (decide (d.length+([e]:LI).length≤17592186044416))).bind fun _=>
 if a.2.short then
  (m_Ic 2).bind fun k=>
  some (.inr (.inl k))
 else
  some (.inl ((w64 (f+1)),a.2.b,a.2.at_,a.2.short,(d++([e]:LI))))
def m_Ib_209 (p0:LI) (g h i j k l m n o p q r s t u v w:Int) (x:(List LI)) (y z:LI) (A:(List LI)) (c:Int) (d:LI) (e:Int) (f:Bool):Option ((Int×LI×Int×Bool)⊕((Int×LI×Int×Bool))):=
 (m_Io (Ze.mk d e f)).bind fun a=>
 if (a.1 == 0) then
  if a.2.short then
   some (.inr (c,a.2.b,a.2.at_,a.2.short))
  else
   some (.inl ((wr .u64 (c+1)),a.2.b,a.2.at_,a.2.short))
 else
  some (.inr (c,a.2.b,a.2.at_,a.2.short))
def lp_Ib_209 (p0:LI) (a b c d e f g h i j k l m n o p q:Int) (r:(List LI)) (t u:LI) (v:(List LI)) (s:Int×LI×Int×Bool):Option ((Int×LI×Int×Bool)⊕((Int×LI×Int×Bool))):=m_Ib_209 p0 a b c d e f g h i j k l m n o p q r t u v s.1 s.2.1 s.2.2.1 s.2.2.2
def m_Ib_226 (p0:LI) (h i j k l m n a o b c p q r:Int) (s:(List LI)) (t:LI) (u:(List LI)) (d:LI) (e:Int) (f:Bool) (g:LI):Option ((Int×Int×Int×LI×Int×Bool×LI)⊕((Zb)⊕((LI×Int×Bool×LI)))):=
 some (.inl (a,b,(w64 (c+1)),d,e,f,g))
def m_Ib_191 (p0:LI) (k l m n o p q r f s t u g v w x:Int) (y:(List LI)) (z:LI) (A:(List LI)) (d:Int) (h:LI) (i:Int) (j:Bool) (a:LI):Option ((Int×LI×Int×Bool×LI)⊕((Zb)⊕((LI×Int×Bool×LI)))):=
 if (decide (d < g)) then
  if (f == 25) then
   (m_Iq (Ze.mk h i j) 32).bind fun c=>
   (m_In c.1 32).bind fun B=>
   (ck (decide (a.length+([B]:LI).length≤17592186044416))).bind fun _=>
   if c.2.short then
    (m_Ic 2).bind fun C=>
    some (.inr (.inl C))
   else
    some (.inl ((w64 (d+1)),c.2.b,c.2.at_,c.2.short,(a++([B]:LI))))
  else
   (loopM (lp_Ib_209 p0 k l m n o p q r f s t u g d v w x y z a A) (0,h,i,j)).bind fun e=>m_Ib_217 p0 k l m n o p q r f s t u g d v w x y z a A e.1 e.2.1 e.2.2.1 e.2.2.2
 else
  some (.inr (.inr (h,i,j,a)))
def lp_Ib_191 (p0:LI) (a b c d e f g h i j k l m n o p:Int) (q:(List LI)) (r:LI) (t:(List LI)) (s:Int×LI×Int×Bool×LI):Option ((Int×LI×Int×Bool×LI)⊕((Zb)⊕((LI×Int×Bool×LI)))):=m_Ib_191 p0 a b c d e f g h i j k l m n o p q r t s.1 s.2.1 s.2.2.1 s.2.2.2.1 s.2.2.2.2
def m_Ib_187 (p0:LI) (c d f g h i j k l m n:Int) (a:Int×Ze) (o p q:Int) (r:(List LI)) (s u:LI) (t:(List LI)) (v w:Int):Option ((Int×Int×Int×LI×Int×Bool×LI)⊕((Zb)⊕((LI×Int×Bool×LI)))):=
 (loopM (lp_Ib_191 p0 c d f g h i j k v l m n w o p q r s t) (0,a.2.b,a.2.at_,a.2.short,u)).bind fun e=>match e with | .inl e=>some (.inr (.inl e)) | .inr e=>m_Ib_226 p0 c d f g h i j k l m n o p q r s t e.1 e.2.1 e.2.2.1 e.2.2.2
def m_Ib_227 (p0:LI) (i j k l m n a e o p q:Int) (b:(List LI)) (c:LI) (r:(List LI)) (f:LI) (g:Int) (h:Bool) (d:LI):Option ((Int×LI×Int×Bool×(List LI)×LI)⊕((Zb)⊕((LI×Int×Bool×(List LI)×LI)))):=
 (ck (decide (b.length+([d]:List LI).length≤5864062014805))).bind fun _=>
 (ck (decide (c.length+([a]:LI).length≤17592186044416))).bind fun _=>
 some (.inl ((w64 (e+1)),f,g,h,(b++([d]:List LI)),(c++([a]:LI))))
def m_Ib_151 (p0:LI) (h i j c k l e m n o p:Int) (q:(List LI)) (r:LI) (s:(List LI)) (b f d:Int) (t:LI) (u:Int) (v:Bool) (g:LI):Option ((Int×Int×Int×LI×Int×Bool×LI)⊕((Zb)⊕((LI×Int×Bool×LI)))):=
 if (decide (d < f)) then
  (m_Iq (Ze.mk t u v) 5).bind fun a=>
  if a.2.short then
   (m_Ic 2).bind fun w=>
   some (.inr (.inl w))
  else
   if (decide ((w64 a.1) > 25)) then
    (m_Ic 5).bind fun x=>
    some (.inr (.inl x))
   else
    (ck (decide ((0:Int)≤b))).bind fun _=>
    if (d == 0) then
     m_Ib_187 p0 h i j c k l e b m f d a n o p q r g s (w64 a.1) (w64 ((shrI .i64 c b) - e))
    else
     m_Ib_187 p0 h i j c k l e b m f d a n o p q r g s (w64 a.1) (shrI .i64 c b)
 else
  some (.inr (.inr (t,u,v,g)))
def lp_Ib_151 (p0:LI) (a b c d e f g h i j k:Int) (l:(List LI)) (m:LI) (n:(List LI)) (s:Int×Int×Int×LI×Int×Bool×LI):Option ((Int×Int×Int×LI×Int×Bool×LI)⊕((Zb)⊕((LI×Int×Bool×LI)))):=m_Ib_151 p0 a b c d e f g h i j k l m n s.1 s.2.1 s.2.2.1 s.2.2.2.1 s.2.2.2.2.1 s.2.2.2.2.2.1 s.2.2.2.2.2.2
def m_Ib_128 (p0:LI) (g h i c j k d l m n o:Int) (p:(List LI)) (q:LI) (r:(List LI)) (s:LI) (t:Int) (u:Bool) (v:LI):Option ((Int×LI×Int×Bool×(List LI)×LI)⊕((Zb)⊕((LI×Int×Bool×(List LI)×LI)))):=
 (m_Iq (Ze.mk s t u) 3).bind fun a=>
 if a.2.short then
  (m_Ic 2).bind fun f=>
  some (.inr (.inl f))
 else
  (m_Ii d (w64 a.1) c).bind fun f=>
  if f then
   (ck (decide ((0:Int)≤(w64 a.1)))).bind fun _=>
   (loopM (lp_Ib_151 p0 g h i c j k d l m n o p q r) ((w64 a.1),(shlI .i64 1 (w64 a.1)),0,a.2.b,a.2.at_,a.2.short,v)).bind fun e=>match e with | .inl e=>some (.inr (.inl e)) | .inr e=>m_Ib_227 p0 g h i c j k d l m n o p q r e.1 e.2.1 e.2.2.1 e.2.2.2
  else
   (m_Ic 5).bind fun w=>
   some (.inr (.inl w))
def m_Ib_118 (p0:LI) (j k l m n o i p q r s:Int) (t:(List LI)) (u:LI) (v:(List LI)) (d:Int) (e:LI) (f:Int) (g:Bool) (c:LI):Option ((Int×LI×Int×Bool×LI)⊕((LI×Int×Bool×LI))):=
 if (decide (d < i)) then
  (m_Iq (Ze.mk e f g) 26).bind fun a=>
  (m_In a.1 26).bind fun h=>
  (ck (decide (c.length+([h]:LI).length≤17592186044416))).bind fun _=>
  some (.inl ((w64 (d+1)),a.2.b,a.2.at_,a.2.short,(c++([h]:LI))))
 else
  some (.inr (e,f,g,c))
def lp_Ib_118 (p0:LI) (a b c d e f g h i j k:Int) (l:(List LI)) (m:LI) (n:(List LI)) (s:Int×LI×Int×Bool×LI):Option ((Int×LI×Int×Bool×LI)⊕((LI×Int×Bool×LI))):=m_Ib_118 p0 a b c d e f g h i j k l m n s.1 s.2.1 s.2.2.1 s.2.2.2.1 s.2.2.2.2
def m_Ib_106 (p0:LI) (c d f g h i j:Int) (a:Int×Ze) (k l m:Int) (n:(List LI)) (o:LI) (p:(List LI)) (q:Int) (r:Bool):Option ((Int×LI×Int×Bool×(List LI)×LI)⊕((Zb)⊕((LI×Int×Bool×(List LI)×LI)))):=
 if r then
  (m_Ic 5).bind fun s=>
  some (.inr (.inl s))
 else
  (loopM (lp_Ib_118 p0 c d f g h i q j k l m n o p) (0,a.2.b,a.2.at_,a.2.short,([]:LI))).bind fun e=>m_Ib_128 p0 c d f g h i q j k l m n o p e.1 e.2.1 e.2.2.1 e.2.2.2
def m_Ib_326 (p0:LI) (f g c:Int) (a:Int×Ze) (h i d:Int) (e:(List LI)):Option ((Int×LI×Int×Bool×(List LI))⊕((Zb)⊕((LI×Int×Bool×(List LI))))):=
 some (.inl ((w64 (c+d)),a.2.b,a.2.at_,a.2.short,e))
def m_Ib_306 (p0:LI) (h i j:Int) (f:(List LI)) (k:Int×Ze) (l c m a:Int) (d:(List LI)):Option ((Int×(List LI))⊕((Zb)⊕(((List LI))))):=
 if (decide (a < (f.length:Int))) then
  (rd f a).bind fun e=>
  (ck (decide ((0:Int)≤(w64 (c - 1))))).bind fun _=>
  (m_Im e (shlI .i64 (-1) (w64 (c - 1))) (w64 ((shlI .i64 1 (w64 (c - 1))) - 1)) 4000).bind fun g=>
  if g then
   (rd d a).bind fun b=>
   (ck (decide (b.length+e.length≤17592186044416))).bind fun _=>
   some (.inl ((w64 (a+1)),(d.set (0+Int.toNat a) (b++e))))
  else
   (m_Ic 5).bind fun b=>
   some (.inr (.inl b))
 else
  some (.inr (.inr d))
def lp_Ib_306 (p0:LI) (a b c:Int) (d:(List LI)) (e:Int×Ze) (f g h:Int) (s:Int×(List LI)):Option ((Int×(List LI))⊕((Zb)⊕(((List LI))))):=m_Ib_306 p0 a b c d e f g h s.1 s.2
def m_Ib_302 (p0:LI) (a b c:Int) (d:Int×Ze) (f g h:Int) (i:(List LI)) (j:(List LI)):Option ((Int×LI×Int×Bool×(List LI))⊕((Zb)⊕((LI×Int×Bool×(List LI))))):=
 (loopM (lp_Ib_306 p0 a b c j d f g h) (0,i)).bind fun e=>match e with | .inl e=>some (.inr (.inl e)) | .inr e=>m_Ib_326 p0 a b c d f g h e
def m_Ib_286 (p0:LI) (c d e k l:Int) (f:Int×Ze) (g h i:Int) (j:(List LI)) (a:(List LI)):Option ((Int×LI×Int×Bool×(List LI))⊕((Zb)⊕((LI×Int×Bool×(List LI))))):=
 if (c == 2) then
  (rd a 0).bind fun m=>
  (rd a 1).bind fun n=>
  (m_Ig l m n).bind fun b=>
  if ((b.1.length:Int) != k) then
   (m_Ic 5).bind fun o=>
   some (.inr (.inl o))
  else
   (rd (a.set (0+Int.toNat 0) b.1) 1).bind fun _=>
   m_Ib_302 p0 c d e f g h i j ((a.set (0+Int.toNat 0) b.1).set (0+Int.toNat 1) b.2)
 else
  m_Ib_302 p0 c d e f g h i j a
def m_Ib_264 (p0:LI) (j k l d m:Int) (e:(List LI)) (n:Int×Ze) (o p q:Int) (f:LI) (r:(List LI)) (a:Int) (b:(List LI)):Option ((Int×(List LI))⊕((Zb)⊕(((List LI))))):=
 if (decide (a < (e.length:Int))) then
  (rd f a).bind fun g=>
  (rd b a).bind fun h=>
  (m_Ie g h).bind fun c=>
  if ((c.length:Int) != d) then
   (m_Ic 5).bind fun i=>
   some (.inr (.inl i))
  else
   some (.inl ((w64 (a+1)),(b.set (0+Int.toNat a) c)))
 else
  some (.inr (.inr b))
def lp_Ib_264 (p0:LI) (a b c d e:Int) (f:(List LI)) (g:Int×Ze) (h i j:Int) (k:LI) (l:(List LI)) (s:Int×(List LI)):Option ((Int×(List LI))⊕((Zb)⊕(((List LI))))):=m_Ib_264 p0 a b c d e f g h i j k l s.1 s.2
def m_Ib_231 (p0:LI) (d f g h c i j k l:Int) (m:(List LI)) (o:LI) (p:Int) (q:Bool) (n:(List LI)) (r:LI):Option ((Int×LI×Int×Bool×(List LI))⊕((Zb)⊕((LI×Int×Bool×(List LI))))):=
 (m_Ip (Ze.mk o p q)).bind fun a=>
 if a.1 then
  (ck (decide ((0:Int)≤(w64 (Int.tdiv a.2.at_ 8))∧(w64 (Int.tdiv a.2.at_ 8))≤(p0.length:Int)))).bind fun _=>
  (ck (decide ((0:Int)≤c∧c≤((Int.toNat (w64 (Int.tdiv a.2.at_ 8))):Int)))).bind fun _=>
  (m_Ia ((p0.take (Int.toNat (w64 (Int.tdiv a.2.at_ 8)))).drop (Int.toNat c))).bind fun s=>
  (m_Iq a.2 16).bind fun b=>
  if b.2.short then
   (m_Ic 2).bind fun t=>
   some (.inr (.inl t))
  else
   if ((wr .u32 b.1) != (andI .u32 s 65535)) then
    (m_Ic 3).bind fun u=>
    some (.inr (.inl u))
   else
    (loopM (lp_Ib_264 p0 d f g h i n b j k l r m) (0,n)).bind fun e=>match e with | .inl e=>some (.inr (.inl e)) | .inr e=>m_Ib_286 p0 d f g h i b j k l m e
 else
  (m_Ic 4).bind fun v=>
  some (.inr (.inl v))
def m_Ib_85 (p0:LI) (b g h c i j k l m:Int) (n:(List LI)) (d:Int) (o:LI) (p:Int) (q:Bool) (e:(List LI)) (f:LI):Option ((Int×LI×Int×Bool×(List LI)×LI)⊕((Zb)⊕((LI×Int×Bool×(List LI)×LI)))):=
 if (decide (d < b)) then
  (m_Iq (Ze.mk o p q) 3).bind fun a=>
  if a.2.short then
   (m_Ic 2).bind fun r=>
   some (.inr (.inl r))
  else
   if (decide ((w64 a.1) > 4)) then
    m_Ib_106 p0 b g h c i j d a k l m e f n (w64 a.1) true
   else
    m_Ib_106 p0 b g h c i j d a k l m e f n (w64 a.1) (decide ((w64 a.1) > c))
 else
  some (.inr (.inr (o,p,q,e,f)))
def lp_Ib_85 (p0:LI) (a b c d e f g h i:Int) (j:(List LI)) (s:Int×LI×Int×Bool×(List LI)×LI):Option ((Int×LI×Int×Bool×(List LI)×LI)⊕((Zb)⊕((LI×Int×Bool×(List LI)×LI)))):=m_Ib_85 p0 a b c d e f g h i j s.1 s.2.1 s.2.2.1 s.2.2.2.1 s.2.2.2.2.1 s.2.2.2.2.2
def m_Ib_71 (p0:LI) (c d f:Int) (a:Int×Ze) (g h i:Int) (j:(List LI)) (k l m:Int) (n:Bool):Option ((Int×LI×Int×Bool×(List LI))⊕((Zb)⊕((LI×Int×Bool×(List LI))))):=
 if n then
  (m_Ic 5).bind fun o=>
  some (.inr (.inl o))
 else
  (loopM (lp_Ib_85 p0 c d f k l m g h i j) (0,a.2.b,a.2.at_,a.2.short,([]:List LI),([]:LI))).bind fun e=>match e with | .inl e=>some (.inr (.inl e)) | .inr e=>m_Ib_231 p0 c d f k l m g h i j e.1 e.2.1 e.2.2.1 e.2.2.2.1 e.2.2.2.2
def m_Ib_327 (p0:LI) (a b c:Int) (g:LI) (d:Int) (h:Bool) (e:(List LI)):Option (Zb):=
 if (decide ((w64 (Int.tdiv d 8)) < (p0.length:Int))) then
  (m_Ic 8).bind fun f=>
  some f
 else
  some (Zb.mk 0 (Za.mk a b c e))
def m_Ib_46 (p0:LI) (f b h i d c:Int) (j:LI) (e:Int) (k:Bool) (g:(List LI)):Option ((Int×LI×Int×Bool×(List LI))⊕((Zb)⊕((LI×Int×Bool×(List LI))))):=
 if (decide (c < b)) then
  (m_Iq (Ze.mk j e k) 2).bind fun a=>
  if a.2.short then
   (m_Ic 2).bind fun l=>
   some (.inr (.inl l))
  else
   if ((w64 a.1) == 3) then
    m_Ib_71 p0 f b c a h i d g (mnI d (w64 (b - c))) (w64 (Int.tdiv e 8)) (w64 a.1) true
   else
    if ((w64 a.1) != 0) then
     m_Ib_71 p0 f b c a h i d g (mnI d (w64 (b - c))) (w64 (Int.tdiv e 8)) (w64 a.1) (f == 1)
    else
     m_Ib_71 p0 f b c a h i d g (mnI d (w64 (b - c))) (w64 (Int.tdiv e 8)) (w64 a.1) false
 else
  some (.inr (.inr (j,e,k,g)))
def lp_Ib_46 (p0:LI) (a b c d e:Int) (s:Int×LI×Int×Bool×(List LI)):Option ((Int×LI×Int×Bool×(List LI))⊕((Zb)⊕((LI×Int×Bool×(List LI))))):=m_Ib_46 p0 a b c d e s.1 s.2.1 s.2.2.1 s.2.2.2.1 s.2.2.2.2
def m_Ib_36 (p0:LI) (a:Int×Ze) (g h:Int) (i:Bool) (c d f:Int) (j:(List LI)):Option (Zb):=
 if i then
  (m_Ic 5).bind fun k=>
  some k
 else
  (loopM (lp_Ib_46 p0 g h c d f) (0,a.2.b,a.2.at_,a.2.short,j)).bind fun e=>match e with | .inl e=>some e | .inr e=>m_Ib_327 p0 c d f e.1 e.2.1 e.2.2.1 e.2.2.2
def m_Ib_0 (p0:LI):Option (Zb):=
 if (decide ((p0.length:Int) > 60000)) then
  (m_Ic 1).bind fun d=>
  some d
 else
  (m_Il p0 (ByteArray.mk #[83,78,68,49])).bind fun d=>
  if (d != 0) then
   (m_Ic d).bind fun g=>
   some g
  else
   if (decide ((p0.length:Int) < 10)) then
    (m_Ic 2).bind fun b=>
    some b
   else
    (m_Iq (Ze.mk p0 32 false) 20).bind fun b=>
    (m_Iq b.2 5).bind fun e=>
    (m_Iq e.2 10).bind fun f=>
    (m_Iq f.2 1).bind fun a=>
    (m_Iq a.2 12).bind fun c=>
    (ck (decide ((0:Int)≤(w64 ((w64 a.1)+1))∧(w64 ((w64 a.1)+1))≤(5864062014805:Int)))).bind fun _=>
    (m_Id (Za.mk (w64 b.1) (w64 e.1) (w64 f.1) (List.replicate (Int.toNat (w64 ((w64 a.1)+1))) ([]:LI)))).bind fun h=>
    if h then
     m_Ib_36 p0 c (w64 ((w64 a.1)+1)) (w64 c.1) (decide ((w64 c.1) > 4000)) (w64 b.1) (w64 e.1) (w64 f.1) (List.replicate (Int.toNat (w64 ((w64 a.1)+1))) ([]:LI))
    else
     m_Ib_36 p0 c (w64 ((w64 a.1)+1)) (w64 c.1) true (w64 b.1) (w64 e.1) (w64 f.1) (List.replicate (Int.toNat (w64 ((w64 a.1)+1))) ([]:LI))
def m_Ib (p0:LI):Option (Zb):=m_Ib_0 p0
def m_Lb_31:Option (Bool):=
 some true
def m_Lb_15 (p0 p1:LI) (a:Int):Option ((Int)⊕((Bool)⊕((Unit)))):=
 if (decide (a < (p0.length:Int))) then
  (rd p0 a).bind fun b=>
  (rd p1 a).bind fun c=>
  if (b != c) then
   some (.inr (.inl false))
  else
   some (.inl (w64 (a+1)))
 else
  some (.inr (.inr ()))
def lp_Lb_15 (p0 p1:LI) (s:Int):Option ((Int)⊕((Bool)⊕((Unit)))):=m_Lb_15 p0 p1 s
def m_Lb_0 (p0 p1:LI):Option (Bool):=
 if ((p0.length:Int) != (p1.length:Int)) then
  some false
 else
  (loopM (lp_Lb_15 p0 p1) 0).bind fun e=>match e with | .inl e=>some e | .inr e=>m_Lb_31
def m_Lb (p0 p1:LI):Option (Bool):=m_Lb_0 p0 p1
def m_Lc_31:Option (Bool):=
 some true
def m_Lc_15 (p0:(List LI)) (p1:(List LI)) (a:Int):Option ((Int)⊕((Bool)⊕((Unit)))):=
 if (decide (a < (p0.length:Int))) then
  (rd p0 a).bind fun b=>
  (rd p1 a).bind fun c=>
  (m_Lb b c).bind fun d=>
  if d then
   some (.inl (w64 (a+1)))
  else
   some (.inr (.inl false))
 else
  some (.inr (.inr ()))
def lp_Lc_15 (p0:(List LI)) (p1:(List LI)) (s:Int):Option ((Int)⊕((Bool)⊕((Unit)))):=m_Lc_15 p0 p1 s
def m_Lc_0 (p0:(List LI)) (p1:(List LI)):Option (Bool):=
 if ((p0.length:Int) != (p1.length:Int)) then
  some false
 else
  (loopM (lp_Lc_15 p0 p1) 0).bind fun e=>match e with | .inl e=>some e | .inr e=>m_Lc_31
def m_Lc (p0:(List LI)) (p1:(List LI)):Option (Bool):=m_Lc_0 p0 p1
def m_Ld_0 (p0 p1:Za):Option (Bool):=
 if (p0.rate != p1.rate) then
  some false
 else
  if (p0.bits != p1.bits) then
   some false
  else
   if (p0.frame != p1.frame) then
    some false
   else
    (m_Lc p0.channels p1.channels).bind fun a=>
    if a then
     some true
    else
     some false
def m_Ld (p0 p1:Za):Option (Bool):=m_Ld_0 p0 p1
def m_Le_0 (p0 p1:Zb):Option (Bool):=
 if (p0.err != p1.err) then
  some false
 else
  (m_Ld p0.sound p1.sound).bind fun a=>
  if a then
   some true
  else
   some false
def m_Le (p0 p1:Zb):Option (Bool):=m_Le_0 p0 p1
def m_La_31:Option (Bool):=
 some true
def m_La_15 (p0 p1:LI) (a:Int):Option ((Int)⊕((Bool)⊕((Unit)))):=
 if (decide (a < (p0.length:Int))) then
  (rd p0 a).bind fun b=>
  (rd p1 a).bind fun c=>
  if (b != c) then
   some (.inr (.inl false))
  else
   some (.inl (w64 (a+1)))
 else
  some (.inr (.inr ()))
def lp_La_15 (p0 p1:LI) (s:Int):Option ((Int)⊕((Bool)⊕((Unit)))):=m_La_15 p0 p1 s
def m_La_0 (p0 p1:LI):Option (Bool):=
 if ((p0.length:Int) != (p1.length:Int)) then
  some false
 else
  (loopM (lp_La_15 p0 p1) 0).bind fun e=>match e with | .inl e=>some e | .inr e=>m_La_31
def m_La (p0 p1:LI):Option (Bool):=m_La_0 p0 p1
def m_Lj_19 (a:Int) (b:LI):Option (Int×LI):=
 some (a,b)
def m_Lj_7 (c a:Int) (b:LI):Option ((Int×Int×LI)⊕((Int×LI))):=
 if (decide (a < (b.length:Int))) then
  (rd b a).bind fun _=>
  some (.inl ((w64 (c+1)),(w64 (a+1)),(b.set (0+Int.toNat a) (wr .u8 c))))
 else
  some (.inr (c,b))
def lp_Lj_7 (s:Int×Int×LI):Option ((Int×Int×LI)⊕((Int×LI))):=m_Lj_7 s.1 s.2.1 s.2.2
def m_Lj_0 (p1:Int) (p0:LI):Option (Int×LI):=
 (loopM (lp_Lj_7) (p1,0,p0)).bind fun e=>m_Lj_19 e.1 e.2
def m_Lj (p0:LI) (p1:Int):Option (Int×LI):=m_Lj_0 p1 p0
def m_Lk_19 (a:Int) (b:LI):Option (Int×LI):=
 some (a,b)
def m_Lk_7 (c a:Int) (b:LI):Option ((Int×Int×LI)⊕((Int×LI))):=
 if (decide (a < (b.length:Int))) then
  (rd b a).bind fun _=>
  some (.inl ((w64 (c+1)),(w64 (a+1)),(b.set (0+Int.toNat a) c)))
 else
  some (.inr (c,b))
def lp_Lk_7 (s:Int×Int×LI):Option ((Int×Int×LI)⊕((Int×LI))):=m_Lk_7 s.1 s.2.1 s.2.2
def m_Lk_0 (p1:Int) (p0:LI):Option (Int×LI):=
 (loopM (lp_Lk_7) (p1,0,p0)).bind fun e=>m_Lk_19 e.1 e.2
def m_Lk (p0:LI) (p1:Int):Option (Int×LI):=m_Lk_0 p1 p0
def m_Ll_17 (a:Int) (b:(List LI)):Option (Int×(List LI)):=
 some (a,b)
def m_Ll_7 (d a:Int) (b:(List LI)):Option ((Int×Int×(List LI))⊕((Int×(List LI)))):=
 if (decide (a < (b.length:Int))) then
  (rd b a).bind fun e=>
  (m_Lk e d).bind fun c=>
  (ck (decide (c.2.length=e.length))).bind fun _=>
  some (.inl (c.1,(w64 (a+1)),(b.set (0+Int.toNat a) c.2)))
 else
  some (.inr (d,b))
def lp_Ll_7 (s:Int×Int×(List LI)):Option ((Int×Int×(List LI))⊕((Int×(List LI)))):=m_Ll_7 s.1 s.2.1 s.2.2
def m_Ll_0 (p1:Int) (p0:(List LI)):Option (Int×(List LI)):=
 (loopM (lp_Ll_7) (p1,0,p0)).bind fun e=>m_Ll_17 e.1 e.2
def m_Ll (p0:(List LI)) (p1:Int):Option (Int×(List LI)):=m_Ll_0 p1 p0
def m_Lm_0 (p0:Za) (p1:Int):Option (Int×Za):=
 (m_Ll p0.channels p1).bind fun a=>
 (ck (decide (a.2.length=p0.channels.length))).bind fun _=>
 some (a.1,(Za.mk p0.rate p0.bits p0.frame a.2))
def m_Lm (p0:Za) (p1:Int):Option (Int×Za):=m_Lm_0 p0 p1
def m_Ln_0 (p0:Zb) (p1:Int):Option (Int×Zb):=
 (m_Lm p0.sound p1).bind fun a=>
 (ck (decide (a.2.channels.length=p0.sound.channels.length))).bind fun _=>
 some (a.1,(Zb.mk p0.err (Za.mk p0.sound.rate p0.sound.bits p0.sound.frame a.2.channels)))
def m_Ln (p0:Zb) (p1:Int):Option (Int×Zb):=m_Ln_0 p0 p1
def m_Lf_25 (a:Int):Option (Int):=
 some a
def m_Lf_7 (p0:LI) (a b:Int):Option ((Int×Int)⊕((Int)⊕((Int)))):=
 if (decide (b < (p0.length:Int))) then
  (rd p0 b).bind fun c=>
  if (c != a) then
   some (.inr (.inl (-1)))
  else
   some (.inl ((w64 (a+1)),(w64 (b+1))))
 else
  some (.inr (.inr a))
def lp_Lf_7 (p0:LI) (s:Int×Int):Option ((Int×Int)⊕((Int)⊕((Int)))):=m_Lf_7 p0 s.1 s.2
def m_Lf_0 (p0:LI) (p1:Int):Option (Int):=
 (loopM (lp_Lf_7 p0) (p1,0)).bind fun e=>match e with | .inl e=>some e | .inr e=>m_Lf_25 e
def m_Lf (p0:LI) (p1:Int):Option (Int):=m_Lf_0 p0 p1
def m_Lg_25 (a:Int):Option (Int):=
 some a
def m_Lg_7 (p0:(List LI)) (b a:Int):Option ((Int×Int)⊕((Int)⊕((Int)))):=
 if (decide (a < (p0.length:Int))) then
  (rd p0 a).bind fun d=>
  (m_Lf d b).bind fun c=>
  if (decide (c < 0)) then
   some (.inr (.inl (-1)))
  else
   some (.inl (c,(w64 (a+1))))
 else
  some (.inr (.inr b))
def lp_Lg_7 (p0:(List LI)) (s:Int×Int):Option ((Int×Int)⊕((Int)⊕((Int)))):=m_Lg_7 p0 s.1 s.2
def m_Lg_0 (p0:(List LI)) (p1:Int):Option (Int):=
 (loopM (lp_Lg_7 p0) (p1,0)).bind fun e=>match e with | .inl e=>some e | .inr e=>m_Lg_25 e
def m_Lg (p0:(List LI)) (p1:Int):Option (Int):=m_Lg_0 p0 p1
def m_Lh_0 (p0:Za) (p1:Int):Option (Int):=
 (m_Lg p0.channels p1).bind fun a=>
 if (decide (a < 0)) then
  some (-1)
 else
  some a
def m_Lh (p0:Za) (p1:Int):Option (Int):=m_Lh_0 p0 p1
def m_Li_0 (p0:Zb) (p1:Int):Option (Int):=
 (m_Lh p0.sound p1).bind fun a=>
 if (decide (a < 0)) then
  some (-1)
 else
  some a
def m_Li (p0:Zb) (p1:Int):Option (Int):=m_Li_0 p0 p1
def m_laws_FnExactDecodeSound_0 (p0:LI):Option (Bool):=
 if (decide ((p0.length:Int) > 1048576)) then
  some true
 else
  (m_Lo p0).bind fun b=>
  (m_Sb b).bind fun f=>
  (m_Ib b).bind fun a=>
  (m_Le a f).bind fun g=>
  if g then
   (m_La b b).bind fun h=>
   if h then
    (m_Lj b 1).bind fun d=>
    (ck (decide (d.2.length=b.length))).bind fun _=>
    if (decide (d.1 < 0)) then
     some false
    else
     (m_Ln a 1).bind fun c=>
     (ck (decide (c.2.sound.channels.length=a.sound.channels.length))).bind fun _=>
     (m_Li (Zb.mk a.err (Za.mk a.sound.rate a.sound.bits a.sound.frame c.2.sound.channels)) 1).bind fun e=>
     if (decide (e < 0)) then
      some false
     else
      if (e != c.1) then
       some false
      else
       some true
   else
    some false
  else
   some false
def m_laws_FnExactDecodeSound (p0:LI):Option (Bool):=m_laws_FnExactDecodeSound_0 p0
end
end Go.Proofs.V

set_option linter.unusedSimpArgs false
namespace Go.Proofs.V
open Go
def bAt (b:List Int) (i:Nat):Nat:=((b.getD (i / 8) 0).toNat / 2 ^ (7 - i % 8)) % 2
def bV (b:List Int) (p:Nat):Nat→Nat
 | 0=>0
 | n+1=>2*bV b p n+bAt b (p+n)
def ByteL (b:List Int):Prop:=b.length≤60000∧∀ x ∈ b,0≤x∧x≤255
theorem bAt_lt (b:List Int) (i:Nat):bAt b i < 2:=Nat.mod_lt _ (by decide)
theorem bV_lt (b:List Int) (p:Nat):∀ n,bV b p n < 2 ^ n
 | 0=>by simp [bV]
 | n+1=>by have:=bV_lt b p n;have:=bAt_lt b (p+n);simp only [bV,Nat.pow_succ];omega
theorem byte_get {b:List Int} (hb:ByteL b) {i:Nat} (h:i < b.length):∃ n:Nat,b[i]=(n:Int)∧b.getD i 0=(n:Int)∧n≤255:=by
 have h1:=hb.2 b[i] (List.getElem_mem h)
 refine ⟨b[i].toNat,by omega,?_,by omega⟩
 rw [List.getD_eq_getElem?_getD,List.getElem?_eq_getElem h]
 simp only [Option.getD_some]
 omega
theorem z_bit {b:List Int} (hb:ByteL b) (p:Nat) (sh:Bool) (hp:p≤8*b.length):m_Io ⟨b,p,sh⟩ =
  if p < 8*b.length then some (((bAt b p:Nat):Int),Ze.mk b ((p+1:Nat):Int) sh) else some (0,Ze.mk b (p:Int) true):=by
 have hl:=hb.1
 unfold m_Io m_Io_0
 have e8:w64 (8*(b.length:Int))=((8*b.length:Nat):Int):=by rw [w64_id (by omega) (by omega)];omega
 simp only [e8,decide_eq_true_eq]
 by_cases h:p < 8*b.length
 ·rw [if_neg (by omega),if_pos h,div8d (by omega)]
  obtain ⟨n,e1,e2,e3⟩ :=byte_get hb (i:=p / 8) (by omega)
  rw [rd_eq (by omega:p / 8 < b.length),e1,mod8d]
  have e7:w64 (7 - ((p % 8:Nat):Int))=((7 - p % 8:Nat):Int):=by rw [w64_id (by omega) (by omega)];omega
  simp only [Option.bind_some,e7]
  rw [ck_eq (by omega)]
  simp only [Option.bind_some]
  rw [shr8 _ _ (by omega),and_one8 _ (Nat.le_trans (Nat.div_le_self _ _) e3),w64_id (by omega) (by omega),w64_id (by omega) (by omega)]
  unfold bAt
  rw [e2]
  simp
 ·rw [if_pos (by omega),if_neg h]
theorem s_bit {b:List Int} (hb:ByteL b) (p:Nat) (hp:p < 8*b.length):m_Ss b (p:Int) true=some ((bAt b p:Nat):Int):=by
 have hl:=hb.1
 unfold m_Ss m_Ss_0
 rw [if_pos rfl,div8d (by omega)]
 obtain ⟨n,e1,e2,e3⟩ :=byte_get hb (i:=p / 8) (by omega)
 unfold bAt
 rw [rd_eq (by omega:p / 8 < b.length),e1,e2,mod8d,Int.toNat_natCast]
 have e7:w64 (7 - ((p % 8:Nat):Int))=((7 - p % 8:Nat):Int):=by rw [w64_id (by omega) (by omega)];omega
 have e7' : wr .u64 ((7 - p % 8:Nat):Int)=((7 - p % 8:Nat):Int):=wu64_id (by omega) (by omega)
 simp only [Option.bind_some,e7,e7']
 rw [ck_eq (by omega)]
 simp only [Option.bind_some]
 have hd:n / 2 ^ (7 - p % 8)≤255:=Nat.le_trans (Nat.div_le_self _ _) e3
 rw [shr8 _ _ (by omega)]
 generalize n / 2 ^ (7 - p % 8)=m at hd
 rw [wu64_id (by omega) (by omega),and_one64 _ hd]
theorem z_take {b:List Int} (hb:ByteL b) (p k:Nat) (sh:Bool) (hp:p≤8*b.length) (hk:k≤32) (h:p+k≤8*b.length) :
  m_Iq ⟨b,p,sh⟩ k=some (((bV b p k:Nat):Int),Ze.mk b ((p+k:Nat):Int) sh):=by
 have hl:=hb.1
 unfold m_Iq m_Iq_0
 have key:loopM (lp_Iq_9 (k:Int)) (0,0,b,(p:Int),sh)=some (((bV b p k:Nat):Int),b,((p+k:Nat):Int),sh):=by
  refine loopM_fun (fun i (s:Nat)=>((s:Int),(i:Int),b,((p+i:Nat):Int),sh)) k (fun i=>bV b p i) (e:=(((bV b p k:Nat):Int),b,((p+k:Nat):Int),sh)) (fun i hi=>?_) ?_
  ·have h1:=bV_lt b p i
   have h2:2 ^ i≤2 ^ 32:=Nat.pow_le_pow_right (by decide) (by omega)
   have h3:=bAt_lt b (p+i)
   simp only [lp_Iq_9,m_Iq_9,decide_eq_true_eq]
   rw [if_pos (by omega),z_bit hb (p+i) sh (by omega),if_pos (by omega)]
   simp only [Option.bind_some]
   have e1:=shl64 (bV b p i) 1 (by omega) (by omega)
   have e2:wr .u64 ((bAt b (p+i):Nat):Int)=((bAt b (p+i):Nat):Int):=wu64_id (by omega) (by omega)
   rw [show ((1:Nat):Int)=1 from rfl] at e1
   rw [e1,e2,or64 _ _ (by omega) (by omega),or_nat _ _ 1 (by omega),w64_succ (by omega)]
   simp only [bV]
   congr 4
   omega
  ·simp only [lp_Iq_9,m_Iq_9,decide_eq_true_eq]
   rw [if_neg (by omega)]
 show (loopM (lp_Iq_9 (k:Int)) (0,0,b,(p:Int),sh)).bind _=_
 rw [key]
 rfl
end Go.Proofs.V

namespace Go.Proofs.V
open Go
theorem s_l1 {b:List Int} (hb:ByteL b) (p k:Nat) (hp:p≤8*b.length) (hk:k≤32):m_St b (p:Int) (k:Int) true =
  if p+k≤8*b.length then some (Zd.mk true ((bV b p k:Nat):Int) ((p+k:Nat):Int)) else some (Zd.mk false 0 0):=by
 have hl:=hb.1
 have e8:w64 (8*(b.length:Int))=((8*b.length:Nat):Int):=by rw [w64_id (by omega) (by omega)];omega
 have e9:w64 (((8*b.length:Nat):Int) - (p:Int))=((8*b.length - p:Nat):Int):=by rw [w64_id (by omega) (by omega)];omega
 unfold m_St m_St_0
 simp only [decide_eq_true_eq,e8,e9]
 rw [if_neg (by omega),if_neg (by omega),if_neg (by omega),if_neg (by omega)]
 unfold m_St_5
 by_cases h:p+k≤8*b.length
 ·rw [if_pos h,if_neg (by simp only [decide_eq_true_eq];omega)]
  have key:loopM (lp_St_17 b (p:Int) (k:Int) true) (0,0)=some ((bV b p k:Nat):Int):=by
   refine loopM_fun (fun i (s:Nat)=>((s:Int),(i:Int))) k (fun i=>bV b p i) (e:=((bV b p k:Nat):Int)) (fun i hi=>?_) ?_
   ·have h1:=bV_lt b p i
    have h2:2 ^ i≤2 ^ 32:=Nat.pow_le_pow_right (by decide) (by omega)
    have h3:=bAt_lt b (p+i)
    simp only [lp_St_17,m_St_17,decide_eq_true_eq]
    have e0:w64 ((p:Int)+(i:Int))=((p+i:Nat):Int):=by rw [w64_id (by omega) (by omega)];omega
    rw [if_pos (by omega),e0,s_bit hb (p+i) (by omega)]
    simp only [Option.bind_some,if_true]
    have e1:wr .u64 (((bV b p i:Nat):Int)*2)=((bV b p i*2:Nat):Int):=by rw [wu64_id (by omega) (by omega)];omega
    have e2:wr .u64 (((bV b p i*2:Nat):Int)+((bAt b (p+i):Nat):Int))=((bV b p (i+1):Nat):Int):=by
     simp only [bV]
     rw [wu64_id (by omega) (by omega)];omega
    rw [e1,e2,w64_succ (by omega)]
   ·simp only [lp_St_17,m_St_17,decide_eq_true_eq]
    rw [if_neg (by omega)]
  rw [key]
  simp only [Option.bind_some,m_St_33]
  rw [w64_id (by omega) (by omega)]
  congr 2
 ·rw [if_neg h,if_pos (by simp only [decide_eq_true_eq];omega)]
def stand (e n:Int):Int:=if e=0 then n else e
theorem s_fail (b:List Int) (p e n:Int):m_Sj ⟨b,p,e⟩ n=some ⟨b,p,stand e n⟩ :=by
 unfold m_Sj m_Sj_0 stand
 by_cases h:e=0
 ·subst h;rfl
 ·simp [h]
theorem s_take {b:List Int} (hb:ByteL b) (p k:Nat) (e:Int) (hp:p≤8*b.length) (hk:k≤32):m_Sq ⟨b,p,e⟩ k =
  if e=0 then (if p+k≤8*b.length then some (((bV b p k:Nat):Int),Zc.mk b ((p+k:Nat):Int) 0) else some (0,Zc.mk b (p:Int) 2)) else some (0,Zc.mk b (p:Int) e):=by
 have h1:=bV_lt b p k
 have h2:2 ^ k≤2 ^ 32:=Nat.pow_le_pow_right (by decide) (by omega)
 unfold m_Sq m_Sq_0
 simp only [s_l1 hb p k hp hk,s_fail]
 by_cases h:p+k≤8*b.length
 ·by_cases he:e=0
  ·subst he
   simp only [if_pos h,Option.bind_some,if_true,m_Sq_10]
   simp
   exact w64_id (by omega) (by omega)
  ·simp only [if_pos h,Option.bind_some,if_true,m_Sq_10,if_neg he]
   simp [he]
 ·by_cases he:e=0
  ·subst he
   simp only [if_neg h,Option.bind_some,m_Sq_10,stand]
   simp
  ·simp only [if_neg h,Option.bind_some,m_Sq_10,stand,if_neg he]
   simp [he]
end Go.Proofs.V

namespace Go.Proofs.V
open Go
theorem z_short {b:List Int} (hb:ByteL b) (p k:Nat) (sh:Bool) (hp:p≤8*b.length) (hk:k≤32) (h : ¬ p+k≤8*b.length) :
  ∃ v:Int,m_Iq ⟨b,p,sh⟩ k=some (v,Ze.mk b ((8*b.length:Nat):Int) true):=by
 have hl:=hb.1
 obtain ⟨e,key,hR⟩:∃ e,loopM (lp_Iq_9 (k:Int)) (0,0,b,(p:Int),sh)=some e∧e.2=(b,((8*b.length:Nat):Int),true):=by
  refine loopM_inv (fun i (s:Int×Nat×Bool)=>(s.1,(i:Int),b,(s.2.1:Int),s.2.2)) k (fun i s=>s.2.1=min (p+i) (8*b.length)∧(8*b.length < p+i→s.2.2=true)) (fun (e:Int×List Int×Int×Bool)=>e.2=(b,((8*b.length:Nat):Int),true)) (fun i s hi hI=>.inl ?_) (fun s hI=>?_) (s:=((0:Int),p,sh)) ?_
  ·obtain ⟨v,q,t⟩ :=s
   obtain ⟨h1,h2⟩ :=hI
   simp only at h1 h2
   simp only [lp_Iq_9,m_Iq_9,decide_eq_true_eq]
   rw [if_pos (by omega),z_bit hb q t (by omega)]
   by_cases hq:q < 8*b.length
   ·rw [if_pos hq]
    simp only [Option.bind_some]
    rw [w64_succ (by omega)]
    exact ⟨(_,q+1,t),rfl,by simp only;omega,fun h=>by omega⟩
   ·rw [if_neg hq]
    simp only [Option.bind_some]
    rw [w64_succ (by omega)]
    exact ⟨(_,q,true),rfl,by simp only;omega,fun h=>rfl⟩
  ·obtain ⟨v,q,t⟩ :=s
   obtain ⟨h1,h2⟩ :=hI
   simp only at h1 h2
   simp only [lp_Iq_9,m_Iq_9,decide_eq_true_eq]
   rw [if_neg (by omega)]
   refine ⟨_,rfl,?_⟩
   have e1:min (p+k) (8*b.length)=8*b.length:=by omega
   rw [h2 (by omega),h1,e1]
  ·exact ⟨by simp only;omega,fun h=>by omega⟩
 refine ⟨e.1,?_⟩
 show (loopM (lp_Iq_9 (k:Int)) (0,0,b,(p:Int),sh)).bind _=_
 rw [key]
 simp only [Option.bind_some,m_Iq_19,hR]
end Go.Proofs.V

namespace Go.Proofs.V
open Go
def unf (n:Nat):Int:=if n % 2=1 then -((n / 2:Nat):Int) - 1 else ((n / 2:Nat):Int)
theorem s_unfold (n:Nat) (h:n < 2 ^ 62):m_Sd (n:Int)=some (unf n):=by
 unfold m_Sd m_Sd_0 unf
 have e1:Int.tmod (n:Int) 2=((n % 2:Nat):Int):=by rw [Int.tmod_eq_emod_of_nonneg (by omega)];omega
 have e2:Int.tdiv (n:Int) 2=((n / 2:Nat):Int):=by rw [Int.tdiv_eq_ediv_of_nonneg (by omega)];omega
 have e3:w64 (wr .u64 ((n / 2:Nat):Int))=((n / 2:Nat):Int):=by rw [wu64_id (by omega) (by omega),w64_id (by omega) (by omega)]
 have e4:w64 (w64 (0 - ((n / 2:Nat):Int)) - 1) = -((n / 2:Nat):Int) - 1:=by
  rw [w64_id (x:=0 - _) (by omega) (by omega),w64_id (by omega) (by omega)];omega
 simp only [e1,e2,e3,e4,beq_iff_eq]
 by_cases h1:n % 2=1
 ·rw [if_pos (by omega),if_pos h1]
 ·rw [if_neg (by omega),if_neg h1]
theorem xor_onesd (x:Nat) (h:x < 2 ^ 64):(BitVec.ofNat 64 x ^^^ BitVec.allOnes 64).toNat=2 ^ 64 - 1 - x:=by
 rw [BitVec.xor_allOnes,BitVec.toNat_not,BitVec.toNat_ofNat,Nat.mod_eq_of_lt h]
theorem and_one64' (n:Nat) (h:n < 2 ^ 63):andI .u64 (n:Int) 1=((n % 2:Nat):Int):=by
 unfold andI
 have h1:(BitVec.ofInt IntKind.u64.bits (n:Int) &&& BitVec.ofInt IntKind.u64.bits 1).toNat=n % 2:=by
  show (BitVec.ofInt 64 (n:Int) &&& BitVec.ofNat 64 1).toNat=n % 2
  rw [BitVec.ofInt_natCast,BitVec.toNat_and,BitVec.toNat_ofNat,BitVec.toNat_ofNat,Nat.mod_eq_of_lt (by omega:n < 2 ^ 64)]
  exact Nat.and_one_is_mod n
 rw [h1]
 exact wu64_id (by omega) (by omega)
theorem z_unfold (n:Nat) (h:n < 2 ^ 62):m_If (n:Int)=some (unf n):=by
 unfold m_If m_If_0 unf
 have e1:w64 (shrI .u64 (n:Int) 1)=((n / 2:Nat):Int):=by
  unfold shrI
  rw [show (2:Int) ^ min (Int.toNat 1) IntKind.u64.bits=2 from rfl,Int.fdiv_eq_ediv_of_nonneg _ (by omega),w64_id (by omega) (by omega)]
  omega
 rw [e1,and_one64' n (by omega),w64_id (x:=((n % 2:Nat):Int)) (by omega) (by omega),w64_id (x:=0 - ((n % 2:Nat):Int)) (by omega) (by omega)]
 by_cases h1:n % 2=1
 ·rw [if_pos h1,h1]
  have e3:xorI .i64 ((n / 2:Nat):Int) (-1) = -((n / 2:Nat):Int) - 1:=by
   have e7:=xor_onesd (n / 2) (by omega)
   unfold xorI
   show IntKind.i64.wrap ((BitVec.ofInt 64 ((n / 2:Nat):Int) ^^^ BitVec.allOnes 64).toNat:Int)=_
   rw [BitVec.ofInt_natCast,e7]
   have e8:∀ x:Nat,x < 2 ^ 62→IntKind.i64.wrap ((2 ^ 64 - 1 - x:Nat):Int) = -(x:Int) - 1:=by
    intro x hx
    unfold IntKind.wrap
    simp [IntKind.bits,IntKind.signed]
    omega
   exact e8 _ (by omega)
  exact congrArg some e3
 ·rw [if_neg h1,show n % 2=0 by omega]
  have e3:xorI .i64 ((n / 2:Nat):Int) 0=((n / 2:Nat):Int):=by
   unfold xorI
   show IntKind.i64.wrap ((BitVec.ofInt 64 ((n / 2:Nat):Int) ^^^ 0#64).toNat:Int)=_
   rw [BitVec.xor_zero,BitVec.ofInt_natCast,BitVec.toNat_ofNat,Nat.mod_eq_of_lt (by omega)]
   exact w64_id (by omega) (by omega)
  exact congrArg some e3
end Go.Proofs.V

namespace Go.Proofs.V
open Go
theorem bAt_in {b:List Int} (i j:Nat) (hj:j < 8):bAt b (8*i+j)=((b.getD i 0).toNat / 2 ^ (7 - j)) % 2:=by
 unfold bAt
 rw [show (8*i+j) / 8=i by omega,show (8*i+j) % 8=j by omega]
theorem bV_byte {b:List Int} (hb:ByteL b) (i:Nat) (hi:i < b.length):((bV b (8*i) 8:Nat):Int)=b[i]:=by
 obtain ⟨n,e1,e2,e3⟩ :=byte_get hb hi
 rw [e1]
 simp only [bV]
 rw [bAt_in i 0 (by omega),bAt_in i 1 (by omega),bAt_in i 2 (by omega),bAt_in i 3 (by omega),bAt_in i 4 (by omega),bAt_in i 5 (by omega),bAt_in i 6 (by omega),bAt_in i 7 (by omega),e2]
 simp
 omega
end Go.Proofs.V

namespace Go.Proofs.V
open Go
def magE (b:List Int) (i:Nat):List Int→Int
 | []=>0
 | m::ms=>if i < b.length then (if b.getD i 0=m then magE b (i+1) ms else 4) else 2
def zRes (r:Int):Int⊕Unit:=if r=0 then .inr () else .inl r
def zM:ByteArray:=ByteArray.mk #[83,78,68,49]
theorem z_mag_step (b:List Int) (i:Nat) (m:Int) (ms:List Int) (hi:i < 4) (hl:b.length≤60000) (hm:sat zM (i:Int)=some m)
  (ih:loopM (lp_Il_7 b zM) ((i+1:Nat):Int)=some (zRes (magE b (i+1) ms))) :
  loopM (lp_Il_7 b zM) (i:Int)=some (zRes (magE b i (m::ms))):=by
 rw [loopM_eq]
 have e4:(zM.size:Int)=4:=rfl
 simp only [lp_Il_7,m_Il_7,e4,decide_eq_true_eq]
 rw [if_pos (by omega)]
 by_cases h:i < b.length
 ·rw [if_neg (by omega),rd_eq h,hm]
  simp only [Option.bind_some]
  have e1:b.getD i 0=b[i]:=by rw [List.getD_eq_getElem?_getD,List.getElem?_eq_getElem h];rfl
  by_cases h2:b[i]=m
  ·have eM:magE b i (m::ms)=magE b (i+1) ms:=by simp only [magE,if_pos h,e1,if_pos h2]
   rw [if_neg (by simp [h2]),eM,w64_succ (by omega)]
   exact ih
  ·have eM:magE b i (m::ms)=4:=by simp only [magE,if_pos h,e1,if_neg h2]
   rw [if_pos (by simp [h2]),eM]
   rfl
 ·have eM:magE b i (m::ms)=2:=by simp only [magE,if_neg h]
  rw [if_pos (by omega),eM]
  rfl
theorem z_mag (b:List Int) (hl:b.length≤60000):m_Il b zM=some (magE b 0 [83,78,68,49]):=by
 have h4:loopM (lp_Il_7 b zM) ((4:Nat):Int)=some (zRes (magE b 4 [])):=by
  rw [loopM_eq];rfl
 have h3:=z_mag_step b 3 49 [] (by omega) hl rfl h4
 have h2:=z_mag_step b 2 68 [49] (by omega) hl rfl h3
 have h1:=z_mag_step b 1 78 [68,49] (by omega) hl rfl h2
 have h0:=z_mag_step b 0 83 [78,68,49] (by omega) hl rfl h1
 unfold m_Il m_Il_0
 show (loopM (lp_Il_7 b zM) ((0:Nat):Int)).bind _=_
 rw [h0]
 by_cases h:magE b 0 [83,78,68,49]=0
 ·rw [h];rfl
 ·have e:zRes (magE b 0 [83,78,68,49]) = .inl (magE b 0 [83,78,68,49]):=if_neg h
  rw [e]
  rfl
end Go.Proofs.V

namespace Go.Proofs.V
open Go
def MK:List Int:=[83,78,68,49]
def MarkAt (b:List Int) (i:Nat) (ms:List Int):Prop:=∀ (p:Nat) (e:Int),p≤8*b.length→(e=0→p=8*i)→
 ∃ p' : Nat,loopM (lp_Sn_4 MK) ((i:Int),b,(p:Int),e)=some (Zc.mk b (p' : Int) (if e=0 then magE b i ms else e))∧p'≤8*b.length∧((if e=0 then magE b i ms else e)=0→p' = 32)
theorem s_mark_step {b:List Int} (hb:ByteL b) (i:Nat) (m:Int) (ms:List Int) (hi:i < 4) (hm:MK[i]? = some m) (hr:0≤m∧m≤255) (ih:MarkAt b (i+1) ms):MarkAt b i (m::ms):=by
 intro p e hp he
 have hl:=hb.1
 rw [loopM_eq]
 simp only [lp_Sn_4,m_Sn_4,decide_eq_true_eq]
 have e4:(MK.length:Int)=4:=rfl
 rw [if_pos (by omega)]
 have hlen:i < MK.length:=by simp [MK];omega
 have hm' : MK[i]=m:=by rw [List.getElem?_eq_getElem hlen] at hm;simpa using hm
 rw [rd_eq hlen,hm']
 simp only [Option.bind_some]
 have h8:=s_take hb p 8 e hp (by omega)
 rw [show ((8:Nat):Int)=8 from rfl] at h8
 rw [h8]
 by_cases h0:e=0
 ·have hp8:=he h0
  subst hp8
  subst h0
  simp only [if_true]
  by_cases h:i < b.length
  ·rw [if_pos (by omega)]
   have hv:=bV_byte hb i h
   have e1:b.getD i 0=b[i]:=by rw [List.getD_eq_getElem?_getD,List.getElem?_eq_getElem h];rfl
   by_cases h2:b[i]=m
   ·have eM:magE b i (m::ms)=magE b (i+1) ms:=by simp only [magE,if_pos h,e1,if_pos h2]
    obtain ⟨p',k1,k2,k3⟩ :=ih (8*i+8) 0 (by omega) (fun _=>by omega)
    simp only [if_true] at k1 k3
    refine ⟨p',?_,k2,by rw [eM];exact k3⟩
    rw [eM,←k1]
    simp only [Option.bind_some,m_Sn_18,hv,h2,w64_id (x:=m) (by omega) (by omega),w64_succ (by omega:i < 4611686018427387904)]
    simp
   ·have eM:magE b i (m::ms)=4:=by simp only [magE,if_pos h,e1,if_neg h2]
    obtain ⟨p',k1,k2,k3⟩ :=ih (8*i+8) 4 (by omega) (fun h=>by omega)
    rw [if_neg (by decide)] at k1
    refine ⟨p',?_,k2,by rw [eM];exact fun h=>by omega⟩
    rw [eM,←k1]
    simp only [Option.bind_some,m_Sn_18,hv,w64_id (x:=m) (by omega) (by omega),w64_succ (by omega:i < 4611686018427387904),s_fail,stand]
    simp [h2]
  ·rw [if_neg (by omega)]
   have eM:magE b i (m::ms)=2:=by simp only [magE,if_neg h]
   obtain ⟨p',k1,k2,k3⟩ :=ih (8*i) 2 (by omega) (fun h=>by omega)
   rw [if_neg (by decide)] at k1
   refine ⟨p',?_,k2,by rw [eM];exact fun h=>by omega⟩
   rw [eM,←k1]
   simp only [Option.bind_some,m_Sn_18,w64_succ (by omega:i < 4611686018427387904)]
   simp
 ·obtain ⟨p',k1,k2,k3⟩ :=ih p e (by omega) (fun h=>absurd h h0)
  simp only [if_neg h0] at k1 k3 ⊢
  refine ⟨p',?_,k2,k3⟩
  rw [←k1]
  simp only [Option.bind_some,m_Sn_18,w64_succ (by omega:i < 4611686018427387904)]
  simp [h0]
theorem s_mark {b:List Int} (hb:ByteL b):∃ p' : Nat,m_Sn ⟨b,0,0⟩ [83,78,68,49]=some (Zc.mk b (p' : Int) (magE b 0 [83,78,68,49]))∧p'≤8*b.length∧(magE b 0 [83,78,68,49]=0→p' = 32):=by
 have h4:MarkAt b 4 []:=by
  intro p e hp he
  refine ⟨p,?_,hp,fun h=>?_⟩
  ·rw [loopM_eq]
   have e1:(if e=0 then magE b 4 [] else e)=e:=by split <;> simp_all [magE]
   rw [e1]
   rfl
  ·have e1:(if e=0 then magE b 4 [] else e)=e:=by split <;> simp_all [magE]
   rw [e1] at h
   exact he h
 have h3:=s_mark_step hb 3 49 [] (by omega) rfl (by omega) h4
 have h2:=s_mark_step hb 2 68 [49] (by omega) rfl (by omega) h3
 have h1:=s_mark_step hb 1 78 [68,49] (by omega) rfl (by omega) h2
 have h0:=s_mark_step hb 0 83 [78,68,49] (by omega) rfl (by omega) h1
 obtain ⟨p',k1,k2,k3⟩ :=h0 0 0 (by omega) (fun _=>rfl)
 simp only [if_true] at k1 k3
 refine ⟨p',?_,k2,k3⟩
 unfold m_Sn m_Sn_0
 show (loopM (lp_Sn_4 MK) (((0:Nat):Int),b,((0:Nat):Int),0)).bind _=_
 rw [k1]
 rfl
end Go.Proofs.V

namespace Go.Proofs.V
open Go
def fillN (b:List Int) (p:Nat):Nat→Bool
 | 0=>true
 | n+1=>decide (bAt b p=0)&&fillN b (p+1) n
theorem mod8f (n:Nat):Int.tmod (n:Int) 8=((n % 8:Nat):Int):=mod8d n
theorem z_fill_loop {b:List Int} (hb:ByteL b) (sh:Bool):∀ (n p:Nat) (f:Bool),p≤8*b.length→(8 - p % 8) % 8=n→
  loopM lp_Ip_7 (f,b,(p:Int),sh)=some (f&&fillN b p n,b,((p+n:Nat):Int),sh)
 | 0,p,f,hp,hn=>by
  rw [loopM_eq]
  simp only [lp_Ip_7,m_Ip_7,mod8d]
  have h:p % 8=0:=by omega
  simp [h,fillN]
 | n+1,p,f,hp,hn=>by
  rw [loopM_eq]
  simp only [lp_Ip_7,m_Ip_7,mod8d]
  have h:p % 8≠0:=by omega
  have h' : (((p % 8:Nat):Int) != 0)=true:=by simp;omega
  rw [if_pos h',z_bit hb p sh hp,if_pos (by omega)]
  simp only [Option.bind_some,fillN]
  have ih:=fun f=>z_fill_loop hb sh n (p+1) f (by omega) (by omega)
  by_cases h1:bAt b p=0
  ·have h2:(((bAt b p:Nat):Int) == 0)=true:=by simp [h1]
   rw [if_pos h2]
   simp only
   rw [ih f]
   simp [h1]
   omega
  ·have h2 : ¬ (((bAt b p:Nat):Int) == 0)=true:=by simp [h1]
   rw [if_neg h2]
   simp only
   rw [ih false]
   simp [h1]
   omega
theorem z_fill {b:List Int} (hb:ByteL b) (sh:Bool) (p:Nat) (hp:p≤8*b.length):m_Ip ⟨b,p,sh⟩=some (fillN b p ((8 - p % 8) % 8),Ze.mk b ((p+(8 - p % 8) % 8:Nat):Int) sh):=by
 unfold m_Ip m_Ip_0
 show (loopM lp_Ip_7 (true,b,(p:Int),sh)).bind _=_
 rw [z_fill_loop hb sh _ p true hp rfl]
 simp [m_Ip_15]
theorem s_fill_loop {b:List Int} (hb:ByteL b):∀ (n p:Nat),p≤8*b.length→(8 - p % 8) % 8=n→
  ∃ p' : Nat,loopM lp_Sk_2 (b,(p:Int),0)=some (Zc.mk b (p' : Int) (if fillN b p n then 0 else 4))∧(fillN b p n=true→p' = p+n)
 | 0,p,hp,hn=>by
  refine ⟨p,?_,fun _=>rfl⟩
  rw [loopM_eq]
  simp only [lp_Sk_2,m_Sk_2,mod8d]
  have h:p % 8=0:=by omega
  simp [h,fillN]
 | n+1,p,hp,hn=>by
  have h:p % 8≠0:=by omega
  have h' : (((p % 8:Nat):Int) != 0)=true:=by simp;omega
  have h1:=s_take hb p 1 0 hp (by omega)
  rw [if_pos rfl,if_pos (by omega),show ((1:Nat):Int)=1 from rfl] at h1
  have hv:bV b p 1=bAt b p:=by simp [bV]
  rw [hv] at h1
  obtain ⟨p',k1,k2⟩ :=s_fill_loop hb n (p+1) (by omega) (by omega)
  by_cases h2:bAt b p=0
  ·refine ⟨p',?_,fun hf=>?_⟩
   ·rw [loopM_eq]
    simp only [lp_Sk_2,m_Sk_2,mod8d]
    rw [if_pos h',if_pos (show ((0:Int) == 0)=true from rfl),h1]
    simp only [Option.bind_some,h2]
    simp only [fillN,h2]
    simpa using k1
   ·have:=k2 (by simpa [fillN,h2] using hf)
    omega
  ·have h3:bAt b p=1:=by have:=bAt_lt b p;omega
   refine ⟨p+1,?_,fun hf=>by simp [fillN,h2] at hf⟩
   rw [loopM_eq]
   simp only [lp_Sk_2,m_Sk_2,mod8d]
   rw [if_pos h',if_pos (show ((0:Int) == 0)=true from rfl),h1]
   simp only [Option.bind_some,h3,s_fail,stand]
   have e1:fillN b p (n+1)=false:=by simp [fillN,h3]
   rw [e1]
   simp
   rw [loopM_eq]
   simp [lp_Sk_2,m_Sk_2]
end Go.Proofs.V

set_option linter.unusedSectionVars false
namespace Go.Proofs.V
open Go
theorem lp_step {τ ε:Type} {b:τ→Option (τ⊕ε)} {s s' : τ} (h:b s=some (.inl s')):loopM b s=loopM b s':=by rw [loopM_eq,h]
theorem lp_end {τ ε:Type} {b:τ→Option (τ⊕ε)} {s:τ} {e:ε} (h:b s=some (.inr e)):loopM b s=some e:=by rw [loopM_eq,h]
abbrev RdA (α:Type):=Except Int (α×Nat)
def tkE (b:List Int) (k p:Nat):RdA Int:=if p+k≤8*b.length then .ok (((bV b p k:Nat):Int),p+k) else .error 2
def SR {α:Type} (b:List Int) (X:RdA α) (v:α) (r:Zc):Prop:=match X with | .ok (v',p)=>v=v'∧r=Zc.mk b p 0∧p≤8*b.length | .error c=>c≠0∧∃ p:Nat,r=Zc.mk b p c∧p≤8*b.length
def ZR {α:Type} (b:List Int) (X:RdA α) (v:α) (r:Ze):Prop:=match X with | .ok (v',p)=>v=v'∧r=Ze.mk b p false∧p≤8*b.length | .error _=>∃ p:Nat,r=Ze.mk b p true∧p≤8*b.length
def sgnN (k:Nat) (v:Int):Int:=if 2 ^ (k - 1)≤v then v - 2 ^ k else v
def sgE (b:List Int) (k p:Nat):RdA Int:=match tkE b k p with | .ok (v,q)=>.ok (sgnN k v,q) | .error c=>.error c
section
variable {b:List Int} (hb:ByteL b)
theorem bV32 (p k:Nat) (hk:k≤32):bV b p k < 2 ^ k∧2 ^ k≤4294967296:=⟨bV_lt b p k,Nat.pow_le_pow_right (by decide) hk⟩
theorem tkE_le {k p q:Nat} {v:Int} (h:tkE b k p = .ok (v,q)):q=p+k∧q≤8*b.length∧v=((bV b p k:Nat):Int):=by
 unfold tkE at h
 split at h
 ·simp at h;obtain ⟨rfl,rfl⟩ :=h;exact ⟨rfl,by assumption,rfl⟩
 ·simp at h
theorem sgE_le {k p q:Nat} {v:Int} (h:sgE b k p = .ok (v,q)):q=p+k∧q≤8*b.length:=by
 unfold sgE at h
 cases hq:tkE b k p with
 | error c=>rw [hq] at h;simp at h
 | ok r=>obtain ⟨w,q'⟩ :=r;rw [hq] at h;simp at h;obtain ⟨_,rfl⟩ :=h;exact ⟨(tkE_le hq).1,(tkE_le hq).2.1⟩
include hb
theorem s_tk (p k:Nat) (hp:p≤8*b.length) (hk:k≤32):∃ v r,m_Sq ⟨b,p,0⟩ k=some (v,r)∧SR b (tkE b k p) v r:=by
 rw [s_take hb p k 0 hp hk,if_pos rfl]
 unfold tkE
 by_cases h:p+k≤8*b.length
 ·rw [if_pos h,if_pos h];exact ⟨_,_,rfl,rfl,rfl,h⟩
 ·rw [if_neg h,if_neg h];exact ⟨_,_,rfl,by decide,p,rfl,hp⟩
theorem s_tk_bad (p k:Nat) (hp:p≤8*b.length) (hk:k≤32) (c:Int) (hc:c≠0):m_Sq ⟨b,p,c⟩ k=some (0,Zc.mk b p c):=by
 rw [s_take hb p k c hp hk,if_neg hc]
theorem z_tk (p k:Nat) (hp:p≤8*b.length) (hk:k≤32):∃ v r,m_Iq ⟨b,p,false⟩ k=some (v,r)∧ZR b (tkE b k p) v r:=by
 unfold tkE
 by_cases h:p+k≤8*b.length
 ·rw [z_take hb p k false hp hk h,if_pos h];exact ⟨_,_,rfl,rfl,rfl,h⟩
 ·obtain ⟨v,h1⟩ :=z_short hb p k false hp hk h
  rw [h1,if_neg h];exact ⟨_,_,rfl,8*b.length,rfl,Nat.le_refl _⟩
theorem z_tk_bad (p k:Nat) (hp:p≤8*b.length) (hk:k≤32):∃ (v:Int) (q:Nat),m_Iq ⟨b,p,true⟩ k=some (v,Ze.mk b q true)∧q≤8*b.length:=by
 by_cases h:p+k≤8*b.length
 ·rw [z_take hb p k true hp hk h];exact ⟨_,_,rfl,h⟩
 ·obtain ⟨v,h1⟩ :=z_short hb p k true hp hk h
  rw [h1];exact ⟨_,_,rfl,Nat.le_refl _⟩
omit hb in
theorem shl1 (k:Nat) (hk:k≤32):shlI .i64 1 (wr .u64 (k:Int))=((2 ^ k:Nat):Int)∧shlI .i64 1 (k:Int)=((2 ^ k:Nat):Int):=by
 have h2:2 ^ k≤2 ^ 32:=Nat.pow_le_pow_right (by decide) hk
 have:=shl64i 1 k (by omega) (by omega)
 rw [Nat.one_mul,show ((1:Nat):Int)=1 from rfl] at this
 rw [wu64_id (by omega) (by omega)]
 exact ⟨this,this⟩
theorem s_sg (p k:Nat) (hp:p≤8*b.length) (hk1:1≤k) (hk:k≤32):∃ v r,m_Sp ⟨b,p,0⟩ k=some (v,r)∧SR b (sgE b k p) v r:=by
 dsimp only [m_Sp,m_Sp_0]
 obtain ⟨v,r,h1,g1⟩ :=s_tk hb p k hp hk
 have h2:2 ^ k≤2 ^ 32:=Nat.pow_le_pow_right (by decide) hk
 have h3:2 ^ (k - 1)≤2 ^ 32:=Nat.pow_le_pow_right (by decide) (by omega)
 rw [h1]
 simp only [Option.bind_some]
 rw [w64_id (x:=(k:Int) - 1) (by omega) (by omega),show (k:Int) - 1=((k - 1:Nat):Int) by omega,wu64_id (x:=((k - 1:Nat):Int)) (by omega) (by omega),ck_eq (by omega)]
 simp only [Option.bind_some]
 rw [(shl1 (k - 1) (by omega)).2,wu64_id (x:=(k:Int)) (by omega) (by omega),(shl1 k hk).2,ck_eq (by omega)]
 simp only [Option.bind_some]
 unfold sgE
 cases hq:tkE b k p with
 | error c=>
  rw [hq] at g1
  refine ⟨if decide (v≥((2 ^ (k - 1):Nat):Int))=true then w64 (v - ((2 ^ k:Nat):Int)) else v,r,?_,g1⟩
  split <;> rfl
 | ok x=>
  obtain ⟨v',q⟩ :=x
  rw [hq] at g1
  obtain ⟨rfl,rfl,hq2⟩ :=g1
  obtain ⟨e1,e2,e3⟩ :=tkE_le hq
  have hv:=bV32 (b:=b) p k hk
  refine ⟨sgnN k v,_,?_,rfl,rfl,hq2⟩
  unfold sgnN
  by_cases h:2 ^ (k - 1)≤v
  ·rw [if_pos h,if_pos (by simpa using h),w64_id (by omega) (by omega)]
   simp
  ·rw [if_neg h,if_neg (by simpa using h)]
theorem s_sg_bad (p k:Nat) (hp:p≤8*b.length) (hk1:1≤k) (hk:k≤32) (c:Int) (hc:c≠0):m_Sp ⟨b,p,c⟩ k=some (0,Zc.mk b p c):=by
 dsimp only [m_Sp,m_Sp_0]
 have h3:0 < 2 ^ (k - 1):=Nat.pow_pos (by decide)
 rw [s_tk_bad hb p k hp hk c hc]
 simp only [Option.bind_some]
 rw [w64_id (x:=(k:Int) - 1) (by omega) (by omega),show (k:Int) - 1=((k - 1:Nat):Int) by omega,wu64_id (x:=((k - 1:Nat):Int)) (by omega) (by omega),ck_eq (by omega)]
 simp only [Option.bind_some]
 have h4:(0:Int) < ((2 ^ (k - 1):Nat):Int):=Int.ofNat_lt.2 h3
 rw [(shl1 (k - 1) (by omega)).2,if_neg (by simp only [ge_iff_le,decide_eq_true_eq];omega)]
omit hb in
theorem z_sgn (k:Nat) (hk:k=26∨k=32) (v:Nat) (hv:v < 2 ^ k):m_In (v:Int) (k:Int)=some (sgnN k (v:Int)):=by
 dsimp only [m_In,m_In_0]
 rcases hk with rfl | rfl
 ·rw [w64_id (x:=64 - ((26:Nat):Int)) (by omega) (by omega),ck_eq (by omega)]
  simp only [Option.bind_some]
  unfold shlI shrI sgnN
  rw [show min (Int.toNat (64 - ((26:Nat):Int))) IntKind.u64.bits=38 from rfl,show min (Int.toNat (64 - ((26:Nat):Int))) IntKind.i64.bits=38 from rfl]
  have e1:IntKind.u64.wrap ((v:Int)*2 ^ 38)=(v:Int)*2 ^ 38:=wu64_id (by omega) (by omega)
  rw [e1,Int.fdiv_eq_ediv_of_nonneg _ (by omega)]
  congr 1
  have e2:w64 ((v:Int)*2 ^ 38)=if 2 ^ (26 - 1)≤(v:Int) then (v:Int)*2 ^ 38 - 18446744073709551616 else (v:Int)*2 ^ 38:=by
   unfold w64 IntKind.wrap
   simp [IntKind.bits,IntKind.signed]
   split <;> split <;> omega
  rw [e2]
  split <;> omega
 ·rw [w64_id (x:=64 - ((32:Nat):Int)) (by omega) (by omega),ck_eq (by omega)]
  simp only [Option.bind_some]
  unfold shlI shrI sgnN
  rw [show min (Int.toNat (64 - ((32:Nat):Int))) IntKind.u64.bits=32 from rfl,show min (Int.toNat (64 - ((32:Nat):Int))) IntKind.i64.bits=32 from rfl]
  have e1:IntKind.u64.wrap ((v:Int)*2 ^ 32)=(v:Int)*2 ^ 32:=wu64_id (by omega) (by omega)
  rw [e1,Int.fdiv_eq_ediv_of_nonneg _ (by omega)]
  congr 1
  have e2:w64 ((v:Int)*2 ^ 32)=if 2 ^ (32 - 1)≤(v:Int) then (v:Int)*2 ^ 32 - 18446744073709551616 else (v:Int)*2 ^ 32:=by
   unfold w64 IntKind.wrap
   simp [IntKind.bits,IntKind.signed]
   split <;> split <;> omega
  rw [e2]
  split <;> omega
omit hb in
theorem z_sgn_any (v k:Int) (hk:k=26∨k=32):∃ x,m_In v k=some x:=by
 dsimp only [m_In,m_In_0]
 rcases hk with rfl | rfl
 ·rw [w64_id (x:=64 - 26) (by omega) (by omega),ck_eq (by omega)]
  exact ⟨_,rfl⟩
 ·rw [w64_id (x:=64 - 32) (by omega) (by omega),ck_eq (by omega)]
  exact ⟨_,rfl⟩
def unE (b:List Int):Nat→Nat→Nat→RdA Nat
 | 0,p,q=>.error 2
 | n+1,p,q=>if bAt b p=0 then unE b n (p+1) (q+1) else .ok (q,p+1)
def rcE (b:List Int) (key p:Nat):RdA Int:=if key=25 then sgE b 32 p else (match unE b (8*b.length - p) p 0 with
 | .error c=>.error c
 | .ok (q,p1)=>match tkE b key p1 with | .error c=>.error c | .ok (v,p2)=>.ok (unf (q*2 ^ key+v.toNat),p2))
omit hb in
theorem unE_le:∀ (n p q q' p' : Nat),p+n≤8*b.length→unE b n p q = .ok (q',p')→p'≤8*b.length∧q'≤q+n∧p < p'
 | 0,p,q,q',p',hp,h=>by unfold unE at h;simp at h
 | n+1,p,q,q',p',hp,h=>by
  unfold unE at h
  split at h
  ·have:=unE_le n (p+1) (q+1) q' p' (by omega) h;omega
  ·simp at h;omega
omit hb in
theorem unE_err:∀ (n p q:Nat) (c:Int),unE b n p q = .error c→c=2
 | 0,p,q,c,h=>by unfold unE at h;simp at h;exact h.symm
 | n+1,p,q,c,h=>by
  unfold unE at h
  split at h
  ·exact unE_err n (p+1) (q+1) c h
  ·simp at h
omit hb in
theorem rcE_le {key p q:Nat} {v:Int} (hp:p≤8*b.length) (h:rcE b key p = .ok (v,q)):q≤8*b.length∧p≤q:=by
 unfold rcE at h
 split at h
 ·have:=sgE_le h;omega
 ·cases hu:unE b (8*b.length - p) p 0 with
  | error c=>rw [hu] at h;simp at h
  | ok x=>
   obtain ⟨q1,p1⟩ :=x
   rw [hu] at h
   dsimp only at h
   cases ht:tkE b key p1 with
   | error c=>rw [ht] at h;simp at h
   | ok y=>
    obtain ⟨w,p2⟩ :=y
    rw [ht] at h
    simp at h
    have:=unE_le (b:=b) _ _ _ _ _ (by omega) hu
    have:=tkE_le ht
    omega
theorem s_un (key:Int):∀ (n p q:Nat),p≤8*b.length→8*b.length - p=n→q+n≤1000000→
  ∃ (v:Nat) (r:Zc),loopM (lp_So_15 key) ((q:Int),b,(p:Int),0)=some ((v:Int),r.data,r.at_,r.err)∧SR b (unE b n p q) v r∧v≤q+n+1
 | 0,p,q,hp,hn,hq=>by
  have h1:=s_take hb p 1 0 hp (by omega)
  rw [if_pos rfl,if_neg (by omega),show ((1:Nat):Int)=1 from rfl] at h1
  refine ⟨q+1,Zc.mk b p 2,(lp_step (s':=(((q+1:Nat):Int),b,(p:Int),2)) ?_).trans (lp_end ?_),⟨by decide,p,rfl,hp⟩,by omega⟩
  ·dsimp only [lp_So_15,m_So_15]
   rw [if_pos (by simp),h1]
   simp only [Option.bind_some]
   rw [if_pos (by simp),w64_succ (by omega)]
  ·rfl
 | n+1,p,q,hp,hn,hq=>by
  have h1:=s_take hb p 1 0 hp (by omega)
  rw [if_pos rfl,if_pos (by omega),show ((1:Nat):Int)=1 from rfl] at h1
  have hv:bV b p 1=bAt b p:=by simp [bV]
  rw [hv] at h1
  unfold unE
  have hl:=hb.1
  by_cases h2:bAt b p=0
  ·rw [if_pos h2]
   obtain ⟨v,r,h3,g3,g4⟩ :=s_un key n (p+1) (q+1) (by omega) (by omega) (by omega)
   refine ⟨v,r,(lp_step ?_).trans h3,g3,by omega⟩
   dsimp only [lp_So_15,m_So_15]
   rw [if_pos (by simp),h1]
   simp only [Option.bind_some]
   rw [if_pos (by simp [h2]),w64_succ (by omega)]
  ·rw [if_neg h2]
   refine ⟨q,Zc.mk b ((p+1:Nat):Int) 0,lp_end ?_,⟨rfl,rfl,by omega⟩,by omega⟩
   dsimp only [lp_So_15,m_So_15]
   rw [if_pos (by simp),h1]
   simp only [Option.bind_some]
   rw [if_neg (by simp [h2])]
theorem s_rice (key p:Nat) (hp:p≤8*b.length) (hk:key≤25):∃ v r,m_So ⟨b,p,0⟩ key=some (v,r)∧SR b (rcE b key p) v r:=by
 have hl:=hb.1
 dsimp only [m_So,m_So_0]
 unfold rcE
 by_cases h25:key=25
 ·subst h25
  rw [if_pos (by rfl),if_pos rfl]
  obtain ⟨v,r,h1,g1⟩ :=s_sg hb p 32 hp (by omega) (by omega)
  rw [show ((32:Nat):Int)=32 from rfl] at h1
  rw [h1]
  exact ⟨v,r,rfl,g1⟩
 ·rw [if_neg (by simp;omega),if_neg h25]
  obtain ⟨v,r,h1,g1,g2⟩ :=s_un hb (key:Int) (8*b.length - p) p 0 hp rfl (by omega)
  rw [show (((0:Nat):Int))=0 from rfl] at h1
  rw [h1]
  simp only [Option.bind_some]
  dsimp only [m_So_23]
  have h2:2 ^ key≤2 ^ 24:=Nat.pow_le_pow_right (by decide) (by omega)
  have hvk:v*2 ^ key≤1000000*2 ^ 24:=Nat.mul_le_mul (by omega) h2
  rw [wu64_id (x:=(key:Int)) (by omega) (by omega),ck_eq (by omega)]
  simp only [Option.bind_some]
  rw [wu64_id (x:=(v:Int)) (by omega) (by omega),shl64 v key (by omega) (by omega)]
  cases hq:unE b (8*b.length - p) p 0 with
  | error c=>
   rw [hq] at g1
   obtain ⟨hc,p',rfl,hp'⟩ :=g1
   dsimp only
   rw [s_tk_bad hb p' key hp' (by omega) c hc]
   simp only [Option.bind_some]
   rw [show wr .u64 0=((0:Nat):Int) from rfl,or64 _ _ (by omega) (by omega),Nat.or_zero,s_unfold _ (by omega)]
   exact ⟨_,_,rfl,hc,p',rfl,hp'⟩
  | ok x=>
   obtain ⟨q1,p1⟩ :=x
   rw [hq] at g1
   obtain ⟨rfl,rfl,hp'⟩ :=g1
   obtain ⟨w,r2,h3,g3⟩ :=s_tk hb p1 key hp' (by omega)
   dsimp only
   rw [h3]
   simp only [Option.bind_some]
   cases hz:tkE b key p1 with
   | error c=>
    rw [hz] at g3
    have g3':=g3
    unfold tkE at hz
    split at hz
    ·simp at hz
    ·have hw:w=0:=by
      have h4:=s_take hb p1 key 0 hp' (by omega)
      rw [if_pos rfl,if_neg (by assumption)] at h4
      rw [h3] at h4
      simp at h4
      exact h4.1
     subst hw
     rw [show wr .u64 0=((0:Nat):Int) from rfl,or64 _ _ (by omega) (by omega),Nat.or_zero,s_unfold _ (by omega)]
     exact ⟨_,_,rfl,g3⟩
   | ok y=>
    obtain ⟨w',p2⟩ :=y
    rw [hz] at g3
    obtain ⟨rfl,rfl,hp2⟩ :=g3
    obtain ⟨e1,e2,e3⟩ :=tkE_le hz
    have hw:=bV_lt b p1 key
    subst e3
    rw [wu64_id (by omega) (by omega),or64 _ _ (by omega) (by omega),or_nat _ _ key hw,s_unfold _ (by omega)]
    exact ⟨_,_,rfl,by rw [Int.toNat_natCast],rfl,hp2⟩
theorem s_rice_bad (key p:Nat) (hp:p≤8*b.length) (hk:key≤25) (c:Int) (hc:c≠0):∃ v,m_So ⟨b,p,c⟩ key=some (v,Zc.mk b p c):=by
 dsimp only [m_So,m_So_0]
 by_cases h25:key=25
 ·subst h25
  rw [if_pos (by rfl)]
  have:=s_sg_bad hb p 32 hp (by omega) (by omega) c hc
  rw [show ((32:Nat):Int)=32 from rfl] at this
  rw [this]
  exact ⟨_,rfl⟩
 ·rw [if_neg (by simp;omega),lp_end (e:=(0,b,(p:Int),c)) (by
   dsimp only [lp_So_15,m_So_15]
   rw [if_neg (show ¬ ((c == 0)=true) by simpa using hc)])]
  simp only [Option.bind_some]
  dsimp only [m_So_23]
  rw [wu64_id (x:=(key:Int)) (by omega) (by omega),ck_eq (by omega)]
  simp only [Option.bind_some]
  rw [s_tk_bad hb p key hp (by omega) c hc]
  simp only [Option.bind_some]
  rw [show wr .u64 0=((0:Nat):Int) from rfl,shl64 0 key (by omega) (by omega),Nat.zero_mul,or64 _ _ (by omega) (by omega),s_unfold _ (by decide)]
  exact ⟨_,rfl⟩
end
end Go.Proofs.V

namespace Go.Proofs.V
open Go
def ptOk (o q n:Nat):Bool:=decide (o≤4∧o≤n∧q≤4∧n % 2 ^ q=0∧o≤n / 2 ^ q)
theorem ptOk_no {o q n:Nat} (h : ¬ (o≤4∧o≤n∧q≤4)):ptOk o q n=false:=decide_eq_false fun hh=>h ⟨hh.1,hh.2.1,hh.2.2.1⟩
theorem parts_val (o q n:Nat) (hq:q≤4) (hn:n≤100000):Int.tmod (n:Int) ((2 ^ q:Nat):Int)=((n % 2 ^ q:Nat):Int)∧shrI .i64 (n:Int) (q:Int)=((n / 2 ^ q:Nat):Int):=by
 refine ⟨?_,shrI_nat .i64 n q (by simp [IntKind.bits];omega)⟩
 rw [Int.tmod_eq_emod_of_nonneg (by omega)]
 rfl
theorem spec_parts (o q n:Nat) (hn:n≤100000):m_Si (o:Int) (q:Int) (n:Int)=some (ptOk o q n):=by
 dsimp only [m_Si,m_Si_0]
 rw [if_neg (by simp only [decide_eq_true_eq];omega)]
 by_cases h1:o≤4
 ·rw [if_neg (by simp;omega)]
  by_cases h2:o≤n
  ·rw [if_neg (by simp;omega),if_neg (by simp)]
   by_cases h3:q≤4
   ·obtain ⟨v1,v2⟩ :=parts_val o q n h3 hn
    have hpos:0 < 2 ^ q:=Nat.pow_pos (by decide)
    rw [if_neg (by simp;omega),(shl1 q (by omega)).1,wu64_id (x:=(q:Int)) (by omega) (by omega),ck_eq (by omega)]
    simp only [Option.bind_some]
    rw [ck_eq (by omega)]
    simp only [Option.bind_some]
    rw [v1,v2]
    unfold ptOk
    by_cases h4:n % 2 ^ q=0
    ·rw [if_pos (by rw [h4];rfl)]
     congr 1
     rw [Bool.eq_iff_iff]
     simp only [decide_eq_true_eq]
     constructor
     ·intro hh;exact ⟨h1,h2,h3,h4,by omega⟩
     ·rintro ⟨_,_,_,_,hh⟩;omega
    ·rw [if_neg (by simp only [beq_iff_eq];omega),decide_eq_false (fun hh=>h4 hh.2.2.2.1)]
   ·rw [if_pos (by simp;omega),ptOk_no (fun hh=>h3 hh.2.2)]
  ·rw [if_pos (by simp;omega),ptOk_no (fun hh=>h2 hh.2.1)]
 ·rw [if_pos (by simp;omega),ptOk_no (fun hh=>h1 hh.1)]
theorem impl_fits (o q n:Nat) (hn:n≤100000):m_Ii (o:Int) (q:Int) (n:Int)=some (ptOk o q n):=by
 dsimp only [m_Ii,m_Ii_0]
 rw [if_pos (by simp)]
 by_cases h1:o≤4
 ·rw [if_pos (by simp;omega)]
  by_cases h2:o≤n
  ·rw [if_pos (by simp;omega),if_pos (by simp)]
   by_cases h3:q≤4
   ·obtain ⟨v1,v2⟩ :=parts_val o q n h3 hn
    have hpos:0 < 2 ^ q:=Nat.pow_pos (by decide)
    rw [if_pos (by simp;omega),(shl1 q (by omega)).2,ck_eq (by omega)]
    simp only [Option.bind_some]
    rw [ck_eq (by omega)]
    simp only [Option.bind_some]
    rw [v1,v2]
    unfold ptOk
    by_cases h4:n % 2 ^ q=0
    ·rw [if_pos (by rw [h4];rfl)]
     congr 1
     rw [Bool.eq_iff_iff]
     simp only [decide_eq_true_eq]
     constructor
     ·intro hh;exact ⟨h1,h2,h3,h4,by omega⟩
     ·rintro ⟨_,_,_,_,hh⟩;omega
    ·rw [if_neg (by simp only [beq_iff_eq];omega),decide_eq_false (fun hh=>h4 hh.2.2.2.1)]
   ·rw [if_neg (by simp;omega),ptOk_no (fun hh=>h3 hh.2.2)]
  ·rw [if_neg (by simp;omega),ptOk_no (fun hh=>h2 hh.2.1)]
 ·rw [if_neg (by simp;omega),ptOk_no (fun hh=>h1 hh.1)]
def sgsE (b:List Int):Nat→Nat→List Int→RdA (List Int)
 | 0,p,acc=>.ok (acc,p)
 | k+1,p,acc=>match sgE b 26 p with | .error c=>.error c | .ok (v,q)=>sgsE b k q (acc++[v])
def ricesE (b:List Int) (key:Nat):Nat→Nat→List Int→RdA (List Int)
 | 0,p,acc=>.ok (acc,p)
 | k+1,p,acc=>match rcE b key p with | .error c=>.error c | .ok (v,q)=>ricesE b key k q (acc++[v])
def manyN (n o q i:Nat):Nat:=n / 2 ^ q - (if i=0 then o else 0)
def partsE (b:List Int) (n o q:Nat):Nat→Nat→Nat→List Int→RdA (List Int)
 | 0,i,p,acc=>.ok (acc,p)
 | k+1,i,p,acc=>match tkE b 5 p with
  | .error c=>.error c
  | .ok (key,p1)=>if 25 < key then .error 5 else (match ricesE b key.toNat (manyN n o q i) p1 acc with | .error c=>.error c | .ok (l,p2)=>partsE b n o q k (i+1) p2 l)
def listE (b:List Int) (n p:Nat):RdA (Int×List Int):=match tkE b 3 p with
 | .error c=>.error c
 | .ok (o,p1)=>if 4 < o∨(n:Int) < o then .error 5 else (match sgsE b o.toNat p1 [] with
  | .error c=>.error c
  | .ok (l,p2)=>match tkE b 3 p2 with
   | .error c=>.error c
   | .ok (q,p3)=>if ptOk o.toNat q.toNat n then (match partsE b n o.toNat q.toNat (2 ^ q.toNat) 0 p3 l with | .error c=>.error c | .ok (l2,p4)=>.ok ((o,l2),p4)) else .error 5)
section
variable {b:List Int} (hb:ByteL b)
theorem tkE_err {k p:Nat} {c:Int} (h:tkE b k p = .error c):c=2:=by
 unfold tkE at h
 split at h
 ·simp at h
 ·simp at h;exact h.symm
theorem sgE_err {k p:Nat} {c:Int} (h:sgE b k p = .error c):c=2:=by
 unfold sgE at h
 cases hq:tkE b k p with
 | error c'=>rw [hq] at h;simp at h;subst h;exact tkE_err hq
 | ok x=>obtain ⟨v,q⟩ :=x;rw [hq] at h;simp at h
theorem rcE_err {key p:Nat} {c:Int} (h:rcE b key p = .error c):c=2:=by
 unfold rcE at h
 split at h
 ·exact sgE_err h
 ·cases hu:unE b (8*b.length - p) p 0 with
  | error c'=>rw [hu] at h;simp at h;subst h;exact unE_err _ _ _ _ hu
  | ok x=>
   obtain ⟨q1,p1⟩ :=x
   rw [hu] at h
   dsimp only at h
   cases ht:tkE b key p1 with
   | error c'=>rw [ht] at h;simp at h;subst h;exact tkE_err ht
   | ok y=>obtain ⟨w,p2⟩ :=y;rw [ht] at h;simp at h
theorem sgsE_err:∀ (k p:Nat) (acc:List Int) (c:Int),sgsE b k p acc = .error c→c=2
 | 0,p,acc,c,h=>by unfold sgsE at h;simp at h
 | k+1,p,acc,c,h=>by
  unfold sgsE at h
  cases hq:sgE b 26 p with
  | error c'=>rw [hq] at h;simp at h;subst h;exact sgE_err hq
  | ok x=>obtain ⟨v,q⟩ :=x;rw [hq] at h;exact sgsE_err k q _ c h
theorem ricesE_err {key:Nat} : ∀ (k p:Nat) (acc:List Int) (c:Int),ricesE b key k p acc = .error c→c=2
 | 0,p,acc,c,h=>by unfold ricesE at h;simp at h
 | k+1,p,acc,c,h=>by
  unfold ricesE at h
  cases hq:rcE b key p with
  | error c'=>rw [hq] at h;simp at h;subst h;exact rcE_err hq
  | ok x=>obtain ⟨v,q⟩ :=x;rw [hq] at h;exact ricesE_err k q _ c h
theorem sgsE_le:∀ (k p:Nat) (acc l:List Int) (q:Nat),p≤8*b.length→sgsE b k p acc = .ok (l,q)→q≤8*b.length∧l.length=acc.length+k∧p≤q
 | 0,p,acc,l,q,hp,h=>by unfold sgsE at h;simp at h;obtain ⟨rfl,rfl⟩ :=h;exact ⟨hp,rfl,Nat.le_refl _⟩
 | k+1,p,acc,l,q,hp,h=>by
  unfold sgsE at h
  cases hq:sgE b 26 p with
  | error c'=>rw [hq] at h;simp at h
  | ok x=>
   obtain ⟨v,q1⟩ :=x
   rw [hq] at h
   have h1:=sgE_le hq
   obtain ⟨h2,h3,h4⟩ :=sgsE_le k q1 _ l q h1.2 h
   exact ⟨h2,by rw [h3];simp;omega,by omega⟩
theorem ricesE_le {key:Nat} : ∀ (k p:Nat) (acc l:List Int) (q:Nat),p≤8*b.length→ricesE b key k p acc = .ok (l,q)→q≤8*b.length∧l.length=acc.length+k∧p≤q
 | 0,p,acc,l,q,hp,h=>by unfold ricesE at h;simp at h;obtain ⟨rfl,rfl⟩ :=h;exact ⟨hp,rfl,Nat.le_refl _⟩
 | k+1,p,acc,l,q,hp,h=>by
  unfold ricesE at h
  cases hq:rcE b key p with
  | error c'=>rw [hq] at h;simp at h
  | ok x=>
   obtain ⟨v,q1⟩ :=x
   rw [hq] at h
   have h1:=rcE_le hp hq
   obtain ⟨h2,h3,h4⟩ :=ricesE_le k q1 _ l q h1.1 h
   exact ⟨h2,by rw [h3];simp;omega,by omega⟩
theorem partsE_le {n o q:Nat} (hn:n≤1000):∀ (k i p:Nat) (acc l:List Int) (p' : Nat),p≤8*b.length→partsE b n o q k i p acc = .ok (l,p')→p'≤8*b.length∧l.length≤acc.length+k*1000∧p≤p'
 | 0,i,p,acc,l,p',hp,h=>by unfold partsE at h;simp at h;obtain ⟨rfl,rfl⟩ :=h;exact ⟨hp,by omega,Nat.le_refl _⟩
 | k+1,i,p,acc,l,p',hp,h=>by
  unfold partsE at h
  cases hq:tkE b 5 p with
  | error c'=>rw [hq] at h;simp at h
  | ok x=>
   obtain ⟨v,q1⟩ :=x
   rw [hq] at h
   dsimp only at h
   have h1:=tkE_le hq
   split at h
   ·simp at h
   ·cases hr:ricesE b v.toNat (manyN n o q i) q1 acc with
    | error c'=>rw [hr] at h;simp at h
    | ok y=>
     obtain ⟨l2,p2⟩ :=y
     rw [hr] at h
     obtain ⟨h2,h3,h4⟩ :=ricesE_le _ _ _ _ _ h1.2.1 hr
     obtain ⟨h5,h6,h7⟩ :=partsE_le hn k (i+1) p2 l2 l p' h2 h
     have hm:manyN n o q i≤1000:=by unfold manyN;have:=Nat.div_le_self n (2 ^ q);omega
     refine ⟨h5,?_,by omega⟩
     rw [Nat.succ_mul];omega
include hb
theorem s_sgs (p1:Int) (x0:Int×Zc) (o:Nat) (hx:x0.1=o) (ho:o≤100):∀ (k i p:Nat) (acc:List Int),i+k=o→acc.length=i→p≤8*b.length→
  ∃ v r,loopM (lp_Sm_17 p1 x0) ((i:Int),b,(p:Int),0,acc)=some (r.data,r.at_,r.err,v)∧SR b (sgsE b k p acc) v r
 | 0,i,p,acc,hi,ha,hp=>by
  refine ⟨acc,Zc.mk b p 0,lp_end ?_,rfl,rfl,hp⟩
  dsimp only [lp_Sm_17,m_Sm_17]
  rw [if_neg (by rw [hx];simp;omega)]
 | k+1,i,p,acc,hi,ha,hp=>by
  obtain ⟨v,r,h1,g1⟩ :=s_sg hb p 26 hp (by omega) (by omega)
  rw [show ((26:Nat):Int)=26 from rfl] at h1
  have step:lp_Sm_17 p1 x0 ((i:Int),b,(p:Int),0,acc)=some (.inl (((i+1:Nat):Int),r.data,r.at_,r.err,acc++[v])):=by
   dsimp only [lp_Sm_17,m_Sm_17]
   rw [if_pos (by rw [hx];simp;omega),if_pos (by simp),h1]
   simp only [Option.bind_some]
   rw [ck_eq (by simp;omega)]
   simp only [Option.bind_some]
   rw [w64_succ (by omega)]
  rw [lp_step step]
  unfold sgsE
  cases hq:sgE b 26 p with
  | error c=>
   rw [hq] at g1
   obtain ⟨hc,p',rfl,hp'⟩ :=g1
   refine ⟨acc++[v],Zc.mk b p' c,lp_end ?_,hc,p',rfl,hp'⟩
   dsimp only [lp_Sm_17,m_Sm_17]
   rw [if_neg (show ¬ ((c == 0)=true) by simpa using hc),ite_self]
  | ok x=>
   obtain ⟨w,q⟩ :=x
   rw [hq] at g1
   obtain ⟨rfl,rfl,hq2⟩ :=g1
   exact s_sgs p1 x0 o hx ho k (i+1) q _ (by omega) (by simp;omega) hq2
theorem s_rices (p1:Int) (x0 x27:Int×Zc) (i40:Int) (x40:Int×Zc) (key:Nat) (hk:x40.1=key) (hk25:key≤25) (m:Nat) (hm:m≤1000):∀ (k i p:Nat) (acc:List Int),i+k=m→acc.length+k≤1000000→p≤8*b.length→
  ∃ v r,loopM (lp_Sm_68 p1 x0 x27 i40 x40 (m:Int)) ((i:Int),b,(p:Int),0,acc)=some (r.data,r.at_,r.err,v)∧SR b (ricesE b key k p acc) v r
 | 0,i,p,acc,hi,ha,hp=>by
  refine ⟨acc,Zc.mk b p 0,lp_end ?_,rfl,rfl,hp⟩
  dsimp only [lp_Sm_68,m_Sm_68]
  rw [if_neg (by simp;omega)]
 | k+1,i,p,acc,hi,ha,hp=>by
  obtain ⟨v,r,h1,g1⟩ :=s_rice hb key p hp hk25
  have step:lp_Sm_68 p1 x0 x27 i40 x40 (m:Int) ((i:Int),b,(p:Int),0,acc)=some (.inl (((i+1:Nat):Int),r.data,r.at_,r.err,acc++[v])):=by
   dsimp only [lp_Sm_68,m_Sm_68]
   rw [if_pos (by simp;omega),if_pos (by simp),hk,h1]
   simp only [Option.bind_some]
   rw [ck_eq (by simp;omega)]
   simp only [Option.bind_some]
   rw [w64_succ (by omega)]
  rw [lp_step step]
  unfold ricesE
  cases hq:rcE b key p with
  | error c=>
   rw [hq] at g1
   obtain ⟨hc,p',rfl,hp'⟩ :=g1
   refine ⟨acc++[v],Zc.mk b p' c,lp_end ?_,hc,p',rfl,hp'⟩
   dsimp only [lp_Sm_68,m_Sm_68]
   rw [if_neg (show ¬ ((c == 0)=true) by simpa using hc),ite_self]
  | ok x=>
   obtain ⟨w,q⟩ :=x
   rw [hq] at g1
   obtain ⟨rfl,rfl,hq2⟩ :=g1
   exact s_rices p1 x0 x27 i40 x40 key hk hk25 m hm k (i+1) q _ (by omega) (by simp;omega) hq2
omit hb in
theorem s_parts_end (p1:Int) (x0 x27:Int×Zc) (q:Nat) (hq:x27.1=q) (i p c:Int) (acc:List Int) (hc:c≠0):loopM (lp_Sm_40 p1 x0 x27) (i,b,p,c,acc)=some (b,p,c,acc):=by
 refine lp_end ?_
 dsimp only [lp_Sm_40,m_Sm_40]
 rw [hq,ck_eq (by have:=wu64_eq (q:Int);omega)]
 simp only [Option.bind_some]
 rw [if_neg (show ¬ ((c == 0)=true) by simpa using hc),ite_self]
theorem s_parts (n o q:Nat) (hn:n≤1000) (hpt:ptOk o q n=true) (x0 x27:Int×Zc) (h0:x0.1=o) (h27:x27.1=q):∀ (k i p:Nat) (acc:List Int),i+k=2 ^ q→acc.length+k*1000≤100000→p≤8*b.length→
  ∃ v r,loopM (lp_Sm_40 (n:Int) x0 x27) ((i:Int),b,(p:Int),0,acc)=some (r.data,r.at_,r.err,v)∧SR b (partsE b n o q k i p acc) v r:=by
 obtain ⟨ho4,hon,hq4,hmod,hdiv⟩ :=of_decide_eq_true hpt
 obtain ⟨v1,v2⟩ :=parts_val o q n hq4 (by omega)
 have hp2:2 ^ q≤2 ^ 4:=Nat.pow_le_pow_right (by decide) hq4
 intro k
 induction k with
 | zero=>
  intro i p acc hi ha hp
  refine ⟨acc,Zc.mk b p 0,lp_end ?_,rfl,rfl,hp⟩
  dsimp only [lp_Sm_40,m_Sm_40]
  rw [h27,(shl1 q (by omega)).1,wu64_id (x:=(q:Int)) (by omega) (by omega),ck_eq (by omega)]
  simp only [Option.bind_some]
  rw [if_neg (by simp only [decide_eq_true_eq];omega)]
 | succ k ih=>
  intro i p acc hi ha hp
  rw [Nat.succ_mul] at ha
  obtain ⟨kv,r,h1,g1⟩ :=s_tk hb p 5 hp (by omega)
  rw [show ((5:Nat):Int)=5 from rfl] at h1
  have step:lp_Sm_40 (n:Int) x0 x27 ((i:Int),b,(p:Int),0,acc)=if (r.err == 0)=true then m_Sm_53 (n:Int) x0 x27 (i:Int) (kv,r) acc (decide (kv > 25)) else m_Sm_53 (n:Int) x0 x27 (i:Int) (kv,r) acc false:=by
   dsimp only [lp_Sm_40,m_Sm_40]
   rw [h27,(shl1 q (by omega)).1,wu64_id (x:=(q:Int)) (by omega) (by omega),ck_eq (by omega)]
   simp only [Option.bind_some]
   rw [if_pos (by simp only [decide_eq_true_eq];omega),if_pos (by simp),h1]
   rfl
  have hmany:(if ((i:Int) == 0)=true then w64 (shrI .i64 (n:Int) (wr .u64 x27.1) - x0.1) else shrI .i64 (n:Int) (wr .u64 x27.1))=((manyN n o q i:Nat):Int):=by
   rw [h27,h0,wu64_id (x:=(q:Int)) (by omega) (by omega),v2]
   have:=Nat.div_le_self n (2 ^ q)
   unfold manyN
   by_cases hi0:i=0
   ·rw [if_pos (by simp [hi0]),if_pos hi0,w64_id (by omega) (by omega)];omega
   ·rw [if_neg (by simp;omega),if_neg hi0];omega
  have hmle:manyN n o q i≤1000:=by unfold manyN;have:=Nat.div_le_self n (2 ^ q);omega
  have k56:∀ (p' : Nat) (c:Int),p'≤8*b.length→m_Sm_56 (n:Int) x0 x27 (i:Int) (kv,r) acc b p' c=(loopM (lp_Sm_68 (n:Int) x0 x27 (i:Int) (kv,r) ((manyN n o q i:Nat):Int)) (0,b,(p' : Int),c,acc)).bind fun e=>some (.inl (((i+1:Nat):Int),e.1,e.2.1,e.2.2.1,e.2.2.2)):=by
   intro p' c hp'
   have e1:m_Sm_56 (n:Int) x0 x27 (i:Int) (kv,r) acc b p' c=m_Sm_64 (n:Int) x0 x27 (i:Int) (kv,r) b p' c acc (if ((i:Int) == 0)=true then w64 (shrI .i64 (n:Int) (wr .u64 x27.1) - x0.1) else shrI .i64 (n:Int) (wr .u64 x27.1)):=by
    dsimp only [m_Sm_56]
    rw [ck_eq (by rw [h27,wu64_id (by omega) (by omega)];omega)]
    simp only [Option.bind_some]
    split <;> rfl
   rw [e1,hmany]
   dsimp only [m_Sm_64,m_Sm_78]
   rw [w64_succ (by omega)]
  have kbad:∀ (p' : Nat) (c:Int),p'≤8*b.length→c≠0→m_Sm_56 (n:Int) x0 x27 (i:Int) (kv,r) acc b p' c=some (.inl (((i+1:Nat):Int),b,(p' : Int),c,acc)):=by
   intro p' c hp' hc
   rw [k56 p' c hp',lp_end (e:=(b,(p' : Int),c,acc)) (by
    dsimp only [lp_Sm_68,m_Sm_68]
    rw [if_neg (show ¬ ((c == 0)=true) by simpa using hc),ite_self])]
   rfl
  unfold partsE
  cases hz:tkE b 5 p with
  | error c=>
   rw [hz] at g1
   obtain ⟨hc,p',rfl,hp'⟩ :=g1
   rw [if_neg (by simpa using hc)] at step
   have h2:m_Sm_53 (n:Int) x0 x27 (i:Int) (kv,Zc.mk b p' c) acc false=some (.inl (((i+1:Nat):Int),b,(p' : Int),c,acc)):=by
    dsimp only [m_Sm_53]
    rw [if_neg (by simp)]
    exact kbad p' c hp' hc
   rw [lp_step (step.trans h2),s_parts_end (n:Int) x0 x27 q h27 _ _ _ _ hc]
   exact ⟨acc,Zc.mk b p' c,rfl,hc,p',rfl,hp'⟩
  | ok x=>
   obtain ⟨kw,p'⟩ :=x
   rw [hz] at g1
   obtain ⟨rfl,rfl,hp'⟩ :=g1
   rw [if_pos (by simp)] at step
   obtain ⟨t1,t2,t3⟩ :=tkE_le hz
   dsimp only
   by_cases h25:25 < kv
   ·rw [if_pos h25]
    have h2:m_Sm_53 (n:Int) x0 x27 (i:Int) (kv,Zc.mk b p' 0) acc (decide (kv > 25))=some (.inl (((i+1:Nat):Int),b,(p' : Int),5,acc)):=by
     dsimp only [m_Sm_53]
     rw [if_pos (by simpa using h25),s_fail]
     simp only [Option.bind_some]
     exact kbad p' 5 hp' (by decide)
    rw [lp_step (step.trans h2),s_parts_end (n:Int) x0 x27 q h27 _ _ _ _ (by decide)]
    exact ⟨acc,Zc.mk b p' 5,rfl,by decide,p',rfl,hp'⟩
   ·rw [if_neg h25]
    obtain ⟨v2',r2,h3,g3⟩ :=s_rices hb (n:Int) x0 x27 (i:Int) (kv,Zc.mk b p' 0) kv.toNat (by rw [t3];simp) (by omega) (manyN n o q i) hmle (manyN n o q i) 0 p' acc (by omega) (by omega) hp'
    rw [show (((0:Nat):Int))=0 from rfl] at h3
    have h2:m_Sm_53 (n:Int) x0 x27 (i:Int) (kv,Zc.mk b p' 0) acc (decide (kv > 25))=some (.inl (((i+1:Nat):Int),r2.data,r2.at_,r2.err,v2')):=by
     dsimp only [m_Sm_53]
     rw [if_neg (by simpa using h25)]
     rw [k56 p' 0 hp',h3]
     rfl
    rw [lp_step (step.trans h2)]
    cases hr:ricesE b kv.toNat (manyN n o q i) p' acc with
    | error c=>
     rw [hr] at g3
     obtain ⟨hc,p2,rfl,hp2'⟩ :=g3
     rw [s_parts_end (n:Int) x0 x27 q h27 _ _ _ _ hc]
     exact ⟨v2',Zc.mk b p2 c,rfl,hc,p2,rfl,hp2'⟩
    | ok y=>
     obtain ⟨l2,p2⟩ :=y
     rw [hr] at g3
     obtain ⟨rfl,rfl,hp2'⟩ :=g3
     have hlen:=(ricesE_le _ _ _ _ _ hp' hr).2.1
     exact ih (i+1) p2 v2' (by omega) (by omega) hp2'
theorem s_list (n p:Nat) (hn:n≤1000) (hp:p≤8*b.length):∃ v l r,m_Sm ⟨b,p,0⟩ n=some (v,l,r)∧SR b (listE b n p) (v,l) r:=by
 dsimp only [m_Sm,m_Sm_0]
 obtain ⟨ov,r,h1,g1⟩ :=s_tk hb p 3 hp (by omega)
 rw [show ((3:Nat):Int)=3 from rfl] at h1
 rw [h1]
 simp only [Option.bind_some]
 have err35:∀ (x0 x27:Int×Zc) (q:Nat),x27.1=q→∀ (l:List Int) (p' : Nat) (c:Int),c≠0→m_Sm_35 (n:Int) x0 x27 l b p' c=some (x0.1,l,Zc.mk b p' c):=by
  intro x0 x27 q hq l p' c hc
  dsimp only [m_Sm_35]
  rw [s_parts_end (n:Int) x0 x27 q hq _ _ _ _ hc]
  rfl
 have err27:∀ (x0:Int×Zc) (l:List Int) (p' : Nat) (c:Int),p'≤8*b.length→c≠0→m_Sm_27 (n:Int) x0 b p' c l=some (x0.1,l,Zc.mk b p' c):=by
  intro x0 l p' c hp' hc
  dsimp only [m_Sm_27]
  have:=s_tk_bad hb p' 3 hp' (by omega) c hc
  rw [show ((3:Nat):Int)=3 from rfl] at this
  rw [this]
  simp only [Option.bind_some]
  rw [if_neg (by simpa using hc)]
  dsimp only [m_Sm_32]
  rw [if_neg (by simp)]
  exact err35 x0 (0,Zc.mk b p' c) 0 rfl l p' c hc
 have err10:∀ (x0:Int×Zc) (p' : Nat) (c:Int),p'≤8*b.length→c≠0→m_Sm_10 (n:Int) x0 b p' c=some (x0.1,[],Zc.mk b p' c):=by
  intro x0 p' c hp' hc
  dsimp only [m_Sm_10]
  rw [lp_end (e:=(b,(p' : Int),c,[])) (by
   dsimp only [lp_Sm_17,m_Sm_17]
   rw [if_neg (show ¬ ((c == 0)=true) by simpa using hc),ite_self])]
  simp only [Option.bind_some]
  exact err27 x0 [] p' c hp' hc
 unfold listE
 cases hq:tkE b 3 p with
 | error c=>
  rw [hq] at g1
  obtain ⟨hc,p',rfl,hp'⟩ :=g1
  rw [if_neg (by simpa using hc)]
  dsimp only [m_Sm_7]
  rw [if_neg (by simp),err10 _ p' c hp' hc]
  exact ⟨_,_,_,rfl,hc,p',rfl,hp'⟩
 | ok x=>
  obtain ⟨o,p1⟩ :=x
  rw [hq] at g1
  obtain ⟨rfl,rfl,hp1⟩ :=g1
  obtain ⟨t1,t2,t3⟩ :=tkE_le hq
  rw [if_pos (by simp)]
  dsimp only
  have e7:(if decide (ov > 4)=true then m_Sm_7 (n:Int) (ov,Zc.mk b p1 0) true else m_Sm_7 (n:Int) (ov,Zc.mk b p1 0) (decide (ov > (n:Int))))=m_Sm_7 (n:Int) (ov,Zc.mk b p1 0) (decide (4 < ov∨(n:Int) < ov)):=by
   by_cases k1:4 < ov
   ·rw [if_pos (by simpa using k1),decide_eq_true (.inl k1)]
   ·rw [if_neg (by simpa using k1)]
    congr 1
    by_cases k2:(n:Int) < ov
    ·rw [show decide (ov > (n:Int))=true from decide_eq_true k2]
     exact (decide_eq_true (Or.inr k2)).symm
    ·rw [show decide (ov > (n:Int))=false from decide_eq_false k2]
     exact (decide_eq_false (fun hh=>Or.elim hh k1 k2)).symm
  rw [e7]
  dsimp only [m_Sm_7]
  by_cases k:4 < ov∨(n:Int) < ov
  ·rw [if_pos (decide_eq_true k),if_pos k,s_fail]
   simp only [Option.bind_some]
   rw [show stand 0 5=5 from rfl,err10 _ p1 5 hp1 (by decide)]
   exact ⟨_,_,_,rfl,by decide,p1,rfl,hp1⟩
  ·rw [if_neg (by simpa using k),if_neg k]
   obtain ⟨oN,rfl⟩:∃ m:Nat,ov=m:=⟨ov.toNat,by omega⟩
   rw [Int.toNat_natCast]
   dsimp only [m_Sm_10]
   obtain ⟨l,r2,h2,g2⟩ :=s_sgs hb (n:Int) ((oN:Int),Zc.mk b p1 0) oN rfl (by omega) oN 0 p1 [] (by omega) rfl hp1
   rw [show (((0:Nat):Int))=0 from rfl] at h2
   rw [h2]
   simp only [Option.bind_some]
   cases hs:sgsE b oN p1 [] with
   | error c=>
    rw [hs] at g2
    obtain ⟨hc,p2,rfl,hp2⟩ :=g2
    dsimp only
    rw [err27 _ l p2 c hp2 hc]
    exact ⟨_,_,_,rfl,hc,p2,rfl,hp2⟩
   | ok x=>
    obtain ⟨l',p2⟩ :=x
    rw [hs] at g2
    obtain ⟨rfl,rfl,hp2⟩ :=g2
    obtain ⟨_,hll,_⟩ :=sgsE_le _ _ _ _ _ hp1 hs
    dsimp only [m_Sm_27]
    obtain ⟨qv,r3,h3,g3⟩ :=s_tk hb p2 3 hp2 (by omega)
    rw [show ((3:Nat):Int)=3 from rfl] at h3
    rw [h3]
    simp only [Option.bind_some]
    cases ht:tkE b 3 p2 with
    | error c=>
     rw [ht] at g3
     have hqv:∃ q:Nat,qv=q:=by
      have h4:=s_take hb p2 3 0 hp2 (by omega)
      rw [show ((3:Nat):Int)=3 from rfl,if_pos rfl,h3] at h4
      split at h4
      ·simp at h4;exact ⟨_,h4.1⟩
      ·simp at h4;exact ⟨0,h4.1⟩
     obtain ⟨q,rfl⟩ :=hqv
     obtain ⟨hc,p3,rfl,hp3⟩ :=g3
     rw [if_neg (by simpa using hc)]
     dsimp only [m_Sm_32]
     rw [if_neg (by simp),err35 _ _ q rfl l p3 c hc]
     exact ⟨_,_,_,rfl,hc,p3,rfl,hp3⟩
    | ok x=>
     obtain ⟨q',p3⟩ :=x
     rw [ht] at g3
     obtain ⟨rfl,rfl,hp3⟩ :=g3
     obtain ⟨u1,u2,u3⟩ :=tkE_le ht
     obtain ⟨q,rfl⟩:∃ m:Nat,qv=m:=⟨bV b p2 3,u3⟩
     rw [if_pos (by simp),spec_parts oN q n (by omega)]
     simp only [Option.bind_some]
     rw [Int.toNat_natCast]
     dsimp only [m_Sm_32]
     cases hpt:ptOk oN q n with
     | false=>
      rw [if_pos (by rfl),s_fail]
      simp only [Option.bind_some]
      rw [show stand 0 5=5 from rfl,err35 _ _ q rfl l p3 5 (by decide)]
      exact ⟨_,_,_,rfl,by decide,p3,rfl,hp3⟩
     | true=>
      rw [if_neg (by simp)]
      dsimp only [m_Sm_35]
      have hq4:=(of_decide_eq_true hpt).2.2.1
      have hp2' : 2 ^ q≤2 ^ 4:=Nat.pow_le_pow_right (by decide) hq4
      obtain ⟨l4,r4,h4,g4⟩ :=s_parts hb n oN q hn hpt ((oN:Int),Zc.mk b p1 0) ((q:Int),Zc.mk b p3 0) rfl rfl (2 ^ q) 0 p3 l (by omega) (by rw [hll];simp;omega) hp3
      rw [show (((0:Nat):Int))=0 from rfl] at h4
      rw [h4]
      simp only [Option.bind_some]
      refine ⟨_,_,_,rfl,?_⟩
      simp only [if_true]
      cases hz:partsE b n oN q (2 ^ q) 0 p3 l with
      | error c=>rw [hz] at g4;exact g4
      | ok y=>
       obtain ⟨l5,p5⟩ :=y
       rw [hz] at g4
       obtain ⟨rfl,g4⟩ :=g4
       exact ⟨rfl,g4⟩
end
end Go.Proofs.V

namespace Go.Proofs.V
open Go
def errR (c:Int):Zb:=Zb.mk c (Za.mk 0 0 0 [])
theorem c1R (c:Int):m_Ic c=some (errR c):=rfl
def listsE (b:List Int) (n:Nat):Nat→Nat→List (List Int)→List Int→RdA (List (List Int)×List Int)
 | 0,p,ls,os=>.ok ((ls,os),p)
 | k+1,p,ls,os=>match listE b n p with | .error c=>.error c | .ok ((o,l),q)=>listsE b n k q (ls++[l]) (os++[o])
section
variable {b:List Int} (hb:ByteL b)
variable (p0:List Int) (i36_0 i36_1 i46_0 i71_0 i71_1 i71_2 i106_0 i151_0 i85_0 i151_1 i151_2 i36_3 i36_4 i36_5:Int) (l85_4:List (List Int)) (l85_5:List Int) (l46_4:List (List Int))
include hb
theorem z_un (i187_0 i187_1 i191_0:Int) (acc:List Int):∀ (n p q:Nat),p≤8*b.length→8*b.length - p=n→q+n≤1000000→
  ∃ (v:Nat) (r:Ze),loopM (lp_Ib_209 p0 i36_0 i36_1 i46_0 i71_0 i71_1 i71_2 i106_0 i151_0 i187_0 i85_0 i151_1 i151_2 i187_1 i191_0 i36_3 i36_4 i36_5 l85_4 l85_5 acc l46_4) ((q:Int),b,(p:Int),false)=some ((v:Int),r.b,r.at_,r.short)∧ZR b (unE b n p q) v r∧v≤q+n
 | 0,p,q,hp,hn,hq=>by
  have h1:=z_bit hb p false hp
  rw [if_neg (by omega)] at h1
  refine ⟨q,Ze.mk b p true,lp_end ?_,⟨p,rfl,hp⟩,by omega⟩
  dsimp only [lp_Ib_209,m_Ib_209]
  rw [h1]
  rfl
 | n+1,p,q,hp,hn,hq=>by
  have h1:=z_bit hb p false hp
  rw [if_pos (by omega)] at h1
  unfold unE
  by_cases h2:bAt b p=0
  ·rw [if_pos h2]
   obtain ⟨v,r,h3,g3,g4⟩ :=z_un i187_0 i187_1 i191_0 acc n (p+1) (q+1) (by omega) (by omega) (by omega)
   refine ⟨v,r,(lp_step ?_).trans h3,g3,by omega⟩
   dsimp only [lp_Ib_209,m_Ib_209]
   rw [h1]
   simp only [Option.bind_some]
   rw [if_pos (by simp [h2]),if_neg (by simp),wu64_id (by omega) (by omega)]
   rfl
  ·rw [if_neg h2]
   refine ⟨q,Ze.mk b ((p+1:Nat):Int) false,lp_end ?_,⟨rfl,rfl,by omega⟩,by omega⟩
   dsimp only [lp_Ib_209,m_Ib_209]
   rw [h1]
   simp only [Option.bind_some]
   rw [if_neg (by simp [h2])]
theorem z_rices (key:Nat) (hk25:key≤25) (m:Nat) (hm:m≤1000):∀ (k i p:Nat) (acc:List Int),i+k=m→acc.length+k≤1000000→p≤8*b.length→
  ∃ R,loopM (lp_Ib_191 p0 i36_0 i36_1 i46_0 i71_0 i71_1 i71_2 i106_0 i151_0 (key:Int) i85_0 i151_1 i151_2 (m:Int) i36_3 i36_4 i36_5 l85_4 l85_5 l46_4) ((i:Int),b,(p:Int),false,acc)=some R∧
   (match ricesE b key k p acc with | .ok (l,q)=>R = .inr (b,(q:Int),false,l) | .error _=>R = .inl (errR 2)):=by
 intro k
 induction k with
 | zero=>
  intro i p acc hi ha hp
  refine ⟨_,lp_end ?_,rfl⟩
  dsimp only [lp_Ib_191,m_Ib_191]
  rw [if_neg (by simp;omega)]
 | succ k ih=>
  intro i p acc hi ha hp
  have hl:=hb.1
  unfold ricesE
  have step:∃ (v:Int) (r:Ze),lp_Ib_191 p0 i36_0 i36_1 i46_0 i71_0 i71_1 i71_2 i106_0 i151_0 (key:Int) i85_0 i151_1 i151_2 (m:Int) i36_3 i36_4 i36_5 l85_4 l85_5 l46_4 ((i:Int),b,(p:Int),false,acc)=(if r.short=true then some (.inr (.inl (errR 2))) else some (.inl (((i+1:Nat):Int),r.b,r.at_,r.short,acc++[v])))∧ZR b (rcE b key p) v r:=by
   dsimp only [lp_Ib_191,m_Ib_191]
   rw [if_pos (by simp;omega)]
   unfold rcE
   by_cases h25:key=25
   ·subst h25
    rw [if_pos (by rfl),if_pos rfl]
    obtain ⟨v,r,h1,g1⟩ :=z_tk hb p 32 hp (by omega)
    rw [show ((32:Nat):Int)=32 from rfl] at h1
    rw [h1]
    simp only [Option.bind_some]
    unfold sgE
    cases hq:tkE b 32 p with
    | error c=>
     rw [hq] at g1
     obtain ⟨p',rfl,hp'⟩ :=g1
     obtain ⟨x,hx⟩ :=z_sgn_any v 32 (.inr rfl)
     rw [hx]
     simp only [Option.bind_some]
     rw [ck_eq (by simp;omega)]
     exact ⟨x,Ze.mk b p' true,rfl,p',rfl,hp'⟩
    | ok y=>
     obtain ⟨w,q⟩ :=y
     rw [hq] at g1
     obtain ⟨rfl,rfl,hq2⟩ :=g1
     obtain ⟨t1,t2,t3⟩ :=tkE_le hq
     have hv:=bV_lt b p 32
     have hz:=z_sgn 32 (.inr rfl) (bV b p 32) hv
     subst t3
     rw [show ((32:Nat):Int)=32 from rfl] at hz
     rw [hz]
     simp only [Option.bind_some]
     rw [ck_eq (by simp;omega)]
     simp only [Option.bind_some]
     rw [w64_succ (by omega)]
     exact ⟨_,Ze.mk b q false,rfl,rfl,rfl,hq2⟩
   ·rw [if_neg (by simp;omega),if_neg h25]
    obtain ⟨v,r,h1,g1,g2⟩ :=z_un hb p0 i36_0 i36_1 i46_0 i71_0 i71_1 i71_2 i106_0 i151_0 i85_0 i151_1 i151_2 i36_3 i36_4 i36_5 l85_4 l85_5 l46_4 (key:Int) (m:Int) (i:Int) acc (8*b.length - p) p 0 hp rfl (by omega)
    rw [show (((0:Nat):Int))=0 from rfl] at h1
    rw [h1]
    simp only [Option.bind_some]
    dsimp only [m_Ib_217]
    have h2:2 ^ key≤2 ^ 24:=Nat.pow_le_pow_right (by decide) (by omega)
    have hvk:v*2 ^ key≤1000000*2 ^ 24:=Nat.mul_le_mul (by omega) h2
    rw [ck_eq (by omega)]
    simp only [Option.bind_some]
    rw [shl64 v key (by omega) (by omega)]
    have hshort:∀ (p' : Nat),p'≤8*b.length→∃ (x:Int) (q' : Nat),(m_Iq (Ze.mk b p' true) (key:Int)).bind (fun x217_1=>(m_If (orI .u64 ((v*2 ^ key:Nat):Int) x217_1.1)).bind fun x217_2=>(ck (decide (acc.length+([x217_2]:List Int).length≤17592186044416))).bind fun _=>if x217_1.2.short then (m_Ic 2).bind fun x217_5=>some (.inr (.inl x217_5)) else some (.inl ((w64 ((i:Int)+1)),x217_1.2.b,x217_1.2.at_,x217_1.2.short,(acc++([x217_2]:List Int)))))=(some (.inr (.inl (errR 2))):Option ((Int×List Int×Int×Bool×List Int)⊕(Zb⊕(List Int×Int×Bool×List Int))))∧q'≤8*b.length:=by
     intro p' hp'
     obtain ⟨x,q',h3,h4⟩ :=z_tk_bad hb p' key hp' (by omega)
     rw [h3]
     simp only [Option.bind_some,m_If,m_If_0]
     rw [ck_eq (by simp;omega)]
     exact ⟨x,q',rfl,h4⟩
    cases hq:unE b (8*b.length - p) p 0 with
    | error c=>
     rw [hq] at g1
     obtain ⟨p',rfl,hp'⟩ :=g1
     obtain ⟨x,q',h3,h4⟩ :=hshort p' hp'
     rw [h3]
     exact ⟨0,Ze.mk b q' true,rfl,q',rfl,h4⟩
    | ok x=>
     obtain ⟨q1,p1⟩ :=x
     rw [hq] at g1
     obtain ⟨rfl,rfl,hp'⟩ :=g1
     obtain ⟨w,r2,h3,g3⟩ :=z_tk hb p1 key hp' (by omega)
     dsimp only
     rw [h3]
     simp only [Option.bind_some]
     cases hz:tkE b key p1 with
     | error c=>
      rw [hz] at g3
      obtain ⟨p2,rfl,hp2⟩ :=g3
      simp only [m_If,m_If_0,Option.bind_some]
      rw [ck_eq (by simp;omega)]
      exact ⟨0,Ze.mk b p2 true,rfl,p2,rfl,hp2⟩
     | ok y=>
      obtain ⟨w',p2⟩ :=y
      rw [hz] at g3
      obtain ⟨rfl,rfl,hp2⟩ :=g3
      obtain ⟨e1,e2,e3⟩ :=tkE_le hz
      have hw:=bV_lt b p1 key
      subst e3
      rw [or64 _ _ (by omega) (by omega),or_nat _ _ key hw,z_unfold _ (by omega)]
      simp only [Option.bind_some]
      rw [ck_eq (by simp;omega)]
      simp only [Option.bind_some]
      rw [w64_succ (by omega)]
      exact ⟨_,Ze.mk b p2 false,rfl,by rw [Int.toNat_natCast],rfl,hp2⟩
  obtain ⟨v,r,h1,g1⟩ :=step
  cases hq:rcE b key p with
  | error c=>
   rw [hq] at g1
   obtain ⟨p',rfl,hp'⟩ :=g1
   exact ⟨_,lp_end h1,rfl⟩
  | ok x=>
   obtain ⟨w,q⟩ :=x
   rw [hq] at g1
   obtain ⟨rfl,rfl,hq2⟩ :=g1
   obtain ⟨R,h3,g3⟩ :=ih (i+1) q (acc++[v]) (by omega) (by simp;omega) hq2
   exact ⟨R,(lp_step h1).trans h3,g3⟩
theorem z_parts (n o q:Nat) (hn:n≤1000) (hpt:ptOk o q n=true):∀ (k i p:Nat) (acc:List Int),i+k=2 ^ q→acc.length+k*1000≤100000→p≤8*b.length→
  ∃ R,loopM (lp_Ib_151 p0 i36_0 i36_1 i46_0 (n:Int) i71_1 i71_2 (o:Int) i85_0 i36_3 i36_4 i36_5 l85_4 l85_5 l46_4) ((q:Int),((2 ^ q:Nat):Int),(i:Int),b,(p:Int),false,acc)=some R∧
   (match partsE b n o q k i p acc with | .ok (l,p')=>R = .inr (b,(p' : Int),false,l) | .error c=>R = .inl (errR c)):=by
 obtain ⟨ho4,hon,hq4,hmod,hdiv⟩ :=of_decide_eq_true hpt
 obtain ⟨v1,v2⟩ :=parts_val o q n hq4 (by omega)
 have hp2:2 ^ q≤2 ^ 4:=Nat.pow_le_pow_right (by decide) hq4
 intro k
 induction k with
 | zero=>
  intro i p acc hi ha hp
  refine ⟨_,lp_end ?_,rfl⟩
  dsimp only [lp_Ib_151,m_Ib_151]
  rw [if_neg (by simp only [decide_eq_true_eq];omega)]
 | succ k ih=>
  intro i p acc hi ha hp
  rw [Nat.succ_mul] at ha
  obtain ⟨kv,r,h1,g1⟩ :=z_tk hb p 5 hp (by omega)
  rw [show ((5:Nat):Int)=5 from rfl] at h1
  have hmle:manyN n o q i≤1000:=by unfold manyN;have:=Nat.div_le_self n (2 ^ q);omega
  unfold partsE
  cases hz:tkE b 5 p with
  | error c=>
   rw [hz] at g1
   obtain ⟨p',rfl,hp'⟩ :=g1
   have hc:=tkE_err hz
   subst hc
   refine ⟨_,lp_end ?_,rfl⟩
   dsimp only [lp_Ib_151,m_Ib_151]
   rw [if_pos (by simp only [decide_eq_true_eq];omega),h1]
   rfl
  | ok x=>
   obtain ⟨kw,p'⟩ :=x
   rw [hz] at g1
   obtain ⟨rfl,rfl,hp'⟩ :=g1
   obtain ⟨t1,t2,t3⟩ :=tkE_le hz
   have hv:=bV32 (b:=b) p 5 (by omega)
   dsimp only
   have hmany:(if ((i:Int) == 0)=true then w64 (shrI .i64 (n:Int) (q:Int) - (o:Int)) else shrI .i64 (n:Int) (q:Int))=((manyN n o q i:Nat):Int):=by
    rw [v2]
    have:=Nat.div_le_self n (2 ^ q)
    unfold manyN
    by_cases hi0:i=0
    ·rw [if_pos (by simp [hi0]),if_pos hi0,w64_id (by omega) (by omega)];omega
    ·rw [if_neg (by simp;omega),if_neg hi0];omega
   have step:lp_Ib_151 p0 i36_0 i36_1 i46_0 (n:Int) i71_1 i71_2 (o:Int) i85_0 i36_3 i36_4 i36_5 l85_4 l85_5 l46_4 ((q:Int),((2 ^ q:Nat):Int),(i:Int),b,(p:Int),false,acc)=if decide (kv > 25)=true then some (.inr (.inl (errR 5))) else m_Ib_187 p0 i36_0 i36_1 i46_0 (n:Int) i71_1 i71_2 (o:Int) (q:Int) i85_0 ((2 ^ q:Nat):Int) (i:Int) (kv,Ze.mk b p' false) i36_3 i36_4 i36_5 l85_4 l85_5 acc l46_4 kv ((manyN n o q i:Nat):Int):=by
    rw [←hmany]
    dsimp only [lp_Ib_151,m_Ib_151]
    rw [if_pos (by simp only [decide_eq_true_eq];omega),h1]
    simp only [Option.bind_some]
    rw [if_neg (by simp),w64_id (x:=kv) (by omega) (by omega)]
    by_cases k25:kv > 25
    ·rw [if_pos (by simpa using k25),if_pos (by simpa using k25)]
     rfl
    ·have k25' : ¬ (decide (kv > 25)=true):=by simpa using k25
     rw [if_neg k25',if_neg k25',ck_eq (by omega)]
     simp only [Option.bind_some]
     split <;> rfl
   by_cases h25:25 < kv
   ·rw [if_pos h25]
    refine ⟨_,lp_end ?_,rfl⟩
    rw [step,if_pos (by simpa using h25)]
   ·rw [if_neg h25]
    rw [if_neg (by simpa using h25)] at step
    obtain ⟨kN,rfl⟩:∃ m:Nat,kv=m:=⟨bV b p 5,t3⟩
    rw [Int.toNat_natCast]
    dsimp only [m_Ib_187] at step
    obtain ⟨R,h3,g3⟩ :=z_rices hb p0 i36_0 i36_1 i46_0 (n:Int) i71_1 i71_2 (o:Int) (q:Int) i85_0 ((2 ^ q:Nat):Int) (i:Int) i36_3 i36_4 i36_5 l85_4 l85_5 l46_4 kN (by omega) (manyN n o q i) hmle (manyN n o q i) 0 p' acc (by omega) (by omega) hp'
    rw [show (((0:Nat):Int))=0 from rfl] at h3
    rw [h3] at step
    simp only [Option.bind_some] at step
    cases hr:ricesE b kN (manyN n o q i) p' acc with
    | error c=>
     rw [hr] at g3
     subst g3
     have hc:=ricesE_err _ _ _ _ hr
     subst hc
     exact ⟨_,lp_end step,rfl⟩
    | ok y=>
     obtain ⟨l2,p2⟩ :=y
     rw [hr] at g3
     subst g3
     obtain ⟨hl1,hl2,_⟩ :=ricesE_le _ _ _ _ _ hp' hr
     obtain ⟨R2,h5,g5⟩ :=ih (i+1) p2 l2 (by omega) (by omega) hl1
     refine ⟨R2,(lp_step ?_).trans h5,g5⟩
     rw [step]
     dsimp only [m_Ib_226]
     rw [w64_succ (by omega)]
theorem z_sgs_bad (o:Nat) (ho:o≤100):∀ (k i p:Nat) (acc:List Int),i+k=o→acc.length=i→p≤8*b.length→
  ∃ (v:List Int) (q:Nat),loopM (lp_Ib_118 p0 i36_0 i36_1 i46_0 i71_0 i71_1 i71_2 (o:Int) i85_0 i36_3 i36_4 i36_5 l85_4 l85_5 l46_4) ((i:Int),b,(p:Int),true,acc)=some (b,(q:Int),true,v)∧q≤8*b.length
 | 0,i,p,acc,hi,ha,hp=>by
  refine ⟨acc,p,lp_end ?_,hp⟩
  dsimp only [lp_Ib_118,m_Ib_118]
  rw [if_neg (by simp;omega)]
 | k+1,i,p,acc,hi,ha,hp=>by
  obtain ⟨v,q,h1,g1⟩ :=z_tk_bad hb p 26 hp (by omega)
  rw [show ((26:Nat):Int)=26 from rfl] at h1
  obtain ⟨x,hx⟩ :=z_sgn_any v 26 (.inl rfl)
  obtain ⟨v2,q2,h2,g2⟩ :=z_sgs_bad o ho k (i+1) q (acc++[x]) (by omega) (by simp;omega) g1
  refine ⟨v2,q2,(lp_step ?_).trans h2,g2⟩
  dsimp only [lp_Ib_118,m_Ib_118]
  rw [if_pos (by simp;omega),h1]
  simp only [Option.bind_some]
  rw [hx]
  simp only [Option.bind_some]
  rw [ck_eq (by simp;omega)]
  simp only [Option.bind_some]
  rw [w64_succ (by omega)]
theorem z_sgs (o:Nat) (ho:o≤100):∀ (k i p:Nat) (acc:List Int),i+k=o→acc.length=i→p≤8*b.length→
  ∃ (v:List Int) (r:Ze),loopM (lp_Ib_118 p0 i36_0 i36_1 i46_0 i71_0 i71_1 i71_2 (o:Int) i85_0 i36_3 i36_4 i36_5 l85_4 l85_5 l46_4) ((i:Int),b,(p:Int),false,acc)=some (r.b,r.at_,r.short,v)∧ZR b (sgsE b k p acc) v r
 | 0,i,p,acc,hi,ha,hp=>by
  refine ⟨acc,Ze.mk b p false,lp_end ?_,rfl,rfl,hp⟩
  dsimp only [lp_Ib_118,m_Ib_118]
  rw [if_neg (by simp;omega)]
 | k+1,i,p,acc,hi,ha,hp=>by
  obtain ⟨v,r,h1,g1⟩ :=z_tk hb p 26 hp (by omega)
  rw [show ((26:Nat):Int)=26 from rfl] at h1
  unfold sgsE sgE
  cases hq:tkE b 26 p with
  | error c=>
   rw [hq] at g1
   obtain ⟨p',rfl,hp'⟩ :=g1
   obtain ⟨x,hx⟩ :=z_sgn_any v 26 (.inl rfl)
   obtain ⟨v2,q2,h2,g2⟩ :=z_sgs_bad hb p0 i36_0 i36_1 i46_0 i71_0 i71_1 i71_2 i85_0 i36_3 i36_4 i36_5 l85_4 l85_5 l46_4 o ho k (i+1) p' (acc++[x]) (by omega) (by simp;omega) hp'
   refine ⟨v2,Ze.mk b q2 true,(lp_step ?_).trans h2,q2,rfl,g2⟩
   dsimp only [lp_Ib_118,m_Ib_118]
   rw [if_pos (by simp;omega),h1]
   simp only [Option.bind_some]
   rw [hx]
   simp only [Option.bind_some]
   rw [ck_eq (by simp;omega)]
   simp only [Option.bind_some]
   rw [w64_succ (by omega)]
  | ok y=>
   obtain ⟨w,q⟩ :=y
   rw [hq] at g1
   obtain ⟨rfl,rfl,hq2⟩ :=g1
   obtain ⟨t1,t2,t3⟩ :=tkE_le hq
   have hv:=bV_lt b p 26
   have hz:=z_sgn 26 (.inl rfl) (bV b p 26) hv
   subst t3
   rw [show ((26:Nat):Int)=26 from rfl] at hz
   obtain ⟨v2,r2,h2,g2⟩ :=z_sgs o ho k (i+1) q (acc++[sgnN 26 ((bV b p 26:Nat):Int)]) (by omega) (by simp;omega) hq2
   refine ⟨v2,r2,(lp_step ?_).trans h2,g2⟩
   dsimp only [lp_Ib_118,m_Ib_118]
   rw [if_pos (by simp;omega),h1]
   simp only [Option.bind_some]
   rw [hz]
   simp only [Option.bind_some]
   rw [ck_eq (by simp;omega)]
   simp only [Option.bind_some]
   rw [w64_succ (by omega)]
theorem z_list (n ch:Nat) (hn:n≤1000) (hch:ch≤2) (i:Nat) (hi:i < ch) (p:Nat) (hp:p≤8*b.length) (ls:List (List Int)) (os:List Int) (hls:ls.length=i) (hos:os.length=i) :
  ∃ R,lp_Ib_85 p0 (ch:Int) i36_1 i46_0 (n:Int) i71_1 i71_2 i36_3 i36_4 i36_5 l46_4 ((i:Int),b,(p:Int),false,ls,os)=some R∧
   (match listE b n p with | .ok ((o,l),q)=>R = .inl (((i+1:Nat):Int),b,(q:Int),false,ls++[l],os++[o])∧q≤8*b.length | .error c=>R = .inr (.inl (errR c))):=by
 dsimp only [lp_Ib_85,m_Ib_85]
 rw [if_pos (by simp;omega)]
 obtain ⟨ov,r,h1,g1⟩ :=z_tk hb p 3 hp (by omega)
 rw [show ((3:Nat):Int)=3 from rfl] at h1
 rw [h1]
 simp only [Option.bind_some]
 unfold listE
 cases hq:tkE b 3 p with
 | error c=>
  rw [hq] at g1
  obtain ⟨p',rfl,hp'⟩ :=g1
  have hc:=tkE_err hq
  subst hc
  exact ⟨_,rfl,rfl⟩
 | ok x=>
  obtain ⟨o,p1⟩ :=x
  rw [hq] at g1
  obtain ⟨rfl,rfl,hp1⟩ :=g1
  obtain ⟨t1,t2,t3⟩ :=tkE_le hq
  have hv3:=bV32 (b:=b) p 3 (by omega)
  obtain ⟨oN,rfl⟩:∃ m:Nat,ov=m:=⟨bV b p 3,t3⟩
  rw [if_neg (by simp),w64_id (x:=(oN:Int)) (by omega) (by omega)]
  dsimp only
  have e106:(if decide ((oN:Int) > 4)=true then m_Ib_106 p0 (ch:Int) i36_1 i46_0 (n:Int) i71_1 i71_2 (i:Int) ((oN:Int),Ze.mk b p1 false) i36_3 i36_4 i36_5 ls os l46_4 (oN:Int) true else m_Ib_106 p0 (ch:Int) i36_1 i46_0 (n:Int) i71_1 i71_2 (i:Int) ((oN:Int),Ze.mk b p1 false) i36_3 i36_4 i36_5 ls os l46_4 (oN:Int) (decide ((oN:Int) > (n:Int))))=m_Ib_106 p0 (ch:Int) i36_1 i46_0 (n:Int) i71_1 i71_2 (i:Int) ((oN:Int),Ze.mk b p1 false) i36_3 i36_4 i36_5 ls os l46_4 (oN:Int) (decide (4 < (oN:Int)∨(n:Int) < (oN:Int))):=by
   by_cases k1:4 < (oN:Int)
   ·rw [if_pos (by simpa using k1),decide_eq_true (Or.inl k1)]
   ·rw [if_neg (by simpa using k1)]
    congr 1
    by_cases k2:(n:Int) < (oN:Int)
    ·rw [show decide ((oN:Int) > (n:Int))=true from decide_eq_true k2]
     exact (decide_eq_true (Or.inr k2)).symm
    ·rw [show decide ((oN:Int) > (n:Int))=false from decide_eq_false k2]
     exact (decide_eq_false (fun hh=>Or.elim hh k1 k2)).symm
  rw [e106]
  dsimp only [m_Ib_106]
  by_cases k:4 < (oN:Int)∨(n:Int) < (oN:Int)
  ·rw [if_pos (decide_eq_true k),if_pos k]
   exact ⟨_,rfl,rfl⟩
  ·rw [if_neg (by rw [decide_eq_false k];simp),if_neg k,Int.toNat_natCast]
   obtain ⟨l,r2,h2,g2⟩ :=z_sgs hb p0 (ch:Int) i36_1 i46_0 (n:Int) i71_1 i71_2 (i:Int) i36_3 i36_4 i36_5 ls os l46_4 oN (by omega) oN 0 p1 [] (by omega) rfl hp1
   rw [show (((0:Nat):Int))=0 from rfl] at h2
   rw [h2]
   simp only [Option.bind_some]
   dsimp only [m_Ib_128]
   cases hs:sgsE b oN p1 [] with
   | error c=>
    rw [hs] at g2
    obtain ⟨p2,rfl,hp2⟩ :=g2
    have hc:=sgsE_err _ _ _ _ hs
    subst hc
    obtain ⟨v3,q3,h3,g3⟩ :=z_tk_bad hb p2 3 hp2 (by omega)
    rw [show ((3:Nat):Int)=3 from rfl] at h3
    dsimp only
    rw [h3]
    exact ⟨_,rfl,rfl⟩
   | ok x=>
    obtain ⟨l',p2⟩ :=x
    rw [hs] at g2
    obtain ⟨rfl,rfl,hp2⟩ :=g2
    obtain ⟨_,hll,_⟩ :=sgsE_le _ _ _ _ _ hp1 hs
    obtain ⟨qv,r3,h3,g3⟩ :=z_tk hb p2 3 hp2 (by omega)
    rw [show ((3:Nat):Int)=3 from rfl] at h3
    dsimp only
    rw [h3]
    simp only [Option.bind_some]
    cases ht:tkE b 3 p2 with
    | error c=>
     rw [ht] at g3
     obtain ⟨p3,rfl,hp3⟩ :=g3
     have hc:=tkE_err ht
     subst hc
     exact ⟨_,rfl,rfl⟩
    | ok x=>
     obtain ⟨q',p3⟩ :=x
     rw [ht] at g3
     obtain ⟨rfl,rfl,hp3⟩ :=g3
     obtain ⟨u1,u2,u3⟩ :=tkE_le ht
     have hv4:=bV32 (b:=b) p2 3 (by omega)
     obtain ⟨q,rfl⟩:∃ m:Nat,qv=m:=⟨bV b p2 3,u3⟩
     rw [if_neg (by simp),w64_id (x:=(q:Int)) (by omega) (by omega),impl_fits oN q n (by omega)]
     simp only [Option.bind_some]
     rw [Int.toNat_natCast]
     cases hpt:ptOk oN q n with
     | false=>exact ⟨_,rfl,rfl⟩
     | true=>
      have hq4:=(of_decide_eq_true hpt).2.2.1
      have hp2' : 2 ^ q≤2 ^ 4:=Nat.pow_le_pow_right (by decide) hq4
      simp only [if_true]
      rw [ck_eq (by omega)]
      simp only [Option.bind_some]
      rw [(shl1 q (by omega)).2]
      obtain ⟨R,h4,g4⟩ :=z_parts hb p0 (ch:Int) i36_1 i46_0 i71_1 i71_2 (i:Int) i36_3 i36_4 i36_5 ls os l46_4 n oN q hn hpt (2 ^ q) 0 p3 l (by omega) (by rw [hll];simp;omega) hp3
      rw [show (((0:Nat):Int))=0 from rfl] at h4
      rw [h4]
      simp only [Option.bind_some]
      cases hz:partsE b n oN q (2 ^ q) 0 p3 l with
      | error c=>
       rw [hz] at g4
       subst g4
       exact ⟨_,rfl,rfl⟩
      | ok y=>
       obtain ⟨l5,p5⟩ :=y
       rw [hz] at g4
       subst g4
       dsimp only [m_Ib_227]
       rw [ck_eq (by simp;omega)]
       simp only [Option.bind_some]
       rw [ck_eq (by simp;omega)]
       simp only [Option.bind_some]
       rw [w64_succ (by omega)]
       exact ⟨_,rfl,rfl,(partsE_le hn _ _ _ _ _ _ hp3 hz).1⟩
end
end Go.Proofs.V

namespace Go.Proofs.V
open Go
def allIn (lo hi:Int) (l:List Int):Bool:=l.all fun x=>decide (lo≤x∧x≤hi)
theorem impl_range (l:List Int) (lo hi:Int) (mx:Nat) (hl:l.length≤1000000):m_Im l lo hi mx=some (decide (l.length≤mx)&&allIn lo hi l):=by
 dsimp only [m_Im,m_Im_0]
 by_cases h:l.length≤mx
 ·rw [if_neg (by simp;omega),decide_eq_true h,Bool.true_and]
  rw [all_list (l:=l) (q:=fun x=>decide (lo≤x∧x≤hi)) (b:=lp_Im_15 lo hi l) (by omega) (fun i hi'=>by
   dsimp only [lp_Im_15,m_Im_15]
   rw [if_pos (by simpa using hi'),rd_eq hi']
   simp only [Option.bind_some]
   rw [w64_succ (by omega)]
   by_cases h1:l[i] < lo
   ·rw [if_pos (by simpa using h1),if_neg (by simp only [decide_eq_true_eq];omega)]
   ·rw [if_neg (by simpa using h1)]
    by_cases h2:l[i] > hi
    ·rw [if_pos (by simpa using h2),if_neg (by simp only [decide_eq_true_eq];omega)]
    ·rw [if_neg (by simpa using h2),if_pos (by simp only [decide_eq_true_eq];omega)]) (by
   dsimp only [lp_Im_15,m_Im_15]
   rw [if_neg (by simp)])]
  unfold allIn
  cases l.all fun x=>decide (lo≤x∧x≤hi) <;> rfl
 ·rw [if_pos (by simp;omega),decide_eq_false h];rfl
theorem spec_list26 (l:List Int) (hl:l.length≤1000000):m_Sh l=some (decide (l.length≤4000)&&allIn (-67108864) 67108863 l):=by
 dsimp only [m_Sh,m_Sh_0]
 rw [all_list (l:=l) (q:=fun x=>decide (-67108864≤x∧x≤67108863)) (b:=lp_Sh_7 l) (by omega) (fun i hi'=>by
  dsimp only [lp_Sh_7,m_Sh_7]
  rw [if_pos (by simpa using hi'),rd_eq hi']
  simp only [Option.bind_some]
  rw [w64_succ (by omega)]
  by_cases h1:l[i] < -67108864
  ·rw [if_pos (by simpa using h1),if_neg (by simp only [decide_eq_true_eq];omega)]
  ·rw [if_neg (by simpa using h1)]
   by_cases h2:l[i] > 67108863
   ·rw [if_pos (by simpa using h2),if_neg (by simp only [decide_eq_true_eq];omega)]
   ·rw [if_neg (by simpa using h2),if_pos (by simp only [decide_eq_true_eq];omega)]) (by
  dsimp only [lp_Sh_7,m_Sh_7]
  rw [if_neg (by simp)])]
 unfold allIn
 cases l.all fun x=>decide (-67108864≤x∧x≤67108863) with
 | false=>simp
 | true=>
  simp only [cond_true,Option.bind_some,m_Sh_25,Bool.and_true]
  congr 1
  rw [Bool.eq_iff_iff]
  simp only [decide_eq_true_eq]
  omega
theorem impl_list26 (l:List Int) (hl:l.length≤1000000):m_Ik l=some (decide (l.length≤4000)&&allIn (-67108864) 67108863 l):=by
 dsimp only [m_Ik,m_Ik_0]
 have:=impl_range l (-67108864) 67108863 4000 hl
 rw [show ((4000:Nat):Int)=4000 from rfl] at this
 rw [this];rfl
def inOk (bits:Nat) (l:List Int):Bool:=allIn (-((2 ^ (bits - 1):Nat):Int)) (((2 ^ (bits - 1):Nat):Int) - 1) l
theorem spec_in (bits:Nat) (hb:2≤bits∧bits≤24) (l:List Int) (hl:l.length≤1000000):m_Sg (bits:Int) l=some (inOk bits l):=by
 dsimp only [m_Sg,m_Sg_0]
 have h2:2 ^ (bits - 1)≤2 ^ 23:=Nat.pow_le_pow_right (by decide) (by omega)
 rw [w64_id (x:=(bits:Int) - 1) (by omega) (by omega),show (bits:Int) - 1=((bits - 1:Nat):Int) by omega,(shl1 (bits - 1) (by omega)).1,wu64_id (x:=((bits - 1:Nat):Int)) (by omega) (by omega),ck_eq (by omega)]
 simp only [Option.bind_some]
 unfold inOk
 generalize 2 ^ (bits - 1)=t at h2 ⊢
 have key:=all_fold (l:=l) (σ:=Unit) (fun _ i=>((t:Int),((i:Nat):Int))) (q:=fun x=>decide (-(t:Int)≤x∧x≤(t:Int) - 1)) (g:=fun _ _=>()) (I:=fun _ _=>True) (b:=lp_Sg_9 l) (e0:=.inl false) (e1:=fun _=>.inr ())
  (fun i s hi _=>by
   have hs:lp_Sg_9 l ((t:Int),(i:Int))=if decide (-(t:Int)≤l[i]∧l[i]≤(t:Int) - 1)=true then some (.inl ((t:Int),((i+1:Nat):Int))) else some (.inr (.inl false)):=by
    dsimp only [lp_Sg_9,m_Sg_9]
    rw [if_pos (by simpa using hi),rd_eq hi]
    simp only [Option.bind_some]
    rw [w64_succ (by omega),w64_id (x:=0 - (t:Int)) (by omega) (by omega)]
    by_cases h1:l[i] < 0 - (t:Int)
    ·rw [if_pos (by simpa using h1),if_neg (by simp only [decide_eq_true_eq];omega)]
    ·rw [if_neg (by simp only [decide_eq_true_eq];omega)]
     by_cases h2:l[i]≥(t:Int)
     ·rw [if_pos (by simpa using h2),if_neg (by simp only [decide_eq_true_eq];omega)]
     ·rw [if_neg (by simpa using h2),if_pos (by simp only [decide_eq_true_eq];omega)]
   exact ⟨fun hq=>⟨by rw [hs,if_pos hq],trivial⟩,fun hq=>by rw [hs,if_neg (by rw [hq];simp)]⟩)
  (fun s _=>by
   dsimp only [lp_Sg_9,m_Sg_9]
   rw [if_neg (by simp)]) () trivial
 rw [show (((0:Nat):Int))=0 from rfl] at key
 rw [key]
 unfold allIn
 cases l.all fun x=>decide (-(t:Int)≤x∧x≤(t:Int) - 1) <;> rfl
theorem shlm (k:Nat) (hk:k≤32):shlI .i64 (-1) (k:Int) = -((2 ^ k:Nat):Int):=by
 have h2:2 ^ k≤2 ^ 32:=Nat.pow_le_pow_right (by decide) hk
 unfold shlI
 have:min (Int.toNat (k:Int)) IntKind.i64.bits=k:=by simp [IntKind.bits];omega
 rw [this]
 have e:(-1:Int)*2 ^ k = -((2 ^ k:Nat):Int):=by simp
 rw [e]
 generalize 2 ^ k=t at h2 ⊢
 exact w64_id (by omega) (by omega)
theorem impl_in (bits:Nat) (hb:2≤bits∧bits≤24) (l:List Int) (hl:l.length≤4000):m_Im l (shlI .i64 (-1) (w64 ((bits:Int) - 1))) (w64 ((shlI .i64 1 (w64 ((bits:Int) - 1))) - 1)) 4000=some (inOk bits l):=by
 have h2:2 ^ (bits - 1)≤2 ^ 23:=Nat.pow_le_pow_right (by decide) (by omega)
 rw [w64_id (x:=(bits:Int) - 1) (by omega) (by omega),show (bits:Int) - 1=((bits - 1:Nat):Int) by omega,(shl1 (bits - 1) (by omega)).2,shlm (bits - 1) (by omega)]
 unfold inOk
 generalize 2 ^ (bits - 1)=t at h2 ⊢
 rw [w64_id (by omega) (by omega)]
 have:=impl_range l (-(t:Int)) ((t:Int) - 1) 4000 (by omega)
 rw [show ((4000:Nat):Int)=4000 from rfl] at this
 rw [this,decide_eq_true hl]
 rfl
def gsF (o:Nat) (l:List Int) (i:Nat):Int:=
 if o=1 then l.getD (i - 1) 0
 else if o=2 then w64 (w64 (2*l.getD (i - 1) 0) - l.getD (i - 2) 0)
 else if o=3 then w64 (w64 (w64 (3*l.getD (i - 1) 0) - w64 (3*l.getD (i - 2) 0))+l.getD (i - 3) 0)
 else if o=4 then w64 (w64 (w64 (w64 (4*l.getD (i - 1) 0) - w64 (6*l.getD (i - 2) 0))+w64 (4*l.getD (i - 3) 0)) - l.getD (i - 4) 0)
 else 0
theorem spec_guess (o i:Nat) (l:List Int) (ho:o≤i) (hi:i≤l.length) (hl:l.length≤1000000):m_Se (o:Int) l (i:Int)=some (gsF o l i):=by
 have r:∀ k:Nat,1≤k→k≤i→rd l (w64 ((i:Int) - (k:Int)))=some (l.getD (i - k) 0):=fun k h1 h2=>by
  rw [w64_id (by omega) (by omega),show (i:Int) - (k:Int)=((i - k:Nat):Int) by omega,rd_d 0 (by omega)]
 dsimp only [m_Se,m_Se_0]
 unfold gsF
 by_cases h1:o=1
 ·subst h1
  rw [if_pos (by rfl),if_pos rfl]
  have r1:=r 1 (by omega) ho
  rw [show ((1:Nat):Int)=1 from rfl] at r1
  rw [r1];rfl
 ·rw [if_neg (by simp;omega),if_neg h1]
  by_cases h2:o=2
  ·subst h2
   rw [if_pos (by rfl),if_pos rfl]
   have r1:=r 1 (by omega) (by omega)
   have r2:=r 2 (by omega) (by omega)
   rw [show ((1:Nat):Int)=1 from rfl] at r1
   rw [show ((2:Nat):Int)=2 from rfl] at r2
   rw [r1]
   simp only [Option.bind_some]
   rw [r2];rfl
  ·rw [if_neg (by simp;omega),if_neg h2]
   by_cases h3:o=3
   ·subst h3
    rw [if_pos (by rfl),if_pos rfl]
    have r1:=r 1 (by omega) (by omega)
    have r2:=r 2 (by omega) (by omega)
    have r3:=r 3 (by omega) (by omega)
    rw [show ((1:Nat):Int)=1 from rfl] at r1
    rw [show ((2:Nat):Int)=2 from rfl] at r2
    rw [show ((3:Nat):Int)=3 from rfl] at r3
    rw [r1]
    simp only [Option.bind_some]
    rw [r2]
    simp only [Option.bind_some]
    rw [r3];rfl
   ·rw [if_neg (by simp;omega),if_neg h3]
    by_cases h4:o=4
    ·subst h4
     rw [if_pos (by rfl),if_pos rfl]
     have r1:=r 1 (by omega) (by omega)
     have r2:=r 2 (by omega) (by omega)
     have r3:=r 3 (by omega) (by omega)
     have r4:=r 4 (by omega) (by omega)
     rw [show ((1:Nat):Int)=1 from rfl] at r1
     rw [show ((2:Nat):Int)=2 from rfl] at r2
     rw [show ((3:Nat):Int)=3 from rfl] at r3
     rw [show ((4:Nat):Int)=4 from rfl] at r4
     rw [r1]
     simp only [Option.bind_some]
     rw [r2]
     simp only [Option.bind_some]
     rw [r3]
     simp only [Option.bind_some]
     rw [r4];rfl
    ·rw [if_neg (by simp;omega),if_neg h4]
theorem impl_guess (o i:Nat) (l:List Int) (ho:o≤i) (hi:i≤l.length) (hl:l.length≤1000000):m_Ij (o:Int) l (i:Int)=some (gsF o l i):=spec_guess o i l ho hi hl
theorem gsF_pre (o:Nat) (l m:List Int) (ho:o≤l.length):gsF o (l++m) l.length=gsF o l l.length:=by
 have r:∀ k:Nat,1≤k→k≤l.length→(l++m).getD (l.length - k) 0=l.getD (l.length - k) 0:=fun k h1 h2=>by
  rw [List.getD_eq_getElem?_getD,List.getD_eq_getElem?_getD,List.getElem?_append_left (by omega)]
 unfold gsF
 by_cases h1:o=1
 ·rw [if_pos h1,if_pos h1,r 1 (by omega) (by omega)]
 ·rw [if_neg h1,if_neg h1]
  by_cases h2:o=2
  ·rw [if_pos h2,if_pos h2,r 1 (by omega) (by omega),r 2 (by omega) (by omega)]
  ·rw [if_neg h2,if_neg h2]
   by_cases h3:o=3
   ·rw [if_pos h3,if_pos h3,r 1 (by omega) (by omega),r 2 (by omega) (by omega),r 3 (by omega) (by omega)]
   ·rw [if_neg h3,if_neg h3]
    by_cases h4:o=4
    ·rw [if_pos h4,if_pos h4,r 1 (by omega) (by omega),r 2 (by omega) (by omega),r 3 (by omega) (by omega),r 4 (by omega) (by omega)]
    ·rw [if_neg h4,if_neg h4]
def nxF (o:Nat) (done:List Int) (x:Int):Int:=if o≤done.length then w64 (x+gsF o done done.length) else x
def restG (o:Nat):List Int→List Int→Option (List Int)
 | done,[]=>some done
 | done,x::xs=>if -67108864≤nxF o done x∧nxF o done x≤67108863 then restG o (done++[nxF o done x]) xs else none
def restF (o:Nat) (l:List Int):List Int:=if allIn (-2147483648) 2147483647 l then (restG o [] l).getD [] else []
theorem restG_len (o:Nat):∀ (l d r:List Int),restG o d l=some r→r.length=d.length+l.length∧((∀ x ∈ d,-67108864≤x∧x≤67108863)→∀ x ∈ r,-67108864≤x∧x≤67108863)
 | [],d,r,h=>by unfold restG at h;simp at h;subst h;exact ⟨rfl,id⟩
 | x::l,d,r,h=>by
  unfold restG at h
  split at h
  ·rename_i hx
   obtain ⟨h1,h2⟩ :=restG_len o l _ r h
   refine ⟨by rw [h1];simp;omega,fun hd=>h2 fun y hy=>?_⟩
   rcases List.mem_append.1 hy with hy | hy
   ·exact hd y hy
   ·simp at hy;subst hy;exact hx
  ·simp at h
theorem restF_facts (o:Nat) (l:List Int):(restF o l=[]∨(restF o l).length=l.length)∧∀ x ∈ restF o l,-67108864≤x∧x≤67108863:=by
 unfold restF
 split
 ·cases h:restG o [] l with
  | none=>simp
  | some r=>
   obtain ⟨h1,h2⟩ :=restG_len o l [] r h
   exact ⟨.inr (by simpa using h1),h2 (by simp)⟩
 ·simp
theorem setm (d:List Int) (x y:Int) (m:List Int):(d++x::m).set (0+Int.toNat (d.length:Int)) y=d++y::m:=by
 rw [Int.toNat_natCast,Nat.zero_add,List.set_append_right _ _ (Nat.le_refl _),Nat.sub_self]
 rfl
theorem s_restore (o:Nat) (ho:o≤4) (l:List Int) (hl:l.length≤1000000):∀ (xs d:List Int),d.length+xs.length=l.length→l.drop d.length=xs→
  loopM (lp_Sc_40 (o:Int) l) ((d.length:Int),d++List.replicate xs.length 0)=some (match restG o d xs with | some r=>.inl r | none=>.inr [])
 | [],d,h1,h2=>by
  refine lp_end ?_
  dsimp only [lp_Sc_40,m_Sc_40]
  simp at h1
  rw [if_neg (by simp;omega)]
  simp [restG]
 | x::xs,d,h1,h2=>by
  have hd:d.length < l.length:=by simp at h1;omega
  have hx:l.getD d.length 0=x:=by
   rw [List.getD_eq_getElem?_getD,List.getElem?_eq_getElem hd]
   rw [List.drop_eq_getElem_cons hd] at h2
   exact (List.cons.inj h2).1
  have h3:l.drop (d.length+1)=xs:=by
   rw [List.drop_eq_getElem_cons hd] at h2
   exact (List.cons.inj h2).2
  have hrep:List.replicate (x::xs).length (0:Int)=0::List.replicate xs.length 0:=by simp [List.replicate_succ]
  have hrdm:∀ (y:Int) (m:List Int),rd (d++y::m) (d.length:Int)=some y:=fun y m=>by
   rw [rd_d 0 (by simp),List.getD_eq_getElem?_getD,List.getElem?_append_right (Nat.le_refl _)];simp
  have step:lp_Sc_40 (o:Int) l ((d.length:Int),d++List.replicate (x::xs).length 0)=if -67108864≤nxF o d x∧nxF o d x≤67108863 then some (.inl (((d.length+1:Nat):Int),d++nxF o d x::List.replicate xs.length 0)) else some (.inr (.inr [])):=by
   have k58:∀ y:Int,m_Sc_58 (o:Int) l (d.length:Int) (d++y::List.replicate xs.length 0)=if -67108864≤y∧y≤67108863 then some (.inl (((d.length+1:Nat):Int),d++y::List.replicate xs.length 0)) else some (.inr (.inr [])):=by
    intro y
    dsimp only [m_Sc_58]
    rw [hrdm]
    simp only [Option.bind_some]
    rw [w64_succ (by omega)]
    by_cases h5:y < -67108864
    ·rw [if_pos (by simpa using h5),if_neg (by omega)]
    ·rw [if_neg (by simpa using h5)]
     by_cases h6:y > 67108863
     ·rw [if_pos (by simpa using h6),if_neg (by omega)]
     ·rw [if_neg (by simpa using h6),if_pos (by omega)]
   dsimp only [lp_Sc_40,m_Sc_40]
   rw [hrep,if_pos (by simp;omega),rd_d 0 hd,hx]
   simp only [Option.bind_some]
   rw [hrdm]
   simp only [Option.bind_some]
   rw [setm]
   unfold nxF
   by_cases h4:o≤d.length
   ·rw [if_pos (by simp;omega),spec_guess o d.length _ h4 (by simp) (by simp at h1 ⊢;omega),gsF_pre o d _ h4]
    simp only [Option.bind_some]
    rw [setm,k58,if_pos h4]
   ·rw [if_neg (by simp;omega),k58,if_neg h4]
  unfold restG
  by_cases h5 : -67108864≤nxF o d x∧nxF o d x≤67108863
  ·rw [if_pos h5] at step ⊢
   have ih:=s_restore o ho l hl xs (d++[nxF o d x]) (by simp at h1 ⊢;omega) (by simpa using h3)
   refine (lp_step step).trans ?_
   rw [←ih]
   congr 2
   ·simp
   ·simp
  ·rw [if_neg h5] at step ⊢
   exact lp_end step
theorem z_restore (o:Nat) (ho:o≤4) (l:List Int) (hl:l.length≤1000000):∀ (xs d:List Int),d.length+xs.length=l.length→
  loopM (lp_Ie_17 (o:Int) l) ((d.length:Int),d++xs)=some (match restG o d xs with | some r=>.inl r | none=>.inr [])
 | [],d,h1=>by
  refine lp_end ?_
  dsimp only [lp_Ie_17,m_Ie_17]
  simp at h1
  rw [if_neg (by simp;omega)]
  simp [restG]
 | x::xs,d,h1=>by
  have hd:d.length < l.length:=by simp at h1;omega
  have hrdm:∀ (y:Int) (m:List Int),rd (d++y::m) (d.length:Int)=some y:=fun y m=>by
   rw [rd_d 0 (by simp),List.getD_eq_getElem?_getD,List.getElem?_append_right (Nat.le_refl _)];simp
  have step:lp_Ie_17 (o:Int) l ((d.length:Int),d++x::xs)=if -67108864≤nxF o d x∧nxF o d x≤67108863 then some (.inl (((d.length+1:Nat):Int),d++nxF o d x::xs)) else some (.inr (.inr [])):=by
   have k33:∀ y:Int,m_Ie_33 (o:Int) (d.length:Int) l (d++y::xs)=if -67108864≤y∧y≤67108863 then some (.inl (((d.length+1:Nat):Int),d++y::xs)) else some (.inr (.inr [])):=by
    intro y
    dsimp only [m_Ie_33]
    rw [hrdm]
    simp only [Option.bind_some]
    rw [w64_succ (by omega)]
    by_cases h5:y < -67108864
    ·rw [if_pos (by simpa using h5),if_neg (by omega)]
    ·rw [if_neg (by simpa using h5)]
     by_cases h6:y > 67108863
     ·rw [if_pos (by simpa using h6),if_neg (by omega)]
     ·rw [if_neg (by simpa using h6),if_pos (by omega)]
   dsimp only [lp_Ie_17,m_Ie_17]
   rw [if_pos (by simp;omega)]
   unfold nxF
   by_cases h4:o≤d.length
   ·rw [if_pos (by simp;omega),hrdm]
    simp only [Option.bind_some]
    rw [impl_guess o d.length _ h4 (by simp) (by simp at h1 ⊢;omega),gsF_pre o d _ h4]
    simp only [Option.bind_some]
    rw [setm,k33,if_pos h4]
   ·rw [if_neg (by simp;omega),k33,if_neg h4]
  unfold restG
  by_cases h5 : -67108864≤nxF o d x∧nxF o d x≤67108863
  ·rw [if_pos h5] at step ⊢
   have ih:=z_restore o ho l hl xs (d++[nxF o d x]) (by simp at h1 ⊢;omega)
   refine (lp_step step).trans ?_
   rw [←ih]
   congr 2
   ·simp
   ·simp
  ·rw [if_neg h5] at step ⊢
   exact lp_end step
theorem spec_restore (o:Nat) (ho:o≤4) (l:List Int) (hl:l.length≤4000):m_Sc (o:Int) l=some (restF o l):=by
 dsimp only [m_Sc,m_Sc_0]
 rw [if_neg (by simp),if_neg (by simp;omega),if_neg (by simp;omega)]
 have key:=all_fold (l:=l) (σ:=Unit) (fun _ i=>(((i:Nat):Int))) (q:=fun x=>decide (-2147483648≤x∧x≤2147483647)) (g:=fun _ _=>()) (I:=fun _ _=>True) (b:=lp_Sc_15 (o:Int) l) (e0:=.inl []) (e1:=fun _=>.inr ())
  (fun i s hi _=>by
   have hs:lp_Sc_15 (o:Int) l (i:Int)=if decide (-2147483648≤l[i]∧l[i]≤2147483647)=true then some (.inl ((i+1:Nat):Int)) else some (.inr (.inl [])):=by
    dsimp only [lp_Sc_15,m_Sc_15]
    rw [if_pos (by simpa using hi),rd_eq hi]
    simp only [Option.bind_some]
    rw [w64_succ (by omega)]
    by_cases h1:l[i] < -2147483648
    ·rw [if_pos (by simpa using h1),if_neg (by simp only [decide_eq_true_eq];omega)]
    ·rw [if_neg (by simpa using h1)]
     by_cases h2:l[i] > 2147483647
     ·rw [if_pos (by simpa using h2),if_neg (by simp only [decide_eq_true_eq];omega)]
     ·rw [if_neg (by simpa using h2),if_pos (by simp only [decide_eq_true_eq];omega)]
   exact ⟨fun hq=>⟨by rw [hs,if_pos hq],trivial⟩,fun hq=>by rw [hs,if_neg (by rw [hq];simp)]⟩)
  (fun s _=>by
   dsimp only [lp_Sc_15,m_Sc_15]
   rw [if_neg (by simp)]) () trivial
 rw [show (((0:Nat):Int))=0 from rfl] at key
 rw [key]
 unfold restF allIn
 cases l.all fun x=>decide (-2147483648≤x∧x≤2147483647) with
 | false=>rfl
 | true=>
  simp only [cond_true,Option.bind_some,if_true]
  dsimp only [m_Sc_33]
  rw [ck_eq (by omega)]
  simp only [Option.bind_some]
  have:=s_restore o ho l (by omega) l [] (by simp) rfl
  rw [List.nil_append,show (([]:List Int).length:Int)=0 from rfl] at this
  rw [Int.toNat_natCast,this]
  cases restG o [] l <;> rfl
theorem impl_restore (o:Nat) (ho:o≤4) (l:List Int) (hl:l.length≤4000):m_Ie (o:Int) l=some (restF o l):=by
 dsimp only [m_Ie,m_Ie_0]
 have:=impl_range l (-2147483648) 2147483647 4000 (by omega)
 rw [show ((4000:Nat):Int)=4000 from rfl] at this
 rw [this,decide_eq_true hl,Bool.true_and]
 simp only [Option.bind_some]
 unfold restF
 cases allIn (-2147483648) 2147483647 l with
 | false=>rfl
 | true=>
  simp only [if_true]
  rw [if_neg (by simp),if_neg (by simp;omega)]
  dsimp only [m_Ih,m_Ih_0]
  rw [ck_eq (by simp;omega)]
  simp only [Option.bind_some]
  have:=z_restore o ho l (by omega) l [] (by simp)
  rw [List.nil_append] at this ⊢
  rw [show (([]:List Int).length:Int)=0 from rfl] at this
  rw [this]
  cases restG o [] l <;> rfl
end Go.Proofs.V

namespace Go.Proofs.V
open Go
theorem and1s (x:Int):andI .i64 x 1=x % 2:=by
 unfold andI
 have h1:(BitVec.ofInt IntKind.i64.bits x &&& BitVec.ofInt IntKind.i64.bits 1).toNat=(x % 2).toNat:=by
  show (BitVec.ofInt 64 x &&& BitVec.ofNat 64 1).toNat=(x % 2).toNat
  rw [BitVec.toNat_and,BitVec.toNat_ofInt,BitVec.toNat_ofNat]
  have:=Nat.and_one_is_mod (x % ((2 ^ 64:Nat):Int)).toNat
  rw [show (1 % 2 ^ 64:Nat)=1 from rfl,this]
  omega
 rw [h1]
 rw [show IntKind.i64.wrap (((x % 2).toNat:Nat):Int)=w64 (((x % 2).toNat:Nat):Int) from rfl,w64_id (by omega) (by omega)]
 omega
def utx (w:Nat) (x y:Int):Int:=if w=2 then (2*x+y % 2+y) / 2 else x
def uty (w:Nat) (x y:Int):Int:=if w=0 then y else utx w x y - y
def untF (w:Nat) (a b:List Int):List Int×List Int:=
 if allIn (-67108864) 67108863 (List.zipWith (utx w) a b)=true∧allIn (-67108864) 67108863 (List.zipWith (uty w) a b)=true then (List.zipWith (utx w) a b,List.zipWith (uty w) a b) else ([],[])
theorem ut_vals (w:Nat) (hw:w≤2) (x y:Int) (hx : -67108864≤x∧x≤67108863) (hy : -67108864≤y∧y≤67108863) :
  w64 (w64 (w64 (2*x)+andI .i64 y 1)+y)=2*x+y % 2+y∧w64 (Int.tdiv (2*x+y % 2+y) 2)=(2*x+y % 2+y) / 2∧shrI .i64 (2*x+y % 2+y) 1=(2*x+y % 2+y) / 2∧w64 ((2*x+y % 2+y) / 2 - y)=(2*x+y % 2+y) / 2 - y∧w64 (x - y)=x - y:=by
 refine ⟨?_,?_,?_,?_,?_⟩
 ·rw [and1s,w64_id (x:=2*x) (by omega) (by omega),w64_id (x:=2*x+y % 2) (by omega) (by omega),w64_id (by omega) (by omega)]
 ·have:Int.tdiv (2*x+y % 2+y) 2=(2*x+y % 2+y) / 2:=by
   have h2:∃ k,2*x+y % 2+y=2*k:=⟨(2*x+y % 2+y) / 2,by omega⟩
   obtain ⟨k,hk⟩ :=h2
   rw [hk,Int.mul_tdiv_cancel_left _ (by decide)]
   omega
  rw [this,w64_id (by omega) (by omega)]
 ·unfold shrI
  rw [show (2:Int) ^ min (Int.toNat 1) IntKind.i64.bits=2 from rfl,Int.fdiv_eq_ediv_of_nonneg _ (by omega)]
 ·rw [w64_id (by omega) (by omega)]
 ·rw [w64_id (by omega) (by omega)]
theorem upd_at (L a:List Int) (i:Nat) (h:i < L.length) (hl:L.length=a.length):(L.take i++a.drop i).set (0+Int.toNat (i:Int)) L[i]=L.take (i+1)++a.drop (i+1):=by
 have e:a.drop i=a[i]::a.drop (i+1):=List.drop_eq_getElem_cons _
 have e0:i - (L.take i).length=0:=by simp;omega
 rw [Int.toNat_natCast,Nat.zero_add,List.set_append_right _ _ (by simp;omega),e0,e,List.set_cons_zero,List.take_succ_eq_append_getElem h,List.append_assoc]
 rfl
theorem fill_n (l:List Int) (i n:Nat) (v:Int) (hn:l.length=n) (h:i < n) (hv:l[i]'(by omega)=v):(l.take i++List.replicate (n - i) (0:Int)).set (0+Int.toNat (i:Int)) v=l.take (i+1)++List.replicate (n - (i+1)) 0:=by
 subst hn;subst hv
 exact fill_set0 l 0 i h
theorem rd_upd (L a:List Int) (i:Nat) (h:i < L.length) (hl:L.length=a.length):rd (L.take i++a.drop i) (i:Int)=some a[i]:=by
 rw [rd_eq (by simp;omega)]
 congr 1
 rw [List.getElem_append_right (by simp;omega)]
 simp only [List.length_take,List.getElem_drop]
 congr 1
 omega
theorem rd_upd2 (L a:List Int) (i:Nat) (h:i < L.length) (hl:L.length=a.length):rd (L.take (i+1)++a.drop (i+1)) (i:Int)=some L[i]:=by
 rw [rd_eq (by simp;omega)]
 congr 1
 rw [List.getElem_append_left (by simp;omega)]
 simp
section
variable {a b:List Int} (hn:a.length≤4000) (hab:a.length=b.length) (ha:∀ x ∈ a,-67108864≤x∧x≤67108863) (hb:∀ x ∈ b,-67108864≤x∧x≤67108863) (w:Nat) (hw:w≤2)
include hn hab ha hb hw
theorem spec_unturn:m_Sr (w:Int) a b=some (untF w a b):=by
 dsimp only [m_Sr,m_Sr_0]
 have hX:(List.zipWith (utx w) a b).length=a.length:=by simp;omega
 have hY:(List.zipWith (uty w) a b).length=a.length:=by simp;omega
 rw [ck_eq (by omega)]
 simp only [Option.bind_some]
 have key:loopM (lp_Sr_11 (w:Int) a b) (0,List.replicate (Int.toNat (a.length:Int)) 0,List.replicate (Int.toNat (a.length:Int)) 0)=some (.inl (List.zipWith (utx w) a b,List.zipWith (uty w) a b)):=by
  have:=loopM_fun (b:=lp_Sr_11 (w:Int) a b) (fun i (s:List Int×List Int)=>((i:Int),s.1,s.2)) a.length
   (fun i=>((List.zipWith (utx w) a b).take i++List.replicate (a.length - i) 0,(List.zipWith (uty w) a b).take i++List.replicate (a.length - i) 0)) (e:=.inl (List.zipWith (utx w) a b,List.zipWith (uty w) a b)) (fun i hi=>?_) ?_
  ·simpa using this
  ·have hib:i < b.length:=by omega
   have hax:=ha a[i] (by simp)
   have hbx:=hb b[i] (by simp)
   obtain ⟨v1,v2,v3,v4,v5⟩ :=ut_vals w hw a[i] b[i] hax hbx
   have fx:=fill_n (List.zipWith (utx w) a b) i a.length (utx w a[i] b[i]) hX hi (by simp)
   have fy:=fill_n (List.zipWith (uty w) a b) i a.length (uty w a[i] b[i]) hY hi (by simp)
   have lx:((List.zipWith (utx w) a b).take i++List.replicate (a.length - i) (0:Int)).length=a.length:=by simp;omega
   have ly:((List.zipWith (uty w) a b).take i++List.replicate (a.length - i) (0:Int)).length=a.length:=by simp;omega
   have rX:∀ (l:List Int),l.length=a.length→∃ v,rd l (i:Int)=some v:=fun l hl=>⟨l[i],rd_eq (by omega)⟩
   dsimp only
   generalize (List.zipWith (utx w) a b).take i++List.replicate (a.length - i) (0:Int)=X at fx lx
   generalize (List.zipWith (uty w) a b).take i++List.replicate (a.length - i) (0:Int)=Y at fy ly
   obtain ⟨xv,hxv⟩ :=rX X lx
   obtain ⟨yv,hyv⟩ :=rX Y ly
   have e24:m_Sr_24 (w:Int) a b (i:Int) X Y false=some (.inl (((i+1:Nat):Int),X.set (0+Int.toNat (i:Int)) (utx w a[i] b[i]),Y.set (0+Int.toNat (i:Int)) (uty w a[i] b[i]))):=by
    dsimp only [m_Sr_24]
    rw [if_neg (by simp),rd_eq hi,hxv,rd_eq hib,hyv]
    simp only [Option.bind_some]
    unfold uty utx
    have k39:∀ (p q:List Int),p.length=a.length→q.length=a.length→m_Sr_39 (w:Int) a b (i:Int) p q=if w=2 then some (.inl (((i+1:Nat):Int),p.set (0+Int.toNat (i:Int)) ((2*a[i]+b[i] % 2+b[i]) / 2),q.set (0+Int.toNat (i:Int)) ((2*a[i]+b[i] % 2+b[i]) / 2 - b[i]))) else some (.inl (((i+1:Nat):Int),p,q)):=by
     intro p q hp hq
     dsimp only [m_Sr_39]
     rw [w64_succ (by omega)]
     by_cases h2:w=2
     ·rw [if_pos (by simp [h2]),if_pos h2,rd_eq hi,rd_eq hib]
      simp only [Option.bind_some]
      obtain ⟨pv,hpv⟩ :=rX p hp
      obtain ⟨qv,hqv⟩ :=rX q hq
      rw [hpv,hqv]
      simp only [Option.bind_some]
      rw [v1,v2,v4]
     ·rw [if_neg (by simp;omega),if_neg h2]
    by_cases h0:w=0
    ·rw [if_neg (by simp [h0]),k39 _ _ (by simpa using lx) (by simpa using ly),if_neg (by omega),if_neg (by omega),if_pos h0]
    ·by_cases h1:w=1
     ·rw [if_pos (by simp [h1]),k39 _ _ (by simpa using lx) (by simpa using ly),if_neg (by omega),if_neg (by omega),if_neg h0,v5]
     ·have h2:w=2:=by omega
      rw [if_neg (by simp;omega),k39 _ _ (by simpa using lx) (by simpa using ly),if_pos h2,if_pos h2,if_neg h0,List.set_set,List.set_set]
   dsimp only [lp_Sr_11,m_Sr_11]
   rw [if_pos (by simpa using hi),rd_eq hi]
   simp only [Option.bind_some]
   rw [if_neg (by simp only [decide_eq_true_eq];omega),if_neg (by simp only [decide_eq_true_eq];omega),rd_eq hib]
   simp only [Option.bind_some]
   rw [if_neg (by simp only [decide_eq_true_eq];omega),show decide (b[i] > 268435455)=false by simp only [decide_eq_false_iff_not];omega,e24,fx,fy]
  ·dsimp only [lp_Sr_11,m_Sr_11]
   rw [if_neg (by simp),List.take_of_length_le (by omega),List.take_of_length_le (by omega),Nat.sub_self]
   simp
 rw [key]
 simp only [Option.bind_some]
 dsimp only [m_Sr_47]
 rw [spec_list26 _ (by omega),spec_list26 _ (by omega),decide_eq_true (by omega:(List.zipWith (utx w) a b).length≤4000),decide_eq_true (by omega:(List.zipWith (uty w) a b).length≤4000)]
 simp only [Option.bind_some,Bool.true_and]
 unfold untF
 cases h1:allIn (-67108864) 67108863 (List.zipWith (utx w) a b) with
 | false=>simp [m_Sr_50]
 | true=>
  cases h2:allIn (-67108864) 67108863 (List.zipWith (uty w) a b) with
  | false=>simp [m_Sr_50]
  | true=>simp [m_Sr_50]
theorem impl_unturn:m_Ig (w:Int) a b=some (untF w a b):=by
 dsimp only [m_Ig,m_Ig_0]
 have hX:(List.zipWith (utx w) a b).length=a.length:=by simp;omega
 have hY:(List.zipWith (uty w) a b).length=a.length:=by simp;omega
 have hra:allIn (-268435456) 268435455 a=true:=by
  unfold allIn;rw [List.all_eq_true];intro x hx;have:=ha x hx;simp only [decide_eq_true_eq];omega
 have hrb:allIn (-268435456) 268435455 b=true:=by
  unfold allIn;rw [List.all_eq_true];intro x hx;have:=hb x hx;simp only [decide_eq_true_eq];omega
 have i1:=impl_range a (-268435456) 268435455 4000 (by omega)
 have i2:=impl_range b (-268435456) 268435455 4000 (by omega)
 rw [show ((4000:Nat):Int)=4000 from rfl,hra,decide_eq_true hn] at i1
 rw [show ((4000:Nat):Int)=4000 from rfl,hrb,decide_eq_true (by omega)] at i2
 rw [i1]
 simp only [Option.bind_some,Bool.true_and,if_true]
 rw [i2]
 simp only [Option.bind_some,Bool.true_and,if_true]
 rw [if_neg (by simp [hab]),if_neg (by simp),show decide ((w:Int) > 2)=false by simp;omega]
 dsimp only [m_Ig_5]
 rw [if_neg (by simp)]
 dsimp only [m_Ih,m_Ih_0]
 rw [ck_eq (by simp;omega),ck_eq (by simp;omega)]
 simp only [Option.bind_some,List.nil_append]
 have key:loopM (lp_Ig_17 (w:Int) a b) (0,a,b)=some (List.zipWith (utx w) a b,List.zipWith (uty w) a b):=by
  have:=loopM_fun (b:=lp_Ig_17 (w:Int) a b) (fun i (s:List Int×List Int)=>((i:Int),s.1,s.2)) a.length
   (fun i=>((List.zipWith (utx w) a b).take i++a.drop i,(List.zipWith (uty w) a b).take i++b.drop i)) (e:=(List.zipWith (utx w) a b,List.zipWith (uty w) a b)) (fun i hi=>?_) ?_
  ·simpa using this
  ·have hib:i < b.length:=by omega
   have hax:=ha a[i] (by simp)
   have hbx:=hb b[i] (by simp)
   obtain ⟨v1,v2,v3,v4,v5⟩ :=ut_vals w hw a[i] b[i] hax hbx
   have fx:=upd_at (List.zipWith (utx w) a b) a i (by omega) hX
   have fy:=upd_at (List.zipWith (uty w) a b) b i (by omega) (by omega)
   have rx:=rd_upd (List.zipWith (utx w) a b) a i (by omega) hX
   have ry:=rd_upd (List.zipWith (uty w) a b) b i (by omega) (by omega)
   have rx2:=rd_upd2 (List.zipWith (utx w) a b) a i (by omega) hX
   have gx:(List.zipWith (utx w) a b)[i]'(by omega)=utx w a[i] b[i]:=by simp
   have gy:(List.zipWith (uty w) a b)[i]'(by omega)=uty w a[i] b[i]:=by simp
   rw [gx] at fx rx2
   rw [gy] at fy
   have zx:w≠2→List.zipWith (utx w) a b=a:=fun h=>by
    apply List.ext_getElem
    ·exact hX
    ·intro j h1 h2
     simp [utx,h]
   have zy:w=0→List.zipWith (uty w) a b=b:=fun h=>by
    apply List.ext_getElem
    ·omega
    ·intro j h1 h2
     simp [uty,h]
   dsimp only
   have e33:m_Ig_33 (w:Int) a b (i:Int) ((List.zipWith (uty w) a b).take i++b.drop i) ((List.zipWith (utx w) a b).take (i+1)++a.drop (i+1))=some (.inl (((i+1:Nat):Int),(List.zipWith (utx w) a b).take (i+1)++a.drop (i+1),(List.zipWith (uty w) a b).take (i+1)++b.drop (i+1))):=by
    dsimp only [m_Ig_33]
    by_cases h0:w=0
    ·rw [if_neg (by simp [h0]),w64_succ (by omega),zy h0,List.take_append_drop,List.take_append_drop]
    ·rw [if_pos (by simp;omega),rx2,rd_eq hib,ry]
     simp only [Option.bind_some]
     have:w64 (utx w a[i] b[i] - b[i])=uty w a[i] b[i]:=by
      unfold uty utx
      rw [if_neg h0]
      by_cases h2:w=2
      ·rw [if_pos h2,v4]
      ·rw [if_neg h2,v5]
     rw [this,fy,w64_succ (by omega)]
   dsimp only [lp_Ig_17,m_Ig_17]
   rw [if_pos (by simpa using hi)]
   by_cases h2:w=2
   ·rw [if_pos (by simp [h2]),rd_eq hi,rd_eq hib,rx]
    simp only [Option.bind_some]
    have e2:utx w a[i] b[i]=(2*a[i]+b[i] % 2+b[i]) / 2:=by unfold utx;rw [if_pos h2]
    rw [v1,v3,←e2,fx,e33]
   ·rw [if_neg (by simp;omega)]
    have e3:(List.zipWith (utx w) a b).take i++a.drop i=(List.zipWith (utx w) a b).take (i+1)++a.drop (i+1):=by
     rw [zx h2,List.take_append_drop,List.take_append_drop]
    rw [e3,e33]
  ·dsimp only [lp_Ig_17,m_Ig_17]
   rw [if_neg (by simp),List.take_of_length_le (by omega),List.take_of_length_le (by omega),List.drop_of_length_le (by omega),List.drop_of_length_le (by omega)]
   simp
 rw [key]
 simp only [Option.bind_some]
 dsimp only [m_Ig_39]
 rw [impl_list26 _ (by omega),impl_list26 _ (by omega),decide_eq_true (by omega:(List.zipWith (utx w) a b).length≤4000),decide_eq_true (by omega:(List.zipWith (uty w) a b).length≤4000)]
 simp only [Option.bind_some,Bool.true_and]
 unfold untF
 cases h1:allIn (-67108864) 67108863 (List.zipWith (utx w) a b) with
 | false=>simp [m_Ig_42]
 | true=>
  cases h2:allIn (-67108864) 67108863 (List.zipWith (uty w) a b) with
  | false=>simp [m_Ig_42]
  | true=>simp [m_Ig_42]
theorem untF_len:((untF w a b).1=[]∧(untF w a b).2=[])∨((untF w a b).1.length=a.length∧(untF w a b).2.length=a.length):=by
 unfold untF
 split
 ·right;simp;omega
 ·left;exact ⟨rfl,rfl⟩
end
def headOk (rate bits frame many:Int):Bool:=decide (1≤rate∧rate≤1000000∧2≤bits∧bits≤24∧1≤frame∧frame≤512∧many≤4000)
theorem spec_headok (rate bits frame many ch:Int) (l:List (List Int)) (hch:1≤ch∧ch≤2):m_Sf (Za.mk rate bits frame l) ch many=some (headOk rate bits frame many):=by
 dsimp only [m_Sf,m_Sf_0]
 unfold headOk
 by_cases h1:rate < 1
 ·rw [if_pos (by simpa using h1),decide_eq_false (by omega)]
 rw [if_neg (by simpa using h1)]
 by_cases h2:rate > 1000000
 ·rw [if_pos (by simpa using h2),decide_eq_false (by omega)]
 rw [if_neg (by simpa using h2)]
 by_cases h3:bits < 2
 ·rw [if_pos (by simpa using h3),decide_eq_false (by omega)]
 rw [if_neg (by simpa using h3)]
 by_cases h4:bits > 24
 ·rw [if_pos (by simpa using h4),decide_eq_false (by omega)]
 rw [if_neg (by simpa using h4)]
 by_cases h5:frame < 1
 ·rw [if_pos (by simpa using h5),decide_eq_false (by omega)]
 rw [if_neg (by simpa using h5)]
 by_cases h6:frame > 512
 ·rw [if_pos (by simpa using h6),decide_eq_false (by omega)]
 rw [if_neg (by simpa using h6),if_pos (by simp;omega),if_pos (by simp;omega)]
 by_cases h7:many≤4000
 ·rw [decide_eq_true h7,decide_eq_true (by omega)]
 ·rw [decide_eq_false h7,decide_eq_false (by omega)]
theorem impl_goods (rate bits frame:Int) (ch:Nat) (hch:1≤ch∧ch≤2):m_Id (Za.mk rate bits frame (List.replicate ch []))=some (headOk rate bits frame 0):=by
 dsimp only [m_Id,m_Id_0]
 unfold headOk
 by_cases h1:rate < 1
 ·rw [if_pos (by simpa using h1),decide_eq_false (by omega)]
 rw [if_neg (by simpa using h1)]
 by_cases h2:rate > 1000000
 ·rw [if_pos (by simpa using h2),decide_eq_false (by omega)]
 rw [if_neg (by simpa using h2)]
 by_cases h3:bits < 2
 ·rw [if_pos (by simpa using h3),decide_eq_false (by omega)]
 rw [if_neg (by simpa using h3)]
 by_cases h4:bits > 24
 ·rw [if_pos (by simpa using h4),decide_eq_false (by omega)]
 rw [if_neg (by simpa using h4)]
 by_cases h5:frame < 1
 ·rw [if_pos (by simpa using h5),decide_eq_false (by omega)]
 rw [if_neg (by simpa using h5)]
 by_cases h6:frame > 512
 ·rw [if_pos (by simpa using h6),decide_eq_false (by omega)]
 rw [if_neg (by simpa using h6),if_neg (by simp;omega),if_neg (by simp;omega),decide_eq_true (by omega)]
 obtain ⟨bN,rfl⟩:∃ n:Nat,bits=n:=⟨bits.toNat,by omega⟩
 have key:=all_list (l:=List.replicate ch ([]:List Int)) (q:=fun _=>true) (b:=lp_Id_17 (Za.mk rate (bN:Int) frame (List.replicate ch []))) (by simp;omega) (fun i hi=>by
  dsimp only [lp_Id_17,m_Id_17]
  have h0:0 < (List.replicate ch ([]:List Int)).length:=by simp;omega
  rw [if_pos (by simpa using hi),rd_eq hi]
  simp only [Option.bind_some]
  rw [show ((0:Int))=((0:Nat):Int) from rfl,rd_eq h0]
  simp only [Option.bind_some,List.getElem_replicate]
  rw [if_neg (by simp)]
  have:=impl_in bN (by omega) [] (by simp)
  rw [show ((0:Nat):Int)=0 from rfl,ck_eq (by rw [w64_id (by omega) (by omega)];omega)]
  simp only [Option.bind_some]
  rw [this]
  simp only [Option.bind_some]
  rw [show inOk bN []=true from rfl,w64_succ (by simp at hi;omega)]
  rfl) (by
  dsimp only [lp_Id_17,m_Id_17]
  rw [if_neg (by simp)])
 rw [key]
 have:(List.replicate ch ([]:List Int)).all (fun _=>true)=true:=by simp
 rw [this]
 rfl
end Go.Proofs.V

namespace Go.Proofs.V
open Go
theorem wu32_eq (x:Int):wr .u32 x=x % 4294967296:=by
 unfold wr IntKind.wrap
 simp [IntKind.bits,IntKind.signed]
theorem wu32_rng (x:Int):0≤wr .u32 x∧wr .u32 x < 4294967296:=by rw [wu32_eq];omega
def crc1 (r:Int):Int:=if andI .u32 r 1 == 1 then xorI .u32 (shrI .u32 r 1) 3988292384 else shrI .u32 r 1
def crc8 (r:Int):Int:=(List.range 8).foldl (fun r _=>crc1 r) r
def crcF (l:List Int):Int:=notI .u32 (l.foldl (fun r c=>crc8 (xorI .u32 r (wr .u32 c))) 4294967295)
theorem xor_rng (a b:Int):0≤xorI .u32 a b∧xorI .u32 a b < 4294967296:=wu32_rng _
theorem crcF_rng (l:List Int):0≤crcF l∧crcF l < 4294967296:=wu32_rng _
theorem shr1 (r:Int) (h:0≤r∧r < 4294967296):shrI .u32 r 1=r / 2:=by
 unfold shrI
 rw [show (2:Int) ^ min (Int.toNat 1) IntKind.u32.bits=2 from rfl,Int.fdiv_eq_ediv_of_nonneg _ (by omega)]
theorem crc1_rng (r:Int) (h:0≤r∧r < 4294967296):0≤crc1 r∧crc1 r < 4294967296:=by
 unfold crc1
 split
 ·exact xor_rng _ _
 ·rw [shr1 r h];omega
theorem and1_u32 (r:Int):andI .u32 r 1=0∨andI .u32 r 1=1:=by
 unfold andI
 have h1:(BitVec.ofInt IntKind.u32.bits r &&& BitVec.ofInt IntKind.u32.bits 1).toNat≤1:=by
  show (BitVec.ofInt 32 r &&& BitVec.ofNat 32 1).toNat≤1
  rw [BitVec.toNat_and,BitVec.toNat_ofNat]
  exact Nat.and_le_right
 have h2:∀ k:Nat,k≤1→IntKind.wrap .u32 (k:Int)=0∨IntKind.wrap .u32 (k:Int)=1:=by
  intro k hk
  have:k=0∨k=1:=by omega
  rcases this with rfl | rfl
  ·left;rfl
  ·right;rfl
 exact h2 _ h1
theorem xor_zero_u32 (x:Int) (h:0≤x∧x < 4294967296):xorI .u32 x 0=x:=by
 unfold xorI
 show IntKind.u32.wrap ((BitVec.ofInt 32 x ^^^ 0#32).toNat:Int)=x
 rw [BitVec.xor_zero]
 obtain ⟨n,rfl⟩:∃ n:Nat,x=n:=⟨x.toNat,by omega⟩
 rw [BitVec.ofInt_natCast,BitVec.toNat_ofNat,Nat.mod_eq_of_lt (by omega)]
 exact wu32_id (by omega) (by omega)
theorem crc1_impl (r:Int) (h:0≤r∧r < 4294967296):xorI .u32 (shrI .u32 r 1) (wr .u32 (3988292384*(andI .u32 r 1)))=crc1 r:=by
 unfold crc1
 rcases and1_u32 r with h1 | h1
 ·rw [h1,if_neg (by decide),show wr .u32 (3988292384*0)=0 from rfl]
  exact xor_zero_u32 _ (by rw [shr1 r h];omega)
 ·rw [h1,if_pos (by decide),show wr .u32 (3988292384*1)=3988292384 from rfl]
theorem crc8_rng (r:Int) (h:0≤r∧r < 4294967296):0≤crc8 r∧crc8 r < 4294967296:=by
 have:∀ (k:List Nat) (r:Int),0≤r∧r < 4294967296→0≤k.foldl (fun r _=>crc1 r) r∧k.foldl (fun r _=>crc1 r) r < 4294967296:=by
  intro k
  induction k with
  | nil=>intro r h;exact h
  | cons a k ih=>intro r h;exact ih _ (crc1_rng r h)
 exact this _ r h
theorem spec_crc8 (p0:List Int) (i:Int) (r:Int) (h:0≤r∧r < 4294967296):loopM (lp_Sa_25 p0 i) (r,0)=some (crc8 r):=by
 refine (fold_range (n:=8) (fun (s:Int) i=>(s,(i:Int))) (g:=fun r _=>crc1 r) (I:=fun _ s=>0≤s∧s < 4294967296) (e1:=fun s=>s) (fun i s hi hI=>⟨?_,crc1_rng s hI⟩) (fun s hI=>?_) r h).1
 ·simp only [lp_Sa_25,m_Sa_25,decide_eq_true_eq]
  rw [if_pos (by omega),w64_succ (by omega)]
  unfold crc1
  split <;> rfl
 ·simp only [lp_Sa_25,m_Sa_25]
  rfl
theorem impl_crc8 (p0:List Int) (i:Int) (r:Int) (h:0≤r∧r < 4294967296):loopM (lp_Ia_25 p0 i) (r,0)=some (crc8 r):=by
 refine (fold_range (n:=8) (fun (s:Int) i=>(s,(i:Int))) (g:=fun r _=>crc1 r) (I:=fun _ s=>0≤s∧s < 4294967296) (e1:=fun s=>s) (fun i s hi hI=>⟨?_,crc1_rng s hI⟩) (fun s hI=>?_) r h).1
 ·simp only [lp_Ia_25,m_Ia_25,decide_eq_true_eq]
  rw [if_pos (by omega),w64_succ (by omega),crc1_impl s hI]
 ·simp only [lp_Ia_25,m_Ia_25]
  rfl
theorem spec_crc (l:List Int) (hl:l.length≤2305843009213693952):m_Sa l=some (crcF l):=by
 unfold m_Sa m_Sa_0
 have key:=fold_list (l:=l) (fun (s:Int) i=>(s,(i:Int))) (g:=fun r c=>crc8 (xorI .u32 r (wr .u32 c))) (I:=fun _ s=>0≤s∧s < 4294967296) (b:=lp_Sa_9 l) (e1:=fun s=>s)
  (fun i s hi hI=>⟨by
   simp only [lp_Sa_9,m_Sa_9,decide_eq_true_eq]
   rw [if_pos (by omega),rd_eq hi]
   simp only [Option.bind_some]
   rw [spec_crc8 _ _ _ (xor_rng _ _)]
   simp only [Option.bind_some,m_Sa_43]
   rw [w64_succ (by omega)],crc8_rng _ (xor_rng _ _)⟩)
  (fun s hI=>by
   simp only [lp_Sa_9,m_Sa_9]
   rw [if_neg (by simp)]) 4294967295 (by omega)
 have k1:=key.1
 simp only [show ((0:Nat):Int)=0 from rfl] at k1
 rw [k1]
 rfl
theorem impl_crc (l:List Int) (hl:l.length≤2305843009213693952):m_Ia l=some (crcF l):=by
 unfold m_Ia m_Ia_0
 have key:=fold_list (l:=l) (fun (s:Int) i=>(s,(i:Int))) (g:=fun r c=>crc8 (xorI .u32 r (wr .u32 c))) (I:=fun _ s=>0≤s∧s < 4294967296) (b:=lp_Ia_9 l) (e1:=fun s=>s)
  (fun i s hi hI=>⟨by
   simp only [lp_Ia_9,m_Ia_9,decide_eq_true_eq]
   rw [if_pos (by omega),rd_eq hi]
   simp only [Option.bind_some]
   rw [impl_crc8 _ _ _ (xor_rng _ _)]
   simp only [Option.bind_some,m_Ia_35]
   rw [w64_succ (by omega)],crc8_rng _ (xor_rng _ _)⟩)
  (fun s hI=>by
   simp only [lp_Ia_9,m_Ia_9]
   rw [if_neg (by simp)]) 4294967295 (by omega)
 have k1:=key.1
 simp only [show ((0:Nat):Int)=0 from rfl] at k1
 rw [k1]
 rfl
end Go.Proofs.V

namespace Go.Proofs.V
open Go
def rsts (n:Nat):List Int→List (List Int)→Option (List (List Int))
 | o::os,l::ls=>if (restF o.toNat l).length=n then (rsts n os ls).map (restF o.toNat l :: ·) else none
 | _,_=>some []
def turned (ch way:Nat) (ms:List (List Int)):List (List Int):=if ch=2 then [(untF way (ms.getD 0 []) (ms.getD 1 [])).1,(untF way (ms.getD 0 []) (ms.getD 1 [])).2] else ms
def sumF (b:List Int) (f t:Nat):Int:=andI .u32 (crcF ((b.take t).drop f)) 65535
def frameE (b:List Int) (ch n bits p:Nat):RdA (List (List Int)):=match tkE b 2 p with
 | .error c=>.error c
 | .ok (way,p1)=>if way=3∨(ch=1∧way≠0) then .error 5 else (match listsE b n ch p1 [] [] with
  | .error c=>.error c
  | .ok ((ls,os),p2)=>if fillN b p2 ((8 - p2 % 8) % 8)=true then (match tkE b 16 (p2+(8 - p2 % 8) % 8) with
   | .error c=>.error c
   | .ok (s,p4)=>if s=sumF b (p / 8) ((p2+(8 - p2 % 8) % 8) / 8) then (match rsts n os ls with
    | none=>.error 5
    | some ms=>if (turned ch way.toNat ms).all (fun l=>decide (l.length=n)&&inOk bits l)=true then .ok (turned ch way.toNat ms,p4) else .error 5) else .error 3) else .error 4)
section
variable {b:List Int} (hb:ByteL b)
theorem partsE_len {n o q:Nat} (hn:n≤1000):∀ (k i p:Nat) (acc l:List Int) (p' : Nat),p≤8*b.length→partsE b n o q k i p acc = .ok (l,p')→l.length≤acc.length+k*(n / 2 ^ q)
 | 0,i,p,acc,l,p',hp,h=>by unfold partsE at h;simp at h;obtain ⟨rfl,rfl⟩ :=h;omega
 | k+1,i,p,acc,l,p',hp,h=>by
  unfold partsE at h
  cases hq:tkE b 5 p with
  | error c'=>rw [hq] at h;simp at h
  | ok x=>
   obtain ⟨v,q1⟩ :=x
   rw [hq] at h
   dsimp only at h
   have h1:=tkE_le hq
   split at h
   ·simp at h
   ·cases hr:ricesE b v.toNat (manyN n o q i) q1 acc with
    | error c'=>rw [hr] at h;simp at h
    | ok y=>
     obtain ⟨l2,p2⟩ :=y
     rw [hr] at h
     obtain ⟨h2,h3,h4⟩ :=ricesE_le _ _ _ _ _ h1.2.1 hr
     have h5:=partsE_len hn k (i+1) p2 l2 l p' h2 h
     have hm:manyN n o q i≤n / 2 ^ q:=Nat.sub_le _ _
     rw [Nat.succ_mul];omega
theorem listE_facts {n p q:Nat} {o:Int} {l:List Int} (hn:n≤1000) (hp:p≤8*b.length) (h:listE b n p = .ok ((o,l),q)):0≤o∧o≤4∧l.length≤4+n∧q≤8*b.length∧p < q:=by
 unfold listE at h
 cases hq:tkE b 3 p with
 | error c=>rw [hq] at h;simp at h
 | ok x=>
  obtain ⟨ov,p1⟩ :=x
  rw [hq] at h
  dsimp only at h
  obtain ⟨t1,t2,t3⟩ :=tkE_le hq
  split at h
  ·simp at h
  ·rename_i hk
   cases hs:sgsE b ov.toNat p1 [] with
   | error c=>rw [hs] at h;simp at h
   | ok y=>
    obtain ⟨l1,p2⟩ :=y
    rw [hs] at h
    dsimp only at h
    obtain ⟨s1,s2,s3⟩ :=sgsE_le _ _ _ _ _ t2 hs
    cases ht:tkE b 3 p2 with
    | error c=>rw [ht] at h;simp at h
    | ok z=>
     obtain ⟨qv,p3⟩ :=z
     rw [ht] at h
     dsimp only at h
     obtain ⟨u1,u2,u3⟩ :=tkE_le ht
     split at h
     ·cases hz:partsE b n ov.toNat qv.toNat (2 ^ qv.toNat) 0 p3 l1 with
      | error c=>rw [hz] at h;simp at h
      | ok w=>
       obtain ⟨l2,p4⟩ :=w
       rw [hz] at h
       simp at h
       obtain ⟨⟨rfl,rfl⟩,rfl⟩ :=h
       have e1:=partsE_len hn _ _ _ _ _ _ u2 hz
       obtain ⟨e2,_,e3⟩ :=partsE_le hn _ _ _ _ _ _ u2 hz
       have e4:=Nat.mul_div_le n (2 ^ qv.toNat)
       simp at s2
       refine ⟨by omega,by omega,by omega,e2,by omega⟩
     ·simp at h
theorem listsE_facts {n:Nat} (hn:n≤1000):∀ (k p:Nat) (ls:List (List Int)) (os:List Int) (ls' : List (List Int)) (os' : List Int) (q:Nat),p≤8*b.length→listsE b n k p ls os = .ok ((ls',os'),q)→
  q≤8*b.length∧p≤q∧ls'.length=ls.length+k∧os'.length=os.length+k∧((∀ l ∈ ls,l.length≤4+n)→∀ l ∈ ls',l.length≤4+n)∧((∀ o ∈ os,0≤o∧o≤4)→∀ o ∈ os',0≤o∧o≤4)
 | 0,p,ls,os,ls',os',q,hp,h=>by
  unfold listsE at h
  simp at h
  obtain ⟨⟨rfl,rfl⟩,rfl⟩ :=h
  exact ⟨hp,Nat.le_refl _,rfl,rfl,id,id⟩
 | k+1,p,ls,os,ls',os',q,hp,h=>by
  unfold listsE at h
  cases hq:listE b n p with
  | error c=>rw [hq] at h;simp at h
  | ok x=>
   obtain ⟨⟨o,l⟩,q1⟩ :=x
   rw [hq] at h
   obtain ⟨f1,f2,f3,f4,f5⟩ :=listE_facts hn hp hq
   obtain ⟨g1,g2,g3,g4,g5,g6⟩ :=listsE_facts hn k q1 _ _ ls' os' q f4 h
   refine ⟨g1,by omega,by rw [g3];simp;omega,by rw [g4];simp;omega,fun hl=>g5 fun l' hl'=>?_,fun ho=>g6 fun o' ho'=>?_⟩
   ·rcases List.mem_append.1 hl' with hl' | hl'
    ·exact hl l' hl'
    ·simp at hl';subst hl';exact f3
   ·rcases List.mem_append.1 ho' with ho' | ho'
    ·exact ho o' ho'
    ·simp at ho';subst ho';exact ⟨f1,f2⟩
theorem rsts_facts (n:Nat):∀ (os:List Int) (ls ms:List (List Int)),os.length=ls.length→rsts n os ls=some ms→ms.length=ls.length∧∀ m ∈ ms,m.length=n∧∀ x ∈ m,-67108864≤x∧x≤67108863
 | [],[],ms,_,h=>by unfold rsts at h;simp at h;subst h;simp
 | [],_::_,ms,hl,h=>by simp at hl
 | _::_,[],ms,hl,h=>by simp at hl
 | o::os,l::ls,ms,hl,h=>by
  unfold rsts at h
  split at h
  ·rename_i hk
   cases hq:rsts n os ls with
   | none=>rw [hq] at h;simp at h
   | some ms'=>
    rw [hq] at h
    simp at h
    subst h
    obtain ⟨h1,h2⟩ :=rsts_facts n os ls ms' (by simpa using hl) hq
    refine ⟨by simp [h1],fun m hm=>?_⟩
    rcases List.mem_cons.1 hm with rfl | hm
    ·exact ⟨hk,(restF_facts _ _).2⟩
    ·exact h2 m hm
  ·simp at h
theorem sumF_rng (f t:Nat):0≤sumF b f t∧sumF b f t≤65535:=by
 unfold sumF andI
 have hc:=crcF_rng ((b.take t).drop f)
 obtain ⟨c,hc2⟩:∃ c:Nat,crcF ((b.take t).drop f)=c:=⟨(crcF ((b.take t).drop f)).toNat,by omega⟩
 rw [hc2]
 have h1:(BitVec.ofInt IntKind.u32.bits (c:Int) &&& BitVec.ofInt IntKind.u32.bits 65535).toNat≤65535:=by
  show (BitVec.ofInt 32 (c:Int) &&& BitVec.ofNat 32 65535).toNat≤65535
  rw [BitVec.toNat_and]
  exact Nat.le_trans Nat.and_le_right (by decide)
 generalize (BitVec.ofInt IntKind.u32.bits (c:Int) &&& BitVec.ofInt IntKind.u32.bits 65535).toNat=x at h1
 have:IntKind.u32.wrap (x:Int)=(x:Int):=wu32_id (by omega) (by omega)
 rw [this];omega
include hb
theorem s_lists (s:Za) (n ch:Nat) (hn:n≤1000) (hch:ch≤2) (f:Int) (x0:Int×Zc):∀ (k i p:Nat) (ls:List (List Int)) (os:List Int),i+k=ch→ls.length=i→os.length=i→p≤8*b.length→
  ∃ ls' os' r,loopM (lp_Sl_21 s (ch:Int) (n:Int) f x0) ((i:Int),b,(p:Int),0,os,ls)=some (r.data,r.at_,r.err,os',ls')∧SR b (listsE b n k p ls os) (ls',os') r
 | 0,i,p,ls,os,hi,h1,h2,hp=>by
  refine ⟨ls,os,Zc.mk b p 0,lp_end ?_,rfl,rfl,hp⟩
  dsimp only [lp_Sl_21,m_Sl_21]
  rw [if_neg (by simp;omega)]
 | k+1,i,p,ls,os,hi,h1,h2,hp=>by
  obtain ⟨o,l,r,h3,g3⟩ :=s_list hb n p hn hp
  have step:lp_Sl_21 s (ch:Int) (n:Int) f x0 ((i:Int),b,(p:Int),0,os,ls)=some (.inl (((i+1:Nat):Int),r.data,r.at_,r.err,os++[o],ls++[l])):=by
   dsimp only [lp_Sl_21,m_Sl_21]
   rw [if_pos (by simp;omega),if_pos (by simp),h3]
   simp only [Option.bind_some]
   rw [ck_eq (by simp;omega)]
   simp only [Option.bind_some]
   rw [ck_eq (by simp;omega)]
   simp only [Option.bind_some]
   rw [w64_succ (by omega)]
  rw [lp_step step]
  unfold listsE
  cases hq:listE b n p with
  | error c=>
   rw [hq] at g3
   obtain ⟨hc,p',rfl,hp'⟩ :=g3
   refine ⟨ls++[l],os++[o],Zc.mk b p' c,lp_end ?_,hc,p',rfl,hp'⟩
   dsimp only [lp_Sl_21,m_Sl_21]
   rw [if_neg (show ¬ ((c == 0)=true) by simpa using hc),ite_self]
  | ok x=>
   obtain ⟨⟨o',l'⟩,q⟩ :=x
   rw [hq] at g3
   obtain ⟨hv,rfl,hq2⟩ :=g3
   simp only [Prod.mk.injEq] at hv
   obtain ⟨rfl,rfl⟩ :=hv
   exact s_lists s n ch hn hch f x0 k (i+1) q _ _ (by omega) (by simp;omega) (by simp;omega) hq2
omit hb in
theorem s_rsts (s:Za) (ch n:Int) (nN:Nat) (hn:n=nN) (x0:Int×Zc) (L:List (List Int)) (O:List Int) (p:Int) (hLO:O.length=L.length) (hO:∀ o ∈ O,0≤o∧o≤4) (hlen:L.length≤1000):∀ (R D:List (List Int)),D.length+R.length=L.length→(∀ l ∈ R,l.length≤4000)→
  loopM (lp_Sl_68 s ch n x0 L b p 0 O) ((D.length:Int),D++R)=some (match rsts nN (O.drop D.length) R with | some ms=>.inr (D++ms) | none=>.inl ([],Zc.mk b p 5,s))
 | [],D,h1,h2=>by
  refine lp_end ?_
  dsimp only [lp_Sl_68,m_Sl_68]
  simp at h1
  rw [if_neg (by simp;omega)]
  have:O.drop D.length=[]:=List.drop_of_length_le (by omega)
  rw [this]
  simp [rsts]
 | l::R,D,h1,h2=>by
  have hD:D.length < O.length:=by simp at h1;omega
  have ho:=hO (O.getD D.length 0) (by rw [List.getD_eq_getElem?_getD,List.getElem?_eq_getElem hD];simp)
  have hdr:O.drop D.length=O.getD D.length 0::O.drop (D.length+1):=by
   rw [List.drop_eq_getElem_cons hD,List.getD_eq_getElem?_getD,List.getElem?_eq_getElem hD];rfl
  obtain ⟨oN,hoN⟩:∃ m:Nat,O.getD D.length 0=m:=⟨(O.getD D.length 0).toNat,by omega⟩
  have hrs:=spec_restore oN (by omega) l (h2 l (by simp))
  have hrd:rd (D++l::R) (D.length:Int)=some l:=by
   rw [rd_d [] (by simp),List.getD_eq_getElem?_getD,List.getElem?_append_right (Nat.le_refl _)];simp
  have hset:∀ y,(D++l::R).set (0+Int.toNat (D.length:Int)) y=D++y::R:=fun y=>by
   rw [Int.toNat_natCast,Nat.zero_add,List.set_append_right _ _ (Nat.le_refl _),Nat.sub_self];rfl
  have step:lp_Sl_68 s ch n x0 L b p 0 O ((D.length:Int),D++l::R)=if (restF oN l).length=nN then some (.inl (((D.length+1:Nat):Int),D++restF oN l::R)) else some (.inr (.inl ([],Zc.mk b p 5,s))):=by
   dsimp only [lp_Sl_68,m_Sl_68]
   rw [if_pos (by simp at h1 ⊢;omega),rd_d 0 hD,hoN]
   simp only [Option.bind_some]
   rw [hrd]
   simp only [Option.bind_some]
   rw [hrs]
   simp only [Option.bind_some]
   rw [hset,w64_succ (by omega),hn,s_fail]
   by_cases hk:(restF oN l).length=nN
   ·rw [if_neg (by simp [hk]),if_pos hk]
   ·rw [if_pos (by simp;omega),if_neg hk];rfl
  rw [hdr]
  unfold rsts
  rw [hoN,Int.toNat_natCast]
  by_cases hk:(restF oN l).length=nN
  ·rw [if_pos hk] at step ⊢
   have ih:=s_rsts s ch n nN hn x0 L O p hLO hO hlen R (D++[restF oN l]) (by simp at h1 ⊢;omega) (fun x hx=>h2 x (by simp [hx]))
   refine (lp_step step).trans ?_
   have e1:(D++[restF oN l]).length=D.length+1:=by simp
   rw [e1,List.append_assoc] at ih
   rw [show D++restF oN l::R=D++([restF oN l]++R) from rfl,ih]
   cases rsts nN (O.drop (D.length+1)) R <;> simp
  ·rw [if_neg hk] at step ⊢
   exact lp_end step
omit hb in
theorem s_check (s:Za) (bits n:Nat) (hs:s.bits=bits) (hbits:2≤bits∧bits≤24) (L:List (List Int)) (p:Int) (hlen:L.length≤1000) (hL:∀ l ∈ L,l.length≤4000) :
  loopM (lp_Sl_103 s (n:Int) L) (0,b,p,0)=some (b,p,if L.all (fun l=>decide (l.length=n)&&inOk bits l)=true then 0 else 5):=by
 have key:∀ (k i:Nat) (e:Int),i+k=L.length→(e=0∨e=5)→loopM (lp_Sl_103 s (n:Int) L) ((i:Int),b,p,e)=some (b,p,if e=0∧(L.drop i).all (fun l=>decide (l.length=n)&&inOk bits l)=true then 0 else 5):=by
  intro k
  induction k with
  | zero=>
   intro i e hi he
   refine lp_end ?_
   dsimp only [lp_Sl_103,m_Sl_103]
   rw [if_neg (by simp;omega),List.drop_of_length_le (by omega)]
   rcases he with rfl | rfl <;> simp
  | succ k ih=>
   intro i e hi he
   have hil:i < L.length:=by omega
   have hs':=spec_in bits hbits L[i] (by have:=hL L[i] (by simp);omega)
   have step:lp_Sl_103 s (n:Int) L ((i:Int),b,p,e)=some (.inl (((i+1:Nat):Int),b,p,if e=0∧(decide (L[i].length=n)&&inOk bits L[i])=true then 0 else 5)):=by
    have k115:∀ q:Bool,m_Sl_115 s (n:Int) L (i:Int) b p e q=some (.inl (((i+1:Nat):Int),b,p,if e=0∧q=false then 0 else 5)):=by
     intro q
     dsimp only [m_Sl_115]
     rw [w64_succ (by omega)]
     cases q with
     | true=>
      rw [if_pos rfl,s_fail]
      simp only [Option.bind_some]
      rcases he with rfl | rfl <;> simp [stand]
     | false=>
      rw [if_neg (by simp)]
      rcases he with rfl | rfl <;> simp
    dsimp only [lp_Sl_103,m_Sl_103]
    rw [if_pos (by simpa using hil),rd_eq hil]
    simp only [Option.bind_some]
    by_cases hk:L[i].length=n
    ·rw [if_neg (by simp [hk]),hs,hs']
     simp only [Option.bind_some]
     rw [k115,decide_eq_true hk,Bool.true_and]
     cases inOk bits L[i] <;> simp
    ·rw [if_pos (by simp;omega),k115,decide_eq_false hk]
     simp
   rw [lp_step step,ih (i+1) _ (by omega) (by split <;> simp),List.drop_eq_getElem_cons hil,List.all_cons]
   rcases he with rfl | rfl
   ·by_cases hq:(decide (L[i].length=n)&&inOk bits L[i])=true
    ·simp [hq]
    ·have hq' : (decide (L[i].length=n)&&inOk bits L[i])=false:=by simpa using hq
     simp [hq']
   ·simp
 have:=key L.length 0 0 (by omega) (.inl rfl)
 simpa using this
end
end Go.Proofs.V

namespace Go.Proofs.V
open Go
theorem s_fill {b:List Int} (hb:ByteL b) (p:Nat) (hp:p≤8*b.length):∃ p' : Nat,m_Sk ⟨b,p,0⟩=some (Zc.mk b (p' : Int) (if fillN b p ((8 - p % 8) % 8) then 0 else 4))∧(fillN b p ((8 - p % 8) % 8)=true→p' = p+(8 - p % 8) % 8)∧p'≤8*b.length:=by
 obtain ⟨p',h1,h2⟩ :=s_fill_loop hb ((8 - p % 8) % 8) p hp rfl
 have key:∀ (n p:Nat) (r:Zc),p≤8*b.length→(8 - p % 8) % 8=n→loopM lp_Sk_2 (b,(p:Int),0)=some r→∃ q:Nat,r.at_=q∧q≤8*b.length:=by
  intro n
  induction n with
  | zero=>
   intro p r hp hn hr
   rw [lp_end (e:=Zc.mk b p 0) (by
    dsimp only [lp_Sk_2,m_Sk_2]
    rw [mod8d,if_neg (by simp;omega)])] at hr
   simp at hr
   subst hr
   exact ⟨p,rfl,hp⟩
  | succ n ih=>
   intro p r hp hn hr
   have h1:=s_take hb p 1 0 hp (by omega)
   rw [if_pos rfl,if_pos (by omega),show ((1:Nat):Int)=1 from rfl] at h1
   by_cases h2:((bV b p 1:Nat):Int)=1
   ·rw [lp_step (s':=(b,((p+1:Nat):Int),4)) (by
     dsimp only [lp_Sk_2,m_Sk_2]
     rw [mod8d,if_pos (by simp;omega),if_pos (by simp),h1]
     simp only [Option.bind_some]
     rw [if_pos (by simpa using h2),s_fail]
     rfl)] at hr
    rw [lp_end (e:=Zc.mk b ((p+1:Nat):Int) 4) (by
     dsimp only [lp_Sk_2,m_Sk_2]
     split
     ·rfl
     ·rfl)] at hr
    simp at hr
    subst hr
    exact ⟨p+1,rfl,by omega⟩
   ·rw [lp_step (s':=(b,((p+1:Nat):Int),0)) (by
     dsimp only [lp_Sk_2,m_Sk_2]
     rw [mod8d,if_pos (by simp;omega),if_pos (by simp),h1]
     simp only [Option.bind_some]
     rw [if_neg (by simpa using h2)])] at hr
    exact ih (p+1) r (by omega) (by omega) hr
 obtain ⟨q,h3,h4⟩ :=key _ p _ hp rfl h1
 refine ⟨p',?_,h2,?_⟩
 ·unfold m_Sk m_Sk_0
  simp only [h1,Option.bind_some]
 ·dsimp only at h3;omega
theorem s_fill_e (b:List Int) (p e:Int) (he:e≠0):m_Sk ⟨b,p,e⟩=some ⟨b,p,e⟩ :=by
 unfold m_Sk m_Sk_0
 rw [loopM_eq]
 simp only [lp_Sk_2,m_Sk_2]
 rw [if_neg (c:=(e == 0)=true) (by simpa using he),ite_self]
 rfl
section
variable {b:List Int} (hb:ByteL b)
theorem turned_facts {n way ch:Nat} {ms:List (List Int)} (hch:ms.length=ch) (hms:∀ m ∈ ms,m.length=n∧∀ x ∈ m,-67108864≤x∧x≤67108863):(turned ch way ms).length=ch∧∀ l ∈ turned ch way ms,l.length≤n:=by
 unfold turned
 by_cases h2:ch=2
 ·rw [if_pos h2]
  subst h2
  have g0:ms.getD 0 [] ∈ ms:=by rw [List.getD_eq_getElem?_getD,List.getElem?_eq_getElem (by omega)];simp
  have hu:∀ a c:List Int,(untF way a c).1.length≤a.length∧(untF way a c).2.length≤a.length:=fun a c=>by
   unfold untF
   split
   ·simp
    omega
   ·simp
  refine ⟨by simp,fun l hl=>?_⟩
  have:=hu (ms.getD 0 []) (ms.getD 1 [])
  have h0:=(hms _ g0).1
  simp only [List.mem_cons,List.not_mem_nil,or_false] at hl
  rcases hl with rfl | rfl <;> omega
 ·rw [if_neg h2]
  exact ⟨hch,fun l hl=>by rw [(hms l hl).1];omega⟩
theorem rd_two {ms:List (List Int)} (h:ms.length=2):rd ms 0=some (ms.getD 0 [])∧rd ms 1=some (ms.getD 1 []):=by
 have h0:=rd_d (l:=ms) (i:=0) [] (by omega)
 have h1:=rd_d (l:=ms) (i:=1) [] (by omega)
 exact ⟨h0,h1⟩
include hb
theorem spec_frame (s:Za) (bits n ch:Nat) (hs:s.bits=bits) (hbits:2≤bits∧bits≤24) (hn:n≤1000) (hch:1≤ch∧ch≤2) (p:Nat) (hp:p≤8*b.length) :
  ∃ rs r,m_Sl ⟨b,p,0⟩ s (ch:Int) (n:Int)=some (rs,r,s)∧SR b (frameE b ch n bits p) rs r∧rs.length≤ch∧∀ l ∈ rs,l.length≤4000:=by
 have hl:=hb.1
 dsimp only [m_Sl,m_Sl_0]
 rw [div8d (by omega)]
 obtain ⟨wv,r,h1,g1⟩ :=s_tk hb p 2 hp (by omega)
 rw [show ((2:Nat):Int)=2 from rfl] at h1
 rw [h1]
 simp only [Option.bind_some]
 have err35:∀ (x0:Int×Zc) (p' : Nat) (c:Int) (O:List Int) (L:List (List Int)),c≠0→m_Sl_35 s (ch:Int) (n:Int) ((p / 8:Nat):Int) x0 b p' c O L=some ([],Zc.mk b p' c,s):=by
  intro x0 p' c O L hc
  dsimp only [m_Sl_35]
  rw [s_fill_e b p' c hc]
  simp only [Option.bind_some]
  rw [if_pos (by simpa using hc)]
 have err12:∀ (x0:Int×Zc) (p' : Nat) (c:Int),c≠0→m_Sl_12 s (ch:Int) (n:Int) ((p / 8:Nat):Int) x0 b p' c=some ([],Zc.mk b p' c,s):=by
  intro x0 p' c hc
  dsimp only [m_Sl_12]
  rw [lp_end (e:=(b,(p' : Int),c,[],[])) (by
   dsimp only [lp_Sl_21,m_Sl_21]
   rw [if_neg (show ¬ ((c == 0)=true) by simpa using hc),ite_self])]
  simp only [Option.bind_some]
  exact err35 x0 p' c [] [] hc
 unfold frameE
 cases hq:tkE b 2 p with
 | error c=>
  rw [hq] at g1
  obtain ⟨hc,p',rfl,hp'⟩ :=g1
  rw [if_neg (by simpa using hc)]
  dsimp only [m_Sl_9]
  rw [if_neg (by simp),err12 _ p' c hc]
  exact ⟨_,_,rfl,⟨hc,p',rfl,hp'⟩,by simp,by simp⟩
 | ok x=>
  obtain ⟨way,p1⟩ :=x
  rw [hq] at g1
  obtain ⟨rfl,rfl,hp1⟩ :=g1
  obtain ⟨t1,t2,t3⟩ :=tkE_le hq
  have hv2:=bV32 (b:=b) p 2 (by omega)
  rw [if_pos (by simp)]
  dsimp only
  have e9:(if (wv == 3)=true then m_Sl_9 s (ch:Int) (n:Int) (wv,Zc.mk b p1 0) ((p / 8:Nat):Int) true else if ((ch:Int) == 1)=true then m_Sl_9 s (ch:Int) (n:Int) (wv,Zc.mk b p1 0) ((p / 8:Nat):Int) (wv != 0) else m_Sl_9 s (ch:Int) (n:Int) (wv,Zc.mk b p1 0) ((p / 8:Nat):Int) false)=m_Sl_9 s (ch:Int) (n:Int) (wv,Zc.mk b p1 0) ((p / 8:Nat):Int) (decide (wv=3∨(ch=1∧wv≠0))):=by
   by_cases k1:wv=3
   ·rw [if_pos (by simpa using k1),decide_eq_true (Or.inl k1)]
   ·rw [if_neg (by simpa using k1)]
    by_cases k2:ch=1
    ·rw [if_pos (by simp [k2])]
     congr 1
     rw [Bool.eq_iff_iff]
     simp [k1,k2]
    ·rw [if_neg (by simp;omega),decide_eq_false (fun hh=>Or.elim hh k1 (fun h=>k2 h.1))]
  rw [e9]
  dsimp only [m_Sl_9]
  by_cases k:wv=3∨(ch=1∧wv≠0)
  ·rw [if_pos (decide_eq_true k),if_pos k,s_fail]
   simp only [Option.bind_some]
   rw [show stand 0 5=5 from rfl,err12 _ p1 5 (by decide)]
   exact ⟨_,_,rfl,⟨by decide,p1,rfl,hp1⟩,by simp,by simp⟩
  ·rw [if_neg (by simpa using k),if_neg k]
   dsimp only [m_Sl_12]
   obtain ⟨ls,os,r2,h2,g2⟩ :=s_lists hb s n ch hn (by omega) ((p / 8:Nat):Int) (wv,Zc.mk b p1 0) ch 0 p1 [] [] (by omega) rfl rfl hp1
   rw [show (((0:Nat):Int))=0 from rfl] at h2
   rw [h2]
   simp only [Option.bind_some]
   cases hz:listsE b n ch p1 [] [] with
   | error c=>
    rw [hz] at g2
    obtain ⟨hc,p',rfl,hp'⟩ :=g2
    dsimp only
    rw [err35 _ p' c _ _ hc]
    exact ⟨_,_,rfl,⟨hc,p',rfl,hp'⟩,by simp,by simp⟩
   | ok x=>
    obtain ⟨⟨ls',os'⟩,p2⟩ :=x
    rw [hz] at g2
    obtain ⟨hv,rfl,hp2⟩ :=g2
    simp only [Prod.mk.injEq] at hv
    obtain ⟨rfl,rfl⟩ :=hv
    obtain ⟨f1,f2,f3,f4,f5,f6⟩ :=listsE_facts hn ch p1 [] [] ls os p2 hp1 hz
    simp only [List.length_nil,Nat.zero_add] at f3 f4
    have f5':=f5 (by simp)
    have f6':=f6 (by simp)
    dsimp only [m_Sl_35]
    obtain ⟨p3,h3,h4,hp3⟩ :=s_fill hb p2 hp2
    rw [h3]
    simp only [Option.bind_some]
    cases hf:fillN b p2 ((8 - p2 % 8) % 8) with
    | false=>
     simp only [Bool.false_eq_true,if_false]
     rw [if_pos (by decide)]
     exact ⟨_,_,rfl,⟨by decide,p3,rfl,hp3⟩,by simp,by simp⟩
    | true=>
     have hp3e:=h4 hf
     subst hp3e
     simp only [if_true]
     rw [if_neg (by decide),div8d (by omega),ck_eq (by omega)]
     simp only [Option.bind_some]
     rw [Int.toNat_natCast,Int.toNat_natCast,ck_eq (by omega)]
     simp only [Option.bind_some]
     rw [spec_crc _ (by simp;omega)]
     simp only [Option.bind_some]
     obtain ⟨sv,r5,h5,g5⟩ :=s_tk hb (p2+(8 - p2 % 8) % 8) 16 hp3 (by omega)
     rw [show ((16:Nat):Int)=16 from rfl] at h5
     rw [h5]
     simp only [Option.bind_some]
     have err55:∀ (x0:Int×Zc) (p' : Nat) (c:Int),c≠0→m_Sl_55 s (ch:Int) (n:Int) x0 os ls b p' c=some ([],Zc.mk b p' c,s):=by
      intro x0 p' c hc
      dsimp only [m_Sl_55]
      rw [if_pos (by simpa using hc)]
     cases ht:tkE b 16 (p2+(8 - p2 % 8) % 8) with
     | error c=>
      rw [ht] at g5
      obtain ⟨hc,p',rfl,hp'⟩ :=g5
      rw [if_neg (by simpa using hc)]
      dsimp only [m_Sl_52]
      rw [if_neg (by simp),err55 _ p' c hc]
      exact ⟨_,_,rfl,⟨hc,p',rfl,hp'⟩,by simp,by simp⟩
     | ok x=>
      obtain ⟨sv',p4⟩ :=x
      rw [ht] at g5
      obtain ⟨rfl,rfl,hp4⟩ :=g5
      rw [if_pos (by simp)]
      have hsr:=sumF_rng (b:=b) (p / 8) ((p2+(8 - p2 % 8) % 8) / 8)
      have hsum:w64 (andI .u32 (crcF ((b.take ((p2+(8 - p2 % 8) % 8) / 8)).drop (p / 8))) 65535)=sumF b (p / 8) ((p2+(8 - p2 % 8) % 8) / 8):=w64_id (by unfold sumF at hsr;omega) (by unfold sumF at hsr;omega)
      rw [hsum]
      dsimp only [m_Sl_52]
      by_cases hsum2:sv=sumF b (p / 8) ((p2+(8 - p2 % 8) % 8) / 8)
      ·rw [if_neg (by simpa using hsum2),if_pos hsum2]
       dsimp only [m_Sl_55]
       rw [if_neg (by simp)]
       have hr:=s_rsts (b:=b) s (ch:Int) (n:Int) n rfl (wv,Zc.mk b p1 0) ls os p4 (by omega) f6' (by omega) ls [] (by simp) (fun l hl=>by have:=f5' l hl;omega)
       simp only [List.length_nil,List.nil_append,List.drop_zero] at hr
       rw [show (((0:Nat):Int))=0 from rfl] at hr
       rw [hr]
       simp only [Option.bind_some]
       cases hm:rsts n os ls with
       | none=>exact ⟨_,_,rfl,⟨by decide,p4,rfl,hp4⟩,by simp,by simp⟩
       | some ms=>
        obtain ⟨m1,m2⟩ :=rsts_facts n os ls ms (by omega) hm
        obtain ⟨u1,u2⟩ :=turned_facts (n:=n) (way:=wv.toNat) (ch:=ch) (ms:=ms) (by omega) m2
        obtain ⟨wN,rfl⟩:∃ m:Nat,wv=m:=⟨bV b p 2,t3⟩
        rw [Int.toNat_natCast] at u1 u2 ⊢
        have e90:m_Sl_90 s (ch:Int) (n:Int) ((wN:Int),Zc.mk b p1 0) b p4 0 ms=m_Sl_98 s (n:Int) b p4 0 (turned ch wN ms):=by
         dsimp only [m_Sl_90]
         unfold turned
         by_cases h2:ch=2
         ·obtain ⟨r0,r1⟩ :=rd_two (ms:=ms) (by omega)
          have g0:ms.getD 0 [] ∈ ms:=by rw [List.getD_eq_getElem?_getD,List.getElem?_eq_getElem (by omega)];simp
          have g1:ms.getD 1 [] ∈ ms:=by rw [List.getD_eq_getElem?_getD,List.getElem?_eq_getElem (by omega)];simp
          have hw:wN≤2:=by
           have:wN≠3:=fun h=>k (Or.inl (by omega))
           omega
          rw [if_pos (by simp [h2]),if_pos h2,r0,r1]
          simp only [Option.bind_some]
          rw [spec_unturn (by rw [(m2 _ g0).1];omega) (by rw [(m2 _ g0).1,(m2 _ g1).1]) (m2 _ g0).2 (m2 _ g1).2 wN hw]
          rfl
         ·rw [if_neg (by simp;omega),if_neg h2]
        dsimp only
        rw [e90]
        dsimp only [m_Sl_98]
        rw [s_check s bits n hs hbits (turned ch wN ms) p4 (by omega) (fun l hl=>by have:=u2 l hl;omega)]
        simp only [Option.bind_some]
        dsimp only [m_Sl_119]
        refine ⟨_,_,rfl,?_,by omega,fun l hl=>by have:=u2 l hl;omega⟩
        cases (turned ch wN ms).all (fun l=>decide (l.length=n)&&inOk bits l) with
        | true=>exact ⟨rfl,rfl,hp4⟩
        | false=>exact ⟨by decide,p4,rfl,hp4⟩
      ·rw [if_pos (by simpa using hsum2),if_neg hsum2,s_fail]
       simp only [Option.bind_some]
       rw [show stand 0 3=3 from rfl,err55 _ p4 3 (by decide)]
       exact ⟨_,_,rfl,⟨by decide,p4,rfl,hp4⟩,by simp,by simp⟩
end
end Go.Proofs.V

namespace Go.Proofs.V
open Go
section
variable {b:List Int} (hb:ByteL b)
theorem z_rsts (p0:List Int) (i36_0 i36_1 i46_0 i71_2 i36_3 i36_4 i36_5:Int) (l46_4:List (List Int)) (x5:Int×Ze) (nN:Nat) (L:List (List Int)) (O:List Int) (hLO:O.length=L.length) (hO:∀ o ∈ O,0≤o∧o≤4) (hlen:L.length≤1000):∀ (R D:List (List Int)),D.length+R.length=L.length→(∀ l ∈ R,l.length≤4000)→
  loopM (lp_Ib_264 p0 i36_0 i36_1 i46_0 (nN:Int) i71_2 L x5 i36_3 i36_4 i36_5 O l46_4) ((D.length:Int),D++R)=some (match rsts nN (O.drop D.length) R with | some ms=>.inr (D++ms) | none=>.inl (errR 5))
 | [],D,h1,h2=>by
  refine lp_end ?_
  dsimp only [lp_Ib_264,m_Ib_264]
  simp at h1
  rw [if_neg (by simp;omega)]
  have:O.drop D.length=[]:=List.drop_of_length_le (by omega)
  rw [this]
  simp [rsts]
 | l::R,D,h1,h2=>by
  have hD:D.length < O.length:=by simp at h1;omega
  have ho:=hO (O.getD D.length 0) (by rw [List.getD_eq_getElem?_getD,List.getElem?_eq_getElem hD];simp)
  have hdr:O.drop D.length=O.getD D.length 0::O.drop (D.length+1):=by
   rw [List.drop_eq_getElem_cons hD,List.getD_eq_getElem?_getD,List.getElem?_eq_getElem hD];rfl
  obtain ⟨oN,hoN⟩:∃ m:Nat,O.getD D.length 0=m:=⟨(O.getD D.length 0).toNat,by omega⟩
  have hrs:=impl_restore oN (by omega) l (h2 l (by simp))
  have hrd:rd (D++l::R) (D.length:Int)=some l:=by
   rw [rd_d [] (by simp),List.getD_eq_getElem?_getD,List.getElem?_append_right (Nat.le_refl _)];simp
  have hset:∀ y,(D++l::R).set (0+Int.toNat (D.length:Int)) y=D++y::R:=fun y=>by
   rw [Int.toNat_natCast,Nat.zero_add,List.set_append_right _ _ (Nat.le_refl _),Nat.sub_self];rfl
  have step:lp_Ib_264 p0 i36_0 i36_1 i46_0 (nN:Int) i71_2 L x5 i36_3 i36_4 i36_5 O l46_4 ((D.length:Int),D++l::R)=if (restF oN l).length=nN then some (.inl (((D.length+1:Nat):Int),D++restF oN l::R)) else some (.inr (.inl (errR 5))):=by
   dsimp only [lp_Ib_264,m_Ib_264]
   rw [if_pos (by simp at h1 ⊢;omega),rd_d 0 hD,hoN]
   simp only [Option.bind_some]
   rw [hrd]
   simp only [Option.bind_some]
   rw [hrs]
   simp only [Option.bind_some]
   rw [hset,w64_succ (by omega)]
   by_cases hk:(restF oN l).length=nN
   ·rw [if_neg (by simp [hk]),if_pos hk]
   ·rw [if_pos (by simp;omega),if_neg hk];rfl
  rw [hdr]
  unfold rsts
  rw [hoN,Int.toNat_natCast]
  by_cases hk:(restF oN l).length=nN
  ·rw [if_pos hk] at step ⊢
   have ih:=z_rsts p0 i36_0 i36_1 i46_0 i71_2 i36_3 i36_4 i36_5 l46_4 x5 nN L O hLO hO hlen R (D++[restF oN l]) (by simp at h1 ⊢;omega) (fun x hx=>h2 x (by simp [hx]))
   refine (lp_step step).trans ?_
   have e1:(D++[restF oN l]).length=D.length+1:=by simp
   rw [e1,List.append_assoc] at ih
   rw [show D++restF oN l::R=D++([restF oN l]++R) from rfl,ih]
   cases rsts nN (O.drop (D.length+1)) R <;> simp
  ·rw [if_neg hk] at step ⊢
   exact lp_end step
theorem z_check (p0:List Int) (i36_0 i36_1 i46_0 i36_3 i36_5:Int) (x5:Int×Ze) (bits:Nat) (hbits:2≤bits∧bits≤24) (L:List (List Int)) (hlen:L.length≤1000):∀ (R C D:List (List Int)),D.length+R.length=L.length→C.length=R.length→L.drop D.length=R→(∀ l ∈ R,l.length≤4000)→(∀ l ∈ C,l.length≤1000000)→
  loopM (lp_Ib_306 p0 i36_0 i36_1 i46_0 L x5 i36_3 (bits:Int) i36_5) ((D.length:Int),D++C)=some (if R.all (fun l=>inOk bits l)=true then .inr (D++List.zipWith (· ++ ·) C R) else .inl (errR 5))
 | [],C,D,h1,h2,h3,h4,h5=>by
  refine lp_end ?_
  dsimp only [lp_Ib_306,m_Ib_306]
  have hC:C=[]:=List.length_eq_zero_iff.1 (by simpa using h2)
  subst hC
  simp at h1
  rw [if_neg (by simp;omega)]
  simp
 | l::R,[],D,h1,h2,h3,h4,h5=>by simp at h2
 | l::R,c::C,D,h1,h2,h3,h4,h5=>by
  have hD:D.length < L.length:=by simp at h1;omega
  have hx:rd L (D.length:Int)=some l:=by
   rw [rd_eq hD]
   rw [List.drop_eq_getElem_cons hD] at h3
   rw [(List.cons.inj h3).1]
  have h3' : L.drop (D.length+1)=R:=by
   rw [List.drop_eq_getElem_cons hD] at h3
   exact (List.cons.inj h3).2
  have hi:=impl_in bits hbits l (h4 l (by simp))
  have hll:=h4 l (by simp)
  have hcl:=h5 c (by simp)
  have hrd:rd (D++c::C) (D.length:Int)=some c:=by
   rw [rd_d [] (by simp),List.getD_eq_getElem?_getD,List.getElem?_append_right (Nat.le_refl _)];simp
  have hset:∀ y,(D++c::C).set (0+Int.toNat (D.length:Int)) y=D++y::C:=fun y=>by
   rw [Int.toNat_natCast,Nat.zero_add,List.set_append_right _ _ (Nat.le_refl _),Nat.sub_self];rfl
  have step:lp_Ib_306 p0 i36_0 i36_1 i46_0 L x5 i36_3 (bits:Int) i36_5 ((D.length:Int),D++c::C)=if inOk bits l=true then some (.inl (((D.length+1:Nat):Int),D++(c++l)::C)) else some (.inr (.inl (errR 5))):=by
   dsimp only [lp_Ib_306,m_Ib_306]
   rw [if_pos (by simpa using hD),hx]
   simp only [Option.bind_some]
   rw [ck_eq (by rw [w64_id (by omega) (by omega)];omega)]
   simp only [Option.bind_some]
   rw [hi]
   simp only [Option.bind_some]
   cases inOk bits l with
   | true=>
    simp only [if_true]
    rw [hrd]
    simp only [Option.bind_some]
    rw [ck_eq (by omega)]
    simp only [Option.bind_some]
    rw [hset,w64_succ (by omega)]
   | false=>rfl
  rw [List.all_cons]
  cases hk:inOk bits l with
  | true=>
   rw [hk,if_pos rfl] at step
   have ih:=z_check p0 i36_0 i36_1 i46_0 i36_3 i36_5 x5 bits hbits L hlen R C (D++[c++l]) (by simp at h1 ⊢;omega) (by simpa using h2) (by simpa using h3') (fun x hx=>h4 x (by simp [hx])) (fun x hx=>h5 x (by simp [hx]))
   refine (lp_step step).trans ?_
   have e1:(D++[c++l]).length=D.length+1:=by simp
   rw [e1,List.append_assoc,List.append_assoc] at ih
   rw [show D++(c++l)::C=D++([c++l]++C) from rfl,ih,Bool.true_and]
   rfl
  | false=>
   rw [hk,if_neg (by simp)] at step
   rw [Bool.false_and,if_neg (by simp)]
   exact lp_end step
include hb
theorem z_lists (p0:List Int) (i36_1 i46_0 i71_1 i71_2 i36_3 i36_4 i36_5:Int) (l46_4:List (List Int)) (n ch:Nat) (hn:n≤1000) (hch:ch≤2):∀ (k i p:Nat) (ls:List (List Int)) (os:List Int),i+k=ch→ls.length=i→os.length=i→p≤8*b.length→
  ∃ R,loopM (lp_Ib_85 p0 (ch:Int) i36_1 i46_0 (n:Int) i71_1 i71_2 i36_3 i36_4 i36_5 l46_4) ((i:Int),b,(p:Int),false,ls,os)=some R∧(match listsE b n k p ls os with | .ok ((ls',os'),q)=>R = .inr (b,(q:Int),false,ls',os') | .error c=>R = .inl (errR c))
 | 0,i,p,ls,os,hi,h1,h2,hp=>by
  refine ⟨_,lp_end ?_,rfl⟩
  dsimp only [lp_Ib_85,m_Ib_85]
  rw [if_neg (by simp;omega)]
 | k+1,i,p,ls,os,hi,h1,h2,hp=>by
  obtain ⟨R,h3,g3⟩ :=z_list hb p0 i36_1 i46_0 i71_1 i71_2 i36_3 i36_4 i36_5 l46_4 n ch hn hch i (by omega) p hp ls os h1 h2
  unfold listsE
  cases hq:listE b n p with
  | error c=>
   rw [hq] at g3
   subst g3
   exact ⟨_,lp_end h3,rfl⟩
  | ok x=>
   obtain ⟨⟨o,l⟩,q⟩ :=x
   rw [hq] at g3
   obtain ⟨rfl,hq2⟩ :=g3
   obtain ⟨R2,h5,g5⟩ :=z_lists p0 i36_1 i46_0 i71_1 i71_2 i36_3 i36_4 i36_5 l46_4 n ch hn hch k (i+1) q (ls++[l]) (os++[o]) (by omega) (by simp;omega) (by simp;omega) hq2
   exact ⟨R2,(lp_step h3).trans h5,g5⟩
theorem z_frame (rate:Int) (bits F n ch many at_:Nat) (hbits:2≤bits∧bits≤24) (hn:n≤1000) (hch:1≤ch∧ch≤2) (hF:F≤512) (hmany:many≤4000) (hat:at_ < many) (hnn:n=min F (many - at_)) (p:Nat) (hp:p≤8*b.length) (C:List (List Int)) (hC:C.length=ch) (hC2:∀ c ∈ C,c.length≤1000000) :
  lp_Ib_46 b (ch:Int) (many:Int) rate (bits:Int) (F:Int) ((at_:Int),b,(p:Int),false,C)=some (match frameE b ch n bits p with | .ok (rs,q)=>.inl (((at_+F:Nat):Int),b,(q:Int),false,List.zipWith (· ++ ·) C rs) | .error c=>.inr (.inl (errR c))):=by
 have hl:=hb.1
 dsimp only [lp_Ib_46,m_Ib_46]
 rw [if_pos (by simpa using hat),div8d (by omega),w64_id (x:=(many:Int) - at_) (by omega) (by omega)]
 have hmn:mnI (F:Int) ((many:Int) - at_)=(n:Int):=by
  unfold mnI
  split <;> omega
 rw [hmn]
 obtain ⟨wv,r,h1,g1⟩ :=z_tk hb p 2 hp (by omega)
 rw [show ((2:Nat):Int)=2 from rfl] at h1
 rw [h1]
 simp only [Option.bind_some]
 unfold frameE
 cases hq:tkE b 2 p with
 | error c=>
  rw [hq] at g1
  obtain ⟨p',rfl,hp'⟩ :=g1
  have hc:=tkE_err hq
  subst hc
  rfl
 | ok x=>
  obtain ⟨way,p1⟩ :=x
  rw [hq] at g1
  obtain ⟨rfl,rfl,hp1⟩ :=g1
  obtain ⟨t1,t2,t3⟩ :=tkE_le hq
  have hv2:=bV32 (b:=b) p 2 (by omega)
  obtain ⟨wN,rfl⟩:∃ m:Nat,wv=m:=⟨bV b p 2,t3⟩
  rw [if_neg (by simp),w64_id (x:=(wN:Int)) (by omega) (by omega)]
  dsimp only
  have e71:(if ((wN:Int) == 3)=true then m_Ib_71 b (ch:Int) (many:Int) (at_:Int) ((wN:Int),Ze.mk b p1 false) rate (bits:Int) (F:Int) C (n:Int) ((p / 8:Nat):Int) (wN:Int) true else if ((wN:Int) != 0)=true then m_Ib_71 b (ch:Int) (many:Int) (at_:Int) ((wN:Int),Ze.mk b p1 false) rate (bits:Int) (F:Int) C (n:Int) ((p / 8:Nat):Int) (wN:Int) ((ch:Int) == 1) else m_Ib_71 b (ch:Int) (many:Int) (at_:Int) ((wN:Int),Ze.mk b p1 false) rate (bits:Int) (F:Int) C (n:Int) ((p / 8:Nat):Int) (wN:Int) false)=m_Ib_71 b (ch:Int) (many:Int) (at_:Int) ((wN:Int),Ze.mk b p1 false) rate (bits:Int) (F:Int) C (n:Int) ((p / 8:Nat):Int) (wN:Int) (decide ((wN:Int)=3∨(ch=1∧(wN:Int)≠0))):=by
   by_cases k1:(wN:Int)=3
   ·rw [if_pos (by simpa using k1),decide_eq_true (Or.inl k1)]
   ·rw [if_neg (by simpa using k1)]
    by_cases k2:(wN:Int)=0
    ·rw [if_neg (by simpa using k2),decide_eq_false (fun hh=>Or.elim hh k1 (fun h=>h.2 k2))]
    ·rw [if_pos (by simpa using k2)]
     congr 1
     rw [Bool.eq_iff_iff]
     simp only [beq_iff_eq,decide_eq_true_eq]
     constructor
     ·intro h;exact Or.inr ⟨by omega,k2⟩
     ·intro h;rcases h with h | h
      ·exact absurd h k1
      ·omega
  rw [e71]
  dsimp only [m_Ib_71]
  by_cases k:(wN:Int)=3∨(ch=1∧(wN:Int)≠0)
  ·rw [if_pos (decide_eq_true k),if_pos k]
   rfl
  ·rw [if_neg (by rw [decide_eq_false k];simp),if_neg k]
   obtain ⟨R,h2,g2⟩ :=z_lists hb b (many:Int) (at_:Int) ((p / 8:Nat):Int) (wN:Int) rate (bits:Int) (F:Int) C n ch hn (by omega) ch 0 p1 [] [] (by omega) rfl rfl hp1
   rw [show (((0:Nat):Int))=0 from rfl] at h2
   rw [h2]
   simp only [Option.bind_some]
   cases hz:listsE b n ch p1 [] [] with
   | error c=>
    rw [hz] at g2
    subst g2
    rfl
   | ok x=>
    obtain ⟨⟨ls,os⟩,p2⟩ :=x
    rw [hz] at g2
    subst g2
    obtain ⟨f1,f2,f3,f4,f5,f6⟩ :=listsE_facts hn ch p1 [] [] ls os p2 hp1 hz
    simp only [List.length_nil,Nat.zero_add] at f3 f4
    have f5':=f5 (by simp)
    have f6':=f6 (by simp)
    dsimp only [m_Ib_231]
    rw [z_fill hb false p2 f1]
    simp only [Option.bind_some]
    cases hf:fillN b p2 ((8 - p2 % 8) % 8) with
    | false=>rfl
    | true=>
     simp only [if_true]
     have hp3:p2+(8 - p2 % 8) % 8≤8*b.length:=by omega
     rw [div8d (by omega),ck_eq (by omega)]
     simp only [Option.bind_some]
     rw [Int.toNat_natCast,Int.toNat_natCast,ck_eq (by omega)]
     simp only [Option.bind_some]
     rw [impl_crc _ (by simp;omega)]
     simp only [Option.bind_some]
     obtain ⟨sv,r5,h5,g5⟩ :=z_tk hb (p2+(8 - p2 % 8) % 8) 16 hp3 (by omega)
     rw [show ((16:Nat):Int)=16 from rfl] at h5
     rw [h5]
     simp only [Option.bind_some]
     cases ht:tkE b 16 (p2+(8 - p2 % 8) % 8) with
     | error c=>
      rw [ht] at g5
      obtain ⟨p',rfl,hp'⟩ :=g5
      have hc:=tkE_err ht
      subst hc
      rfl
     | ok x=>
      obtain ⟨sv',p4⟩ :=x
      rw [ht] at g5
      obtain ⟨rfl,rfl,hp4⟩ :=g5
      obtain ⟨w1,w2,w3⟩ :=tkE_le ht
      have hv16:=bV32 (b:=b) (p2+(8 - p2 % 8) % 8) 16 (by omega)
      rw [if_neg (by simp),wu32_id (x:=sv) (by omega) (by omega)]
      rw [show andI .u32 (crcF ((b.take ((p2+(8 - p2 % 8) % 8) / 8)).drop (p / 8))) 65535=sumF b (p / 8) ((p2+(8 - p2 % 8) % 8) / 8) from rfl]
      dsimp only
      by_cases hsum2:sv=sumF b (p / 8) ((p2+(8 - p2 % 8) % 8) / 8)
      ·rw [if_neg (by simpa using hsum2),if_pos hsum2]
       have hr:=z_rsts b (ch:Int) (many:Int) (at_:Int) (wN:Int) rate (bits:Int) (F:Int) C (sv,Ze.mk b p4 false) n ls os (by omega) f6' (by omega) ls [] (by simp) (fun l hl=>by have:=f5' l hl;omega)
       simp only [List.length_nil,List.nil_append,List.drop_zero] at hr
       rw [show (((0:Nat):Int))=0 from rfl] at hr
       rw [hr]
       simp only [Option.bind_some]
       cases hm:rsts n os ls with
       | none=>rfl
       | some ms=>
        obtain ⟨m1,m2⟩ :=rsts_facts n os ls ms (by omega) hm
        obtain ⟨u1,u2⟩ :=turned_facts (n:=n) (way:=wN) (ch:=ch) (ms:=ms) (by omega) m2
        rw [Int.toNat_natCast]
        have k302:∀ rs:List (List Int),rs.length=ch→(∀ l ∈ rs,l.length=n)→m_Ib_302 b (ch:Int) (many:Int) (at_:Int) (sv,Ze.mk b p4 false) rate (bits:Int) (F:Int) C rs=some (if rs.all (fun l=>decide (l.length=n)&&inOk bits l)=true then .inl (((at_+F:Nat):Int),b,(p4:Int),false,List.zipWith (· ++ ·) C rs) else .inr (.inl (errR 5))):=by
         intro rs hrs hrn
         dsimp only [m_Ib_302]
         have hc:=z_check b (ch:Int) (many:Int) (at_:Int) rate (F:Int) (sv,Ze.mk b p4 false) bits hbits rs (by omega) rs C [] (by simp) (by omega) rfl (fun l hl=>by have:=hrn l hl;omega) hC2
         simp only [List.length_nil,List.nil_append] at hc
         rw [show (((0:Nat):Int))=0 from rfl] at hc
         rw [hc]
         have hall:rs.all (fun l=>decide (l.length=n)&&inOk bits l)=rs.all (fun l=>inOk bits l):=by
          rw [Bool.eq_iff_iff,List.all_eq_true,List.all_eq_true]
          constructor
          ·intro h l hl;have:=h l hl;simp at this;exact this.2
          ·intro h l hl;simp [hrn l hl,h l hl]
         rw [hall]
         cases rs.all (fun l=>inOk bits l) with
         | false=>rfl
         | true=>
          simp only [if_true,Option.bind_some]
          dsimp only [m_Ib_326]
          rw [w64_id (by omega) (by omega)]
          rfl
        have k286:m_Ib_286 b (ch:Int) (many:Int) (at_:Int) (n:Int) (wN:Int) (sv,Ze.mk b p4 false) rate (bits:Int) (F:Int) C ms=some (if (turned ch wN ms).all (fun l=>decide (l.length=n)&&inOk bits l)=true then .inl (((at_+F:Nat):Int),b,(p4:Int),false,List.zipWith (· ++ ·) C (turned ch wN ms)) else .inr (.inl (errR 5))):=by
         dsimp only [m_Ib_286]
         by_cases h2:ch=2
         ·obtain ⟨r0,r1⟩ :=rd_two (ms:=ms) (by omega)
          have g0:ms.getD 0 [] ∈ ms:=by rw [List.getD_eq_getElem?_getD,List.getElem?_eq_getElem (by omega)];simp
          have g1:ms.getD 1 [] ∈ ms:=by rw [List.getD_eq_getElem?_getD,List.getElem?_eq_getElem (by omega)];simp
          have hw:wN≤2:=by
           have:wN≠3:=fun h=>k (Or.inl (by omega))
           omega
          have q0:(ms.getD 0 []).length≤4000:=by rw [(m2 _ g0).1];omega
          have q1:(ms.getD 0 []).length=(ms.getD 1 []).length:=by rw [(m2 _ g0).1,(m2 _ g1).1]
          have hul:=untF_len q0 q1 (m2 _ g0).2 (m2 _ g1).2 wN hw
          have ht2:turned ch wN ms=[(untF wN (ms.getD 0 []) (ms.getD 1 [])).1,(untF wN (ms.getD 0 []) (ms.getD 1 [])).2]:=by unfold turned;rw [if_pos h2]
          rw [if_pos (by simp [h2]),r0,r1]
          simp only [Option.bind_some]
          rw [impl_unturn q0 q1 (m2 _ g0).2 (m2 _ g1).2 wN hw]
          simp only [Option.bind_some]
          rw [ht2]
          by_cases hx:(untF wN (ms.getD 0 []) (ms.getD 1 [])).1.length=n
          ·rw [if_neg (by rw [hx];simp)]
           have hy:(untF wN (ms.getD 0 []) (ms.getD 1 [])).2.length=n:=by
            rcases hul with ⟨e1,e2⟩ | ⟨e1,e2⟩
            ·rw [e1] at hx;rw [e2];exact hx
            ·rw [e2,(m2 _ g0).1]
           obtain ⟨m0,m1',hms⟩:∃ x y,ms=[x,y]:=by
            match ms,(show ms.length=2 by omega) with
            | [x,y],_=>exact ⟨x,y,rfl⟩
           have hset:∀ (u v:List Int),(ms.set (0+Int.toNat 0) u).set (0+Int.toNat 1) v=[u,v]:=fun u v=>by rw [hms];rfl
           have hrd1:∀ (u:List Int),rd (ms.set (0+Int.toNat 0) u) 1=some m1':=fun u=>by rw [hms];rfl
           rw [hrd1]
           simp only [Option.bind_some]
           rw [hset]
           exact k302 _ (by simp [h2]) (fun l hl=>by
            simp only [List.mem_cons,List.not_mem_nil,or_false] at hl
            rcases hl with rfl | rfl
            ·exact hx
            ·exact hy)
          ·rw [if_pos (by rw [bne_iff_ne];omega)]
           have:([(untF wN (ms.getD 0 []) (ms.getD 1 [])).1,(untF wN (ms.getD 0 []) (ms.getD 1 [])).2]:List (List Int)).all (fun l=>decide (l.length=n)&&inOk bits l)=false:=by
            simp only [List.all_cons,decide_eq_false hx,Bool.false_and]
           rw [this]
           rfl
         ·have ht1:turned ch wN ms=ms:=by unfold turned;rw [if_neg h2]
          rw [if_neg (by simp;omega),ht1]
          exact k302 ms (by omega) (fun l hl=>(m2 l hl).1)
        dsimp only
        rw [k286]
        cases (turned ch wN ms).all (fun l=>decide (l.length=n)&&inOk bits l) <;> rfl
      ·rw [if_pos (by simpa using hsum2),if_neg hsum2]
       rfl
end
end Go.Proofs.V

namespace Go.Proofs.V
open Go
def runE (b:List Int) (ch bits F many:Nat):Nat→Nat→Nat→List (List Int)→RdA (List (List Int))
 | 0,at_,p,C=>.ok (C,p)
 | k+1,at_,p,C=>if at_ < many then (match frameE b ch (min F (many - at_)) bits p with
  | .error c=>.error c
  | .ok (rs,q)=>runE b ch bits F many k (at_+F) q (List.zipWith (· ++ ·) C rs)) else .ok (C,p)
def decS (b:List Int):Zb:=
 if 60000 < b.length then errR 1
 else if magE b 0 MK≠0 then errR (magE b 0 MK)
 else if b.length < 10 then errR 2
 else if headOk (bV b 32 20:Nat) (bV b 52 5:Nat) (bV b 57 10:Nat) (bV b 68 12:Nat)=true then
  (match runE b (bV b 67 1+1) (bV b 52 5) (bV b 57 10) (bV b 68 12) 4001 0 80 (List.replicate (bV b 67 1+1) []) with
  | .error c=>errR c
  | .ok (C,p)=>if p < 8*b.length then errR 8 else Zb.mk 0 (Za.mk (bV b 32 20:Nat) (bV b 52 5:Nat) (bV b 57 10:Nat) C))
 else errR 5
section
variable {b:List Int} (hb:ByteL b)
theorem frameE_facts {ch n bits p q:Nat} {rs:List (List Int)} (hn:n≤1000) (hch:1≤ch∧ch≤2) (h:frameE b ch n bits p = .ok (rs,q)):q≤8*b.length∧q % 8=0∧rs.length=ch∧∀ l ∈ rs,l.length=n:=by
 unfold frameE at h
 cases hq:tkE b 2 p with
 | error c=>rw [hq] at h;simp at h
 | ok x=>
  obtain ⟨wv,p1⟩ :=x
  rw [hq] at h
  dsimp only at h
  obtain ⟨t1,t2,t3⟩ :=tkE_le hq
  split at h
  ·simp at h
  ·cases hz:listsE b n ch p1 [] [] with
   | error c=>rw [hz] at h;simp at h
   | ok x=>
    obtain ⟨⟨ls,os⟩,p2⟩ :=x
    rw [hz] at h
    dsimp only at h
    obtain ⟨f1,f2,f3,f4,f5,f6⟩ :=listsE_facts hn ch p1 [] [] ls os p2 t2 hz
    split at h
    ·cases ht:tkE b 16 (p2+(8 - p2 % 8) % 8) with
     | error c=>rw [ht] at h;simp at h
     | ok x=>
      obtain ⟨sv,p4⟩ :=x
      rw [ht] at h
      dsimp only at h
      obtain ⟨w1,w2,w3⟩ :=tkE_le ht
      split at h
      ·cases hm:rsts n os ls with
       | none=>rw [hm] at h;simp at h
       | some ms=>
        rw [hm] at h
        dsimp only at h
        obtain ⟨m1,m2⟩ :=rsts_facts n os ls ms (by simp at f3 f4;omega) hm
        obtain ⟨u1,u2⟩ :=turned_facts (n:=n) (way:=wv.toNat) (ch:=ch) (ms:=ms) (by simp at f3;omega) m2
        split at h
        ·rename_i hall
         simp at h
         obtain ⟨rfl,rfl⟩ :=h
         rw [List.all_eq_true] at hall
         exact ⟨w2,by omega,u1,fun l hl=>by have:=hall l hl;simp at this;exact this.1⟩
        ·simp at h
      ·simp at h
    ·simp at h
theorem frameE_err {ch n bits p:Nat} {c:Int} (h:frameE b ch n bits p = .error c) (hb:ByteL b) (hs:∃ (s:Za),s.bits=bits) (hbits:2≤bits∧bits≤24) (hn:n≤1000) (hch:1≤ch∧ch≤2) (hp:p≤8*b.length):c≠0:=by
 obtain ⟨s,hs⟩ :=hs
 obtain ⟨rs,r,_,g,_⟩ :=spec_frame hb s bits n ch hs hbits hn hch p hp
 rw [h] at g
 exact g.1
theorem zip_len (C rs:List (List Int)) (h:C.length=rs.length):(List.zipWith (· ++ ·) C rs).length=C.length:=by simp;omega
theorem zip_small {n m:Nat} : ∀ (C rs:List (List Int)),(∀ c ∈ C,c.length≤n)→(∀ l ∈ rs,l.length≤m)→∀ x ∈ List.zipWith (· ++ ·) C rs,x.length≤n+m
 | [],rs,h1,h2,x,hx=>by simp at hx
 | c::C,[],h1,h2,x,hx=>by simp at hx
 | c::C,l::rs,h1,h2,x,hx=>by
  rw [List.zipWith_cons_cons] at hx
  rcases List.mem_cons.1 hx with rfl | hx
  ·have:=h1 c (by simp);have:=h2 l (by simp);simp;omega
  ·exact zip_small C rs (fun y hy=>h1 y (by simp [hy])) (fun y hy=>h2 y (by simp [hy])) x hx
theorem s_app (i29:Int) (x6:Int×Zc) (i47:Int) (x63:List (List Int)×Zc×Za) (x2 x3 x4:Int×Zc):∀ (R C D:List (List Int)),x63.1.length=D.length+R.length→x63.1.drop D.length=R→R.length≤C.length→x63.1.length≤1000→(∀ l ∈ R,l.length≤4000)→(∀ c ∈ C,c.length≤1000000)→
  ∃ C',loopM (lp_Sb_67 b i29 x6 i47 x63 x2 x3 x4) ((D.length:Int),D++C)=some C'∧(R.length=C.length→C' = D++List.zipWith (· ++ ·) C R)
 | [],C,D,h1,h2,h3,h4,h5,h6=>by
  refine ⟨D++C,lp_end ?_,fun h=>?_⟩
  ·dsimp only [lp_Sb_67,m_Sb_67]
   simp at h1
   rw [if_neg (by simp;omega)]
  ·have:C=[]:=List.length_eq_zero_iff.1 (by simpa using h.symm)
   subst this;simp
 | l::R,[],D,h1,h2,h3,h4,h5,h6=>by simp at h3
 | l::R,c::C,D,h1,h2,h3,h4,h5,h6=>by
  have hD:D.length < x63.1.length:=by simp at h1;omega
  have hx:rd x63.1 (D.length:Int)=some l:=by
   rw [rd_eq hD]
   rw [List.drop_eq_getElem_cons hD] at h2
   rw [(List.cons.inj h2).1]
  have h2' : x63.1.drop (D.length+1)=R:=by
   rw [List.drop_eq_getElem_cons hD] at h2
   exact (List.cons.inj h2).2
  have hll:=h5 l (by simp)
  have hcl:=h6 c (by simp)
  have hrd:rd (D++c::C) (D.length:Int)=some c:=by
   rw [rd_d [] (by simp),List.getD_eq_getElem?_getD,List.getElem?_append_right (Nat.le_refl _)];simp
  have hset:∀ y,(D++c::C).set (0+Int.toNat (D.length:Int)) y=D++y::C:=fun y=>by
   rw [Int.toNat_natCast,Nat.zero_add,List.set_append_right _ _ (Nat.le_refl _),Nat.sub_self];rfl
  have step:lp_Sb_67 b i29 x6 i47 x63 x2 x3 x4 ((D.length:Int),D++c::C)=some (.inl (((D.length+1:Nat):Int),D++(c++l)::C)):=by
   dsimp only [lp_Sb_67,m_Sb_67]
   rw [if_pos (by simpa using hD),hx]
   simp only [Option.bind_some]
   rw [hrd]
   simp only [Option.bind_some]
   rw [ck_eq (by omega)]
   simp only [Option.bind_some]
   rw [hset,w64_succ (by omega)]
  obtain ⟨C',h7,g7⟩ :=s_app i29 x6 i47 x63 x2 x3 x4 R C (D++[c++l]) (by simp at h1 ⊢;omega) (by simpa using h2') (by simpa using h3) h4 (fun x hx=>h5 x (by simp [hx])) (fun x hx=>h6 x (by simp [hx]))
  refine ⟨C',(lp_step step).trans ?_,fun h=>?_⟩
  ·rw [←h7];simp
  ·rw [g7 (by simpa using h)];simp
include hb
theorem s_run (bits F ch many:Nat) (hbits:2≤bits∧bits≤24) (hF:1≤F∧F≤512) (hch:1≤ch∧ch≤2) (hmany:many≤4000) (x2 x3 x4 x6:Int×Zc) (h3:x3.1=bits) (h4:x4.1=F) (h6:x6.1=many):∀ (k at_ p:Nat) (C:List (List Int)),many < at_+k→at_≤5000→p≤8*b.length→C.length=ch→(∀ c ∈ C,c.length≤at_)→
  ∃ C' r,loopM (lp_Sb_47 b (ch:Int) x6 x2 x3 x4) ((at_:Int),b,(p:Int),0,C)=some (r.data,r.at_,r.err,C')∧SR b (runE b ch bits F many k at_ p C) C' r:=by
 intro k
 induction k with
 | zero=>
  intro at_ p C hk ha hp hC hC2
  refine ⟨C,Zc.mk b p 0,lp_end ?_,rfl,rfl,hp⟩
  dsimp only [lp_Sb_47,m_Sb_47]
  rw [if_neg (by rw [h6];simp;omega)]
 | succ k ih=>
  intro at_ p C hk ha hp hC hC2
  unfold runE
  by_cases hat:at_ < many
  ·rw [if_pos hat]
   have hn:min F (many - at_)≤1000:=by omega
   obtain ⟨rs,r,h1,g1,g2,g3⟩ :=spec_frame hb (Za.mk x2.1 x3.1 x4.1 C) bits (min F (many - at_)) ch h3 hbits hn hch p hp
   obtain ⟨C',h5,g5⟩ :=s_app (b:=b) (ch:Int) x6 (at_:Int) (rs,r,Za.mk x2.1 x3.1 x4.1 C) x2 x3 x4 rs C [] (by simp) rfl (by omega) (by simp;omega) g3 (fun c hc=>by have:=hC2 c hc;omega)
   simp only [List.length_nil,List.nil_append] at h5 g5
   have step:lp_Sb_47 b (ch:Int) x6 x2 x3 x4 ((at_:Int),b,(p:Int),0,C)=some (.inl (((at_+F:Nat):Int),r.data,r.at_,r.err,C')):=by
    have e63:m_Sb_63 b (ch:Int) x6 (at_:Int) b p 0 x2 x3 x4 C ((min F (many - at_):Nat):Int)=some (.inl (((at_+F:Nat):Int),r.data,r.at_,r.err,C')):=by
     dsimp only [m_Sb_63]
     rw [h1]
     simp only [Option.bind_some]
     rw [ck_eq (by trivial)]
     simp only [Option.bind_some]
     rw [show (((0:Nat):Int))=0 from rfl] at h5
     rw [h5]
     simp only [Option.bind_some]
     dsimp only [m_Sb_79]
     rw [h4,w64_id (by omega) (by omega)]
     rfl
    dsimp only [lp_Sb_47,m_Sb_47]
    rw [if_pos (by rw [h6];simpa using hat),if_pos (by simp),h4,h6,w64_id (x:=(many:Int) - at_) (by omega) (by omega)]
    by_cases hm:(F:Int) > (many:Int) - at_
    ·rw [if_pos (by simpa using hm),←e63]
     congr 1
     omega
    ·rw [if_neg (by simpa using hm),←e63]
     congr 1
     omega
   cases hq:frameE b ch (min F (many - at_)) bits p with
   | error c=>
    rw [hq] at g1
    obtain ⟨hc,p',rfl,hp'⟩ :=g1
    refine ⟨C',Zc.mk b p' c,(lp_step step).trans (lp_end ?_),hc,p',rfl,hp'⟩
    dsimp only [lp_Sb_47,m_Sb_47]
    rw [if_neg (show ¬ ((c == 0)=true) by simpa using hc),ite_self]
   | ok x=>
    obtain ⟨rs',q⟩ :=x
    rw [hq] at g1
    obtain ⟨rfl,rfl,hq2⟩ :=g1
    obtain ⟨y1,y2,y3,y4⟩ :=frameE_facts hn hch hq
    have hCe:=g5 (by omega)
    subst hCe
    obtain ⟨C2,r2,h8,g8⟩ :=ih (at_+F) q (List.zipWith (· ++ ·) C rs) (by omega) (by omega) hq2 (by rw [zip_len _ _ (by omega)];exact hC) (fun x hx=>by
     have:=zip_small (n:=at_) (m:=F) C rs hC2 (fun l hl=>by rw [y4 l hl];omega) x hx
     omega)
    exact ⟨C2,r2,(lp_step step).trans h8,g8⟩
  ·rw [if_neg hat]
   refine ⟨C,Zc.mk b p 0,lp_end ?_,rfl,rfl,hp⟩
   dsimp only [lp_Sb_47,m_Sb_47]
   rw [if_neg (by rw [h6];simp;omega)]
theorem z_run (rate:Int) (bits F ch many:Nat) (hbits:2≤bits∧bits≤24) (hF:1≤F∧F≤512) (hch:1≤ch∧ch≤2) (hmany:many≤4000):∀ (k at_ p:Nat) (C:List (List Int)),many < at_+k→at_≤5000→p≤8*b.length→C.length=ch→(∀ c ∈ C,c.length≤at_)→
  ∃ R,loopM (lp_Ib_46 b (ch:Int) (many:Int) rate (bits:Int) (F:Int)) ((at_:Int),b,(p:Int),false,C)=some R∧(match runE b ch bits F many k at_ p C with | .ok (C',q)=>R = .inr (b,(q:Int),false,C')∧q≤8*b.length | .error c=>R = .inl (errR c)):=by
 intro k
 induction k with
 | zero=>
  intro at_ p C hk ha hp hC hC2
  refine ⟨_,lp_end ?_,rfl,hp⟩
  dsimp only [lp_Ib_46,m_Ib_46]
  rw [if_neg (by simp;omega)]
 | succ k ih=>
  intro at_ p C hk ha hp hC hC2
  unfold runE
  by_cases hat:at_ < many
  ·rw [if_pos hat]
   have hn:min F (many - at_)≤1000:=by omega
   have step:=z_frame hb rate bits F (min F (many - at_)) ch many at_ hbits hn hch hF.2 hmany hat rfl p hp C hC (fun c hc=>by have:=hC2 c hc;omega)
   cases hq:frameE b ch (min F (many - at_)) bits p with
   | error c=>
    rw [hq] at step
    exact ⟨_,lp_end step,rfl⟩
   | ok x=>
    obtain ⟨rs,q⟩ :=x
    rw [hq] at step
    obtain ⟨y1,y2,y3,y4⟩ :=frameE_facts hn hch hq
    obtain ⟨R,h8,g8⟩ :=ih (at_+F) q (List.zipWith (· ++ ·) C rs) (by omega) (by omega) y1 (by rw [zip_len _ _ (by omega)];exact hC) (fun x hx=>by
     have:=zip_small (n:=at_) (m:=F) C rs hC2 (fun l hl=>by rw [y4 l hl];omega) x hx
     omega)
    exact ⟨R,(lp_step step).trans h8,g8⟩
  ·rw [if_neg hat]
   refine ⟨_,lp_end ?_,rfl,hp⟩
   dsimp only [lp_Ib_46,m_Ib_46]
   rw [if_neg (by simp;omega)]
omit hb in
theorem runE_facts (ch bits F many:Nat) (hF:1≤F∧F≤512) (hch:1≤ch∧ch≤2) (hmany:many≤4000):∀ (k at_ p:Nat) (C C' : List (List Int)) (q:Nat),at_≤5000→p % 8=0→p≤8*b.length→C.length=ch→(∀ c ∈ C,c.length≤at_)→runE b ch bits F many k at_ p C = .ok (C',q)→q % 8=0∧q≤8*b.length∧C'.length=ch∧∀ c ∈ C',c.length≤6000:=by
 intro k
 induction k with
 | zero=>
  intro at_ p C C' q ha hp8 hp hC hC2 h
  unfold runE at h
  simp at h
  obtain ⟨rfl,rfl⟩ :=h
  exact ⟨hp8,hp,hC,fun c hc=>by have:=hC2 c hc;omega⟩
 | succ k ih=>
  intro at_ p C C' q ha hp8 hp hC hC2 h
  unfold runE at h
  split at h
  ·have hn:min F (many - at_)≤1000:=by omega
   cases hq:frameE b ch (min F (many - at_)) bits p with
   | error c=>rw [hq] at h;simp at h
   | ok x=>
    obtain ⟨rs,q1⟩ :=x
    rw [hq] at h
    obtain ⟨y1,y2,y3,y4⟩ :=frameE_facts hn hch hq
    exact ih (at_+F) q1 _ C' q (by omega) y2 y1 (by rw [zip_len _ _ (by omega)];exact hC) (fun x hx=>by
     have:=zip_small (n:=at_) (m:=F) C rs hC2 (fun l hl=>by rw [y4 l hl];omega) x hx
     omega) h
  ·simp at h
   obtain ⟨rfl,rfl⟩ :=h
   exact ⟨hp8,hp,hC,fun c hc=>by have:=hC2 c hc;omega⟩
end
theorem magE_rng (b:List Int):∀ (ms:List Int) (i:Nat),magE b i ms=0∨magE b i ms=2∨magE b i ms=4
 | [],i=>.inl rfl
 | m::ms,i=>by
  unfold magE
  split
  ·split
   ·exact magE_rng b ms (i+1)
   ·exact .inr (.inr rfl)
  ·exact .inr (.inl rfl)
theorem core_DecodeSound (b:List Int) (hx:∀ x ∈ b,0≤x∧x≤255) (hlen:b.length≤1048576):m_Sb b=some (decS b)∧m_Ib b=some (decS b)∧((decS b).sound.channels.length≤1048576∧∀ y ∈ (decS b).sound.channels,y.length≤1048576):=by
 dsimp only [m_Sb,m_Sb_0,m_Ib,m_Ib_0]
 unfold decS
 have small:∀ c,((errR c).sound.channels.length≤1048576∧∀ y ∈ (errR c).sound.channels,y.length≤1048576):=fun c=>⟨by simp [errR],by simp [errR]⟩
 by_cases h0:60000 < b.length
 ·have e60:decide ((b.length:Int) > 60000)=true:=by simp;omega
  rw [if_pos h0,if_pos e60,if_pos e60]
  exact ⟨rfl,rfl,small 1⟩
 have e60 : ¬ (decide ((b.length:Int) > 60000)=true):=by simp;omega
 rw [if_neg h0,if_neg e60,if_neg e60]
 have hb:ByteL b:=⟨by omega,hx⟩
 obtain ⟨p',hm,hp',h32⟩ :=s_mark hb
 rw [hm,show (ByteArray.mk #[83,78,68,49])=zM from rfl,z_mag b hb.1]
 simp only [Option.bind_some]
 rw [show ([83,78,68,49]:List Int)=MK from rfl] at h32 ⊢
 have err32:∀ (x6 x2 x3 x4:Int×Zc) (i29 p c:Int),c≠0→m_Sb_32 b i29 x6 x2 x3 x4 b p c=some (errR c):=by
  intro x6 x2 x3 x4 i29 p c hc
  dsimp only [m_Sb_32]
  rw [if_pos (by simpa using hc)]
  rfl
 have err29:∀ (x6 x2 x3 x4:Int×Zc) (i29 p c:Int),c≠0→x6.2=Zc.mk b p c→m_Sb_29 b x6 x2 x3 x4 i29 false=some (errR c):=by
  intro x6 x2 x3 x4 i29 p c hc h6
  dsimp only [m_Sb_29]
  rw [if_neg (by simp),h6]
  exact err32 _ _ _ _ _ _ _ hc
 have t20:((20:Nat):Int)=20:=rfl
 have t5:((5:Nat):Int)=5:=rfl
 have t10:((10:Nat):Int)=10:=rfl
 have t1:((1:Nat):Int)=1:=rfl
 have t12:((12:Nat):Int)=12:=rfl
 have sb:∀ (k:Nat) (p:Nat) (c:Int),k≤32→p≤8*b.length→c≠0→m_Sq ⟨b,p,c⟩ k=some (0,Zc.mk b p c):=fun k p c h1 h2 h3=>s_tk_bad hb p k h2 h1 c h3
 by_cases h1:magE b 0 MK=0
 ·have h32':=h32 h1
  subst h32'
  rw [if_neg (show ¬ (magE b 0 MK≠0) by simp [h1]),h1]
  simp only [bne_self_eq_false,Bool.false_eq_true,if_false]
  by_cases h10:b.length < 10
  ·rw [if_pos h10,if_pos (show decide ((b.length:Int) < 10)=true by simp;omega)]
   refine ⟨?_,rfl,small 2⟩
   have sh:∀ (k p:Nat),k≤32→p≤8*b.length→∃ (v:Int) (q:Nat) (c:Int),m_Sq ⟨b,p,0⟩ k=some (v,Zc.mk b q c)∧q≤8*b.length∧(c=0∧q=p+k∨c=2):=by
    intro k p hk hp
    rw [s_take hb p k 0 hp hk,if_pos rfl]
    by_cases h:p+k≤8*b.length
    ·rw [if_pos h];exact ⟨_,p+k,0,rfl,h,.inl ⟨rfl,rfl⟩⟩
    ·rw [if_neg h];exact ⟨_,p,2,rfl,hp,.inr rfl⟩
   have sh2:∀ (k p:Nat) (c:Int),k≤32→p≤8*b.length→(c=0∨c=2)→∃ (v:Int) (q:Nat) (c' : Int),m_Sq ⟨b,p,c⟩ k=some (v,Zc.mk b q c')∧q≤8*b.length∧(c' = 0∧c=0∧q=p+k∨c' = 2):=by
    intro k p c hk hp hc
    rcases hc with rfl | rfl
    ·obtain ⟨v,q,c',h2,h3,h4⟩ :=sh k p hk hp
     exact ⟨v,q,c',h2,h3,h4.imp (fun h=>⟨h.1,rfl,h.2⟩) id⟩
    ·exact ⟨0,p,2,sb k p 2 hk hp (by decide),hp,.inr rfl⟩
   obtain ⟨v1,q1,c1,k1,l1,m1⟩ :=sh 20 32 (by omega) hp'
   rw [t20] at k1
   rw [k1]
   simp only [Option.bind_some]
   obtain ⟨v2,q2,c2,k2,l2,m2⟩ :=sh2 5 q1 c1 (by omega) l1 (m1.imp (·.1) id)
   rw [t5] at k2
   rw [k2]
   simp only [Option.bind_some]
   obtain ⟨v3,q3,c3,k3,l3,m3⟩ :=sh2 10 q2 c2 (by omega) l2 (m2.imp (·.1) id)
   rw [t10] at k3
   rw [k3]
   simp only [Option.bind_some]
   obtain ⟨v4,q4,c4,k4,l4,m4⟩ :=sh2 1 q3 c3 (by omega) l3 (m3.imp (·.1) id)
   rw [t1] at k4
   rw [k4]
   simp only [Option.bind_some]
   obtain ⟨v5,q5,c5,k5,l5,m5⟩ :=sh2 12 q4 c4 (by omega) l4 (m4.imp (·.1) id)
   rw [t12] at k5
   rw [k5]
   simp only [Option.bind_some]
   have hc5:c5=2:=by
    rcases m5 with ⟨a1,a2,a3⟩ | h
    ·rcases m4 with ⟨b1,b2,b3⟩ | h
     ·rcases m3 with ⟨d1,d2,d3⟩ | h
      ·rcases m2 with ⟨e1,e2,e3⟩ | h
       ·rcases m1 with ⟨f1,f2⟩ | h
        ·omega
        ·omega
       ·omega
      ·omega
     ·omega
    ·exact h
   subst hc5
   rw [if_neg (by decide)]
   exact err29 _ _ _ _ _ _ 2 (by decide) rfl
  ·rw [if_neg h10,if_neg (show ¬ (decide ((b.length:Int) < 10)=true) by simp;omega)]
   have st:∀ (k p:Nat),k≤32→p+k≤8*b.length→m_Sq ⟨b,(p:Int),0⟩ k=some (((bV b p k:Nat):Int),Zc.mk b ((p+k:Nat):Int) 0):=fun k p hk hp=>by rw [s_take hb p k 0 (by omega) hk,if_pos rfl,if_pos hp]
   have zt:∀ (k p:Nat),k≤32→p+k≤8*b.length→m_Iq ⟨b,(p:Int),false⟩ k=some (((bV b p k:Nat):Int),Ze.mk b ((p+k:Nat):Int) false):=fun k p hk hp=>z_take hb p k false (by omega) hk hp
   have s1:=st 20 32 (by omega) (by omega)
   have s2:=st 5 52 (by omega) (by omega)
   have s3:=st 10 57 (by omega) (by omega)
   have s4:=st 1 67 (by omega) (by omega)
   have s5:=st 12 68 (by omega) (by omega)
   have z1:=zt 20 32 (by omega) (by omega)
   have z2:=zt 5 52 (by omega) (by omega)
   have z3:=zt 10 57 (by omega) (by omega)
   have z4:=zt 1 67 (by omega) (by omega)
   have z5:=zt 12 68 (by omega) (by omega)
   rw [t20] at s1 z1
   rw [t5] at s2 z2
   rw [t10] at s3 z3
   rw [t1] at s4 z4
   rw [t12] at s5 z5
   rw [show ((32:Nat):Int)=32 from rfl] at z1
   rw [s1,z1]
   simp only [Option.bind_some]
   rw [s2,z2]
   simp only [Option.bind_some]
   rw [s3,z3]
   simp only [Option.bind_some]
   rw [s4,z4]
   simp only [Option.bind_some]
   rw [s5,z5]
   simp only [Option.bind_some]
   have b20:=bV32 (b:=b) 32 20 (by omega)
   have b5:=bV32 (b:=b) 52 5 (by omega)
   have b10:=bV32 (b:=b) 57 10 (by omega)
   have b1:=bV_lt b 67 1
   have b12:=bV32 (b:=b) 68 12 (by omega)
   generalize hrate:bV b 32 20=rate at b20 ⊢
   generalize hbits:bV b 52 5=bits at b5 ⊢
   generalize hfr:bV b 57 10=F at b10 ⊢
   generalize hc1:bV b 67 1=c1 at b1 ⊢
   generalize hmany:bV b 68 12=many at b12 ⊢
   rw [w64_id (x:=(c1:Int)) (by omega) (by omega),w64_id (x:=(rate:Int)) (by omega) (by omega),w64_id (x:=(bits:Int)) (by omega) (by omega),w64_id (x:=(F:Int)) (by omega) (by omega),w64_id (x:=(many:Int)) (by omega) (by omega),w64_succ (by omega)]
   have hch:1≤c1+1∧c1+1≤2:=by omega
   rw [if_pos (by simp),spec_headok _ _ _ _ _ _ (by omega),ck_eq (by omega)]
   simp only [Option.bind_some]
   rw [Int.toNat_natCast,impl_goods _ _ _ (c1+1) hch]
   simp only [Option.bind_some]
   by_cases hh:headOk (rate:Int) (bits:Int) (F:Int) (many:Int)=true
   ·have hh':=of_decide_eq_true hh
    have hh0:headOk (rate:Int) (bits:Int) (F:Int) 0=true:=decide_eq_true (by omega)
    rw [hh,if_pos rfl,hh0,if_pos rfl,show decide ((many:Int) > 4000)=false by simp;omega]
    dsimp only [m_Sb_29,m_Ib_36]
    rw [if_neg (by simp),if_neg (by simp)]
    dsimp only [m_Sb_32]
    rw [if_neg (by simp),ck_eq (by omega)]
    simp only [Option.bind_some]
    rw [Int.toNat_natCast]
    obtain ⟨C',r,h7,g7⟩ :=s_run hb bits F (c1+1) many (by omega) (by omega) hch (by omega) ((rate:Int),Zc.mk b ((32+20:Nat):Int) 0) ((bits:Int),Zc.mk b ((52+5:Nat):Int) 0) ((F:Int),Zc.mk b ((57+10:Nat):Int) 0) ((many:Int),Zc.mk b ((68+12:Nat):Int) 0) rfl rfl rfl 4001 0 80 (List.replicate (c1+1) []) (by omega) (by omega) (by omega) (by simp) (by simp)
    obtain ⟨R,h8,g8⟩ :=z_run hb (rate:Int) bits F (c1+1) many (by omega) (by omega) hch (by omega) 4001 0 80 (List.replicate (c1+1) []) (by omega) (by omega) (by omega) (by simp) (by simp)
    rw [show (((0:Nat):Int))=0 from rfl] at h7 h8
    rw [show ((68+12:Nat):Int)=((80:Nat):Int) from rfl] at h7 ⊢
    rw [h7,h8]
    simp only [Option.bind_some]
    cases hq:runE b (c1+1) bits F many 4001 0 80 (List.replicate (c1+1) []) with
    | error c=>
     rw [hq] at g7 g8
     obtain ⟨hc,p2,rfl,hp2⟩ :=g7
     subst g8
     refine ⟨?_,rfl,small c⟩
     dsimp only [m_Sb_80]
     rw [if_neg (by simpa using hc)]
     dsimp only [m_Sb_83]
     rw [if_neg (by simp)]
     dsimp only [m_Sb_86]
     rw [if_pos (by simpa using hc)]
     rfl
    | ok x=>
     obtain ⟨C2,q⟩ :=x
     rw [hq] at g7 g8
     obtain ⟨rfl,rfl,hq2⟩ :=g7
     obtain ⟨rfl,_⟩ :=g8
     obtain ⟨f1,f2,f3,f4⟩ :=runE_facts (c1+1) bits F many (by omega) hch (by omega) 4001 0 80 _ _ _ (by omega) rfl (by omega) (by simp) (by simp) hq
     dsimp only [m_Sb_80,m_Ib_327]
     rw [if_pos (by simp),w64_id (x:=8*(b.length:Int)) (by omega) (by omega),div8d (by omega)]
     dsimp only [m_Sb_83]
     by_cases hmore:q < 8*b.length
     ·rw [if_pos hmore,if_pos (by simp;omega),if_pos (by simp;omega),s_fail]
      simp only [Option.bind_some]
      dsimp only [m_Sb_86]
      rw [if_pos (by decide)]
      exact ⟨rfl,rfl,small 8⟩
     ·rw [if_neg hmore,if_neg (by simp;omega),if_neg (by simp;omega)]
      dsimp only [m_Sb_86]
      rw [if_neg (by simp)]
      exact ⟨rfl,rfl,by omega,fun y hy=>by have:=f4 y hy;omega⟩
   ·have hh2:headOk (rate:Int) (bits:Int) (F:Int) (many:Int)=false:=by simpa using hh
    rw [hh2,if_neg (by simp)]
    refine ⟨?_,?_,small 5⟩
    ·dsimp only [m_Sb_29]
     rw [if_pos (by rfl),s_fail]
     simp only [Option.bind_some]
     exact err32 _ _ _ _ _ _ _ (by decide)
    ·cases hg:headOk (rate:Int) (bits:Int) (F:Int) 0 with
     | false=>rfl
     | true=>
      have hg':=of_decide_eq_true hg
      have hm4 : ¬ (many:Int)≤4000:=fun h=>by
       have:=of_decide_eq_false hh2
       omega
      rw [if_pos rfl,show decide ((many:Int) > 4000)=true by simp;omega]
      rfl
 ·rw [if_pos h1,if_pos (show (magE b 0 MK != 0)=true by simpa using h1)]
  refine ⟨?_,rfl,small _⟩
  have hk:=magE_rng b MK 0
  generalize magE b 0 MK=c at h1 hk ⊢
  have k1:=sb 20 p' c (by omega) hp' h1
  have k2:=sb 5 p' c (by omega) hp' h1
  have k3:=sb 10 p' c (by omega) hp' h1
  have k4:=sb 1 p' c (by omega) hp' h1
  have k5:=sb 12 p' c (by omega) hp' h1
  rw [t20] at k1
  rw [t5] at k2
  rw [t10] at k3
  rw [t1] at k4
  rw [t12] at k5
  rw [k1]
  simp only [Option.bind_some]
  rw [k2]
  simp only [Option.bind_some]
  rw [k3]
  simp only [Option.bind_some]
  rw [k4]
  simp only [Option.bind_some]
  rw [k5]
  simp only [Option.bind_some]
  rw [if_neg (by simpa using h1)]
  exact err29 _ _ _ _ _ _ c h1 rfl
end Go.Proofs.V

namespace Go.Proofs.V
open Go
theorem to_ByteS (x:(List Int)) (hx:x.length≤1048576):m_Lo x=some x:=by
 have hl:x.length≤1048576:=hx
 simp only [m_Lo,m_Lo_0,m_Lo_19]
 rw [ck_eq (by omega)]
 simp only [Option.bind_some]
 suffices key:∀ z,loopM (lp_Lo_9 x) (0,List.replicate (Int.toNat (x.length:Int)) z)=some x by
  rw [key]
  rfl
 intro z
 refine to_list (l:=x) (fun i out hi ho=>?_) (fun out=>?_) z
 ·simp only [lp_Lo_9,m_Lo_9]
  rw [if_pos (by simp <;> omega),rd_eq hi]
  simp only [Option.bind_some]
  rw [rd_eq (by omega)]
  simp only [Option.bind_some]
  rw [w64_succ (by omega)]
 ·simp only [lp_Lo_9,m_Lo_9]
  rw [if_neg (by simp)]
theorem eq_IntS (x:(List Int)) (hx:x.length≤1048576):m_Lb x x=some true:=by
 have hl:x.length≤1048576:=hx
 simp only [m_Lb,m_Lb_0,m_Lb_31]
 rw [if_neg (by simp)]
 suffices key:loopM (lp_Lb_15 x x) 0=some (.inr ()) by
  rw [key]
  rfl
 refine eq_list (n:=x.length) (fun i hi=>?_) ?_
 ·simp only [lp_Lb_15,m_Lb_15]
  rw [if_pos (by simp <;> omega),rd_eq hi]
  simp only [Option.bind_some]
  rw [if_neg (by simp),w64_succ (by omega)]
 ·simp only [lp_Lb_15,m_Lb_15]
  rw [if_neg (by simp)]
theorem eq_IntSS (x:(List (List Int))) (hx:(x.length≤1048576∧∀ y0 ∈ x,y0.length≤1048576)):m_Lc x x=some true:=by
 have hl:x.length≤1048576:=hx.1
 simp only [m_Lc,m_Lc_0,m_Lc_31]
 rw [if_neg (by simp)]
 suffices key:loopM (lp_Lc_15 x x) 0=some (.inr ()) by
  rw [key]
  rfl
 refine eq_list (n:=x.length) (fun i hi=>?_) ?_
 ·simp only [lp_Lc_15,m_Lc_15]
  rw [if_pos (by simp <;> omega),rd_eq hi]
  simp only [Option.bind_some]
  rw [eq_IntS x[i] (hx.2 _ (List.getElem_mem hi))]
  simp only [Option.bind_some,if_true]
  rw [w64_succ (by omega)]
 ·simp only [lp_Lc_15,m_Lc_15]
  rw [if_neg (by simp)]
def Sm_S_Sound (x:Za):Prop:=(x.channels.length≤1048576∧∀ y0 ∈ x.channels,y0.length≤1048576)
theorem eq_Sound (x:Za) (hx:Sm_S_Sound x):m_Ld x x=some true:=by
 simp only [m_Ld,m_Ld_0]
 rw [if_neg (by simp)]
 rw [if_neg (by simp)]
 rw [if_neg (by simp)]
 rw [eq_IntSS x.channels hx]
 simp only [Option.bind_some,if_true]
def Sm_S_SoundRes (x:Zb):Prop:=Sm_S_Sound x.sound
theorem eq_SoundRes (x:Zb) (hx:Sm_S_SoundRes x):m_Le x x=some true:=by
 simp only [m_Le,m_Le_0]
 rw [if_neg (by simp)]
 rw [eq_Sound x.sound hx]
 simp only [Option.bind_some,if_true]
theorem eq_ByteS (x:(List Int)) (hx:x.length≤1048576):m_La x x=some true:=by
 have hl:x.length≤1048576:=hx
 simp only [m_La,m_La_0,m_La_31]
 rw [if_neg (by simp)]
 suffices key:loopM (lp_La_15 x x) 0=some (.inr ()) by
  rw [key]
  rfl
 refine eq_list (n:=x.length) (fun i hi=>?_) ?_
 ·simp only [lp_La_15,m_La_15]
  rw [if_pos (by simp <;> omega),rd_eq hi]
  simp only [Option.bind_some]
  rw [if_neg (by simp),w64_succ (by omega)]
 ·simp only [lp_La_15,m_La_15]
  rw [if_neg (by simp)]
theorem mark_ByteS (x:(List Int)) (k:Nat) (hx:x.length≤1048576) (hk:k+1048576≤4611686018427387904):∃ (x' : (List Int)) (k' : Nat),m_Lj x k=some ((k' : Int),x')∧x'.length=x.length∧k≤k'∧k'≤k+1048576:=by
 have hl:x.length≤1048576:=hx
 have hlc:x.length*1≤1048576:=by omega
 have key:=mark_list0 (Sm:=fun y=>True) 1 (b:=lp_Lj_7) (fun l i k hi hl hk hs=>?_) (fun l k=>?_) x k hl (by omega) (fun _ _=>trivial)
 ·obtain ⟨l1,k1,e1,e2,e3,e4⟩ :=key
  refine ⟨l1,k1,?_,e2,e3,by omega⟩
  ·simp only [m_Lj,m_Lj_0]
   rw [e1]
   rfl
 ·refine ⟨(wr .u8 (k:Int)),k+1,?_,by omega,by omega⟩
  ·simp only [lp_Lj_7,m_Lj_7]
   rw [if_pos (by simp <;> omega),rd_eq hi]
   simp only [Option.bind_some]
   rw [w64_succ (by omega),w64_succ (by omega)]
   simp
 ·simp only [lp_Lj_7,m_Lj_7]
  rw [if_neg (by simp)]
theorem mark_IntS (x:(List Int)) (k:Nat) (hx:x.length≤1048576) (hk:k+1048576≤4611686018427387904):∃ (x' : (List Int)) (k' : Nat),m_Lk x k=some ((k' : Int),x')∧x'.length=x.length∧k≤k'∧k'≤k+1048576∧m_Lf x' k=some (k' : Int):=by
 have hl:x.length≤1048576:=hx
 have hlc:x.length*1≤1048576:=by omega
 have key:=mark_list (Sm:=fun y=>True) 1 (b:=lp_Lk_7) (bh:=lp_Lf_7) (fun l i k hi hl hk hs=>?_) (fun l k=>?_) (fun l k=>?_) x k hl (by omega) (fun _ _=>trivial)
 ·obtain ⟨l1,k1,e1,e2,e3,e4,e5⟩ :=key
  refine ⟨l1,k1,?_,e2,e3,by omega,?_⟩
  ·simp only [m_Lk,m_Lk_0]
   rw [e1]
   rfl
  ·simp only [m_Lf,m_Lf_0]
   rw [e5]
   rfl
 ·refine ⟨(k:Int),k+1,?_,by omega,by omega,fun l' h' hl' hx'=>?_⟩
  ·simp only [lp_Lk_7,m_Lk_7]
   rw [if_pos (by simp <;> omega),rd_eq hi]
   simp only [Option.bind_some]
   rw [w64_succ (by omega),w64_succ (by omega)]
   simp
  ·simp only [lp_Lf_7,m_Lf_7]
   rw [if_pos (by simp <;> omega),rd_eq h',hx']
   simp only [Option.bind_some]
   rw [if_neg (by simp),w64_succ (by omega),w64_succ (by omega)]
 ·simp only [lp_Lk_7,m_Lk_7]
  rw [if_neg (by simp)]
 ·simp only [lp_Lf_7,m_Lf_7]
  rw [if_neg (by simp)]
theorem mark_IntSS (x:(List (List Int))) (k:Nat) (hx:(x.length≤1048576∧∀ y0 ∈ x,y0.length≤1048576)) (hk:k+1099511627776≤4611686018427387904):∃ (x' : (List (List Int))) (k' : Nat),m_Ll x k=some ((k' : Int),x')∧x'.length=x.length∧k≤k'∧k'≤k+1099511627776∧m_Lg x' k=some (k' : Int):=by
 have hl:x.length≤1048576:=hx.1
 have hlc:x.length*1048576≤1099511627776:=by omega
 have key:=mark_list (Sm:=fun y=>y.length≤1048576) 1048576 (b:=lp_Ll_7) (bh:=lp_Lg_7) (fun l i k hi hl hk hs=>?_) (fun l k=>?_) (fun l k=>?_) x k hl (by omega) hx.2
 ·obtain ⟨l1,k1,e1,e2,e3,e4,e5⟩ :=key
  refine ⟨l1,k1,?_,e2,e3,by omega,?_⟩
  ·simp only [m_Ll,m_Ll_0]
   rw [e1]
   rfl
  ·simp only [m_Lg,m_Lg_0]
   rw [e5]
   rfl
 ·obtain ⟨y,k2,f1,f2,f3,f4,f5⟩ :=mark_IntS l[i] k hs (by omega)
  refine ⟨y,k2,?_,f3,f4,fun l' h' hl' hx'=>?_⟩
  ·simp only [lp_Ll_7,m_Ll_7]
   rw [if_pos (by simp <;> omega),rd_eq hi]
   simp only [Option.bind_some]
   rw [f1]
   simp only [Option.bind_some]
   rw [ck_eq f2]
   simp only [Option.bind_some]
   rw [w64_succ (by omega)]
   simp
  ·simp only [lp_Lg_7,m_Lg_7]
   rw [if_pos (by simp <;> omega),rd_eq h',hx']
   simp only [Option.bind_some]
   rw [f5]
   simp only [Option.bind_some]
   rw [if_neg (by simp <;> omega),w64_succ (by omega)]
 ·simp only [lp_Ll_7,m_Ll_7]
  rw [if_neg (by simp)]
 ·simp only [lp_Lg_7,m_Lg_7]
  rw [if_neg (by simp)]
theorem mark_Sound (x:Za) (k:Nat) (hx:Sm_S_Sound x) (hk:k+1099511627776≤4611686018427387904):∃ (l_channels:(List (List Int))) (k' : Nat),m_Lm x k=some ((k' : Int),(⟨x.rate,x.bits,x.frame,l_channels⟩:Za))∧l_channels.length=x.channels.length∧k≤k'∧k'≤k+1099511627776∧m_Lh ⟨x.rate,x.bits,x.frame,l_channels⟩ k=some (k' : Int):=by
 obtain ⟨y0,k0,a0,b0,c0,d0,e0⟩ :=mark_IntSS x.channels k hx (by omega)
 refine ⟨y0,k0,?_,b0,by omega,by omega,?_⟩
 ·simp only [m_Lm,m_Lm_0]
  rw [a0]
  simp only [Option.bind_some]
  rw [ck_eq b0]
  simp only [Option.bind_some]
  try rfl
 ·simp only [m_Lh,m_Lh_0]
  rw [e0]
  simp only [Option.bind_some]
  rw [if_neg (by simp <;> omega)]
theorem mark_SoundRes (x:Zb) (k:Nat) (hx:Sm_S_SoundRes x) (hk:k+1099511627779≤4611686018427387904):∃ (l_sound_channels:(List (List Int))) (k' : Nat),m_Ln x k=some ((k' : Int),(⟨x.err,⟨x.sound.rate,x.sound.bits,x.sound.frame,l_sound_channels⟩⟩:Zb))∧l_sound_channels.length=x.sound.channels.length∧k≤k'∧k'≤k+1099511627779∧m_Li ⟨x.err,⟨x.sound.rate,x.sound.bits,x.sound.frame,l_sound_channels⟩⟩ k=some (k' : Int):=by
 obtain ⟨y0,k0,a0,b0,c0,d0,e0⟩ :=mark_Sound x.sound k hx (by omega)
 refine ⟨y0,k0,?_,b0,by omega,by omega,?_⟩
 ·simp only [m_Ln,m_Ln_0]
  rw [a0]
  simp only [Option.bind_some]
  rw [ck_eq b0]
  simp only [Option.bind_some]
  try rfl
 ·simp only [m_Li,m_Li_0]
  rw [e0]
  simp only [Option.bind_some]
  rw [if_neg (by simp <;> omega)]
theorem plain_FnExactDecodeSound (p0:(List Int)) (hp0:(p0.length≤maxLen∧∀ y0 ∈ p0,inK .u8 y0)) (core:(p0.length≤1048576)→∃ w:Zb,m_Sb p0=some w∧m_Ib p0=some w∧Sm_S_SoundRes w):m_laws_FnExactDecodeSound p0=some true:=by
 simp only [m_laws_FnExactDecodeSound,m_laws_FnExactDecodeSound_0,decide_eq_true_eq]
 by_cases hl:(p0.length:Int) > 1048576
 ·rw [if_pos hl]
 rw [if_neg hl]
 have sm_p0:p0.length≤1048576:=by omega
 rw [to_ByteS p0 sm_p0]
 simp only [Option.bind_some]
 obtain ⟨w,hsp,him,sm0⟩ :=core sm_p0
 rw [hsp]
 simp only [Option.bind_some]
 rw [him]
 simp only [Option.bind_some]
 rw [eq_SoundRes w sm0]
 simp only [Option.bind_some,if_true]
 rw [eq_ByteS p0 sm_p0]
 simp only [Option.bind_some,if_true]
 obtain ⟨y1,k1,a1,b1,c1x,d1⟩ :=mark_ByteS p0 1 sm_p0 (by omega)
 replace a1:m_Lj p0 1=_:=a1
 rw [a1]
 simp only [Option.bind_some]
 rw [ck_eq (by first | assumption | rfl)]
 simp only [Option.bind_some]
 rw [if_neg (by simp <;> omega)]
 obtain ⟨y2_0,k2,a2,b2_0,c2x,d2,f2⟩ :=mark_SoundRes w 1 sm0 (by omega)
 replace a2:m_Ln w 1=_:=a2
 rw [a2]
 simp only [Option.bind_some]
 replace f2:m_Li _ 1=_:=f2
 rw [ck_eq (by first | assumption | rfl)]
 simp only [Option.bind_some]
 rw [f2]
 simp only [Option.bind_some]
 rw [if_neg (by simp <;> omega)]
 rw [if_neg (by simp)]
end Go.Proofs.V

namespace Go.Proofs.V
open Go
theorem final_FnExactDecodeSound (x0:List Int) (w0:(x0.length≤maxLen∧∀ y0 ∈ x0,inK .u8 y0)):m_laws_FnExactDecodeSound x0=some true:=
 plain_FnExactDecodeSound x0 w0 fun h=>by
  obtain ⟨h1,h2,h3⟩ :=core_DecodeSound x0 (fun x hx=>(w0.2 x hx)) h
  exact ⟨decS x0,h1,h2,h3⟩
end Go.Proofs.V
