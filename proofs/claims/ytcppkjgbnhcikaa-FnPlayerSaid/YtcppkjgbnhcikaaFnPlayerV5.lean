import Derived.Test.YtcppkjgbnhcikaaFnPlayerV4
set_option linter.unusedVariables false
set_option maxRecDepth 100000
namespace Go.Proofs.V
open Go
theorem ok_Sw_0 (p1:Int) (p0:Zd) (r:Ze×Zd) (hm:m_Sw_0 p1 p0=some r):EE c_Sw_0 K_Sw_0 (s_Sw_0 p1 p0) (Post vf_Sw (res_Sw r)):=by
 obtain ⟨a,d,hm⟩:=bind_some hm
 refine gm c_Sw_9 K_Sw_9 (s_Sw_9 p1 (w64 (1+a.1)) a.2.code a.2.at_ a.2.seed ([]:LZ)) (wO (.res (res_Sbb a))<|wO (zn (([]:LZ).length))<|wO (zn (([]:LZa).length))<|wO (zn (([]:LZ).length))<|wO (zn (([]:LZa).length))<|wP (ok_Sbb p0 3 a d)<|wP (lens 0 (([]:LZ).length) rfl)<|wP (lens 0 (([]:LZa).length) rfl)<|wP (lens 0 (([]:LZ).length) rfl)<|wP (lens 0 (([]:LZa).length) rfl)<|z0) ?_ (by kernel_rfl)
 obtain ⟨e,he,hm⟩:=bind_some hm
 refine loop_rule (u:=.c c_Sw_9) (K:=K_Sw_9) (Q:=(Post vf_Sw (res_Sw r))) (b:=lp_Sw_9 p1) (We:=O_Sw_9 p1 (Post vf_Sw (res_Sw r))) (stJ:=fun s=>s_Sw_9 p1 s.1 s.2.1 s.2.2.1 s.2.2.2.1 s.2.2.2.2) (s:=((w64 (1+a.1)),a.2.code,a.2.at_,a.2.seed,([]:LZ))) (fun s y hb hin hout=>ok_Sw_9 p1 s.1 s.2.1 s.2.2.1 s.2.2.2.1 s.2.2.2.2 y hb (Post vf_Sw (res_Sw r)) hin hout) he ?_
 show EE c_Sw_23 K_Sw_23 (s_Sw_23 p1 e.1 e.2.1 e.2.2.1 e.2.2.2) _
 exact ok_Sw_23 p1 e.1 e.2.1 e.2.2.1 e.2.2.2 r hm
theorem ok_Sw (p0:Zd) (p1:Int) (r:Ze×Zd) (hm:m_Sw p0 p1=some r):Runs ext tbl 67 (as_Sw p0 p1) (res_Sw r):=
 runs_of (vf:=vf_Sw) (by kernel_rfl) rfl (st:=(enter vf_Sw (as_Sw p0 p1)).getD default) (by kernel_rfl) (go_on [] 1000 J0 (ok_Sw_0 p1 p0 r hm) (by kernel_rfl))
theorem ok_Sbd_0 (p0:LI) (p1 p2 r:Int) (hm:m_Sbd_0 p0 p1 p2=some r):EE c_Sbd_0 K_Sbd_0 (s_Sbd_0 p0 p1 p2) (Post vf_Sbd (res_Sbd r)):=by
 obtain ⟨c,b,hm⟩:=bind_some hm
 obtain ⟨a,hm⟩|⟨a,hm⟩:=split_ite hm
 ·exact ge (wL (rI .u8) p0<|wP (ck_p b)<|u1 a<|z0) (congrArg res_Sbd (qj hm)) (by kernel_rfl)
 ·exact ge (wL (rI .u8) p0<|wP (ck_p b)<|v1 a<|z0) (congrArg res_Sbd (qj hm)) (by kernel_rfl)
theorem ok_Sbd (p0:LI) (p1 p2 r:Int) (hm:m_Sbd p0 p1 p2=some r):Runs ext tbl 117 (as_Sbd p0 p1 p2) (res_Sbd r):=
 runs_of (vf:=vf_Sbd) (by kernel_rfl) rfl (st:=(enter vf_Sbd (as_Sbd p0 p1 p2)).getD default) (by kernel_rfl) (go_on [] 1000 J0 (ok_Sbd_0 p0 p1 p2 r hm) (by kernel_rfl))
theorem ok_Sg_49 (c:LI) (d e:Int) (a:LZ) (b:LZa) (r:Ze×Zd) (hm:m_Sg_49 c d e a b=some r):EE c_Sg_49 K_Sg_49 (s_Sg_49 c d e a b) (Post vf_Sg (res_Sg r)):=by
 exact ge (wR rZa a<|wR rZb b<|z0) (congrArg res_Sg (qj hm)) (by kernel_rfl)
theorem ok_Sg_12 (m:LI) (n o:Int) (i:LZ) (e:LZa) (r:Ze×Zd) (hm:m_Sg_12 m n o i e=some r):EE c_Sg_12 K_Sg_12 (s_Sg_12 m n o i e) (Post vf_Sg (res_Sg r)):=by
 obtain ⟨f,q,hm⟩:=bind_some hm
 obtain ⟨p,hm⟩|⟨p,hm⟩:=split_ite hm
 ·obtain ⟨k,hm⟩|⟨k,hm⟩:=split_ite hm
  ·obtain ⟨a,g,hm⟩:=bind_some hm
   obtain ⟨b,l,hm⟩:=bind_some hm
   obtain ⟨c,j,hm⟩:=bind_some hm
   exact gw (ok_Sg_49 _ _ _ _ _ r hm) (wO (.res (res_Sbb f))<|wP (ok_Sbb (Zd.mk m n o) 14 f q)<|u1 p<|u1 k<|wO (.row (rZb a))<|wO (.row (rZb b))<|wO (.rows (List.map rZb (e.set (0+Int.toNat 0) (Zb.mk b.track a.time a.span a.key a.data))))<|wO (.rows (List.map rZb (e.set (0+Int.toNat 0) (Zb.mk b.track b.time a.span a.key a.data))))<|wO (.rows (List.map rZb (e.set (0+Int.toNat 0) (Zb.mk b.track b.time b.span a.key a.data))))<|wO (.rows (List.map rZb (e.set (0+Int.toNat 0) (Zb.mk b.track b.time b.span b.key a.data))))<|wO (.rows (List.map rZb (e.set (0+Int.toNat 0) b)))<|wO (.rows (List.map rZb ((e.set (0+Int.toNat 0) b).set (0+Int.toNat 1) (Zb.mk a.track c.time c.span c.key c.data))))<|wO (.rows (List.map rZb ((e.set (0+Int.toNat 0) b).set (0+Int.toNat 1) (Zb.mk a.track a.time c.span c.key c.data))))<|wO (.rows (List.map rZb ((e.set (0+Int.toNat 0) b).set (0+Int.toNat 1) (Zb.mk a.track a.time a.span c.key c.data))))<|wO (.rows (List.map rZb ((e.set (0+Int.toNat 0) b).set (0+Int.toNat 1) (Zb.mk a.track a.time a.span a.key c.data))))<|wO (.rows (List.map rZb ((e.set (0+Int.toNat 0) b).set (0+Int.toNat 1) a)))<|wO (zn (([]:LZ).length))<|wO (zn (([]:LZa).length))<|wO (zn i.length)<|wO (zn (((e.set (0+Int.toNat 0) b).set (0+Int.toNat 1) a).length))<|wP (rd_in rfl g)<|wP (at_row rZb (rd_get0 g))<|wP (rd_in rfl l)<|wP (at_row rZb (rd_get0 l))<|wP (rd_in rfl g)<|wP (put_ob rZb (Zb.mk b.track a.time a.span a.key a.data) 0 (.lit (vI b.track)) (rd_get0 g) (by kernel_rfl) (by kernel_rfl))<|wP (put_ob2 rZb (Zb.mk b.track b.time a.span a.key a.data) 1 (.lit (vI b.time)) (set_at (Zb.mk b.track a.time a.span a.key a.data) (rd_get0 g)) (by kernel_rfl) (by kernel_rfl))<|wP (put_ob2 rZb (Zb.mk b.track b.time b.span a.key a.data) 2 (.lit (vI b.span)) (set_at2 (Zb.mk b.track b.time a.span a.key a.data) (set_at (Zb.mk b.track a.time a.span a.key a.data) (rd_get0 g))) (by kernel_rfl) (by kernel_rfl))<|wP (put_ob2 rZb (Zb.mk b.track b.time b.span b.key a.data) 3 (.lit (.bool b.key)) (set_at2 (Zb.mk b.track b.time b.span a.key a.data) (set_at2 (Zb.mk b.track b.time a.span a.key a.data) (set_at (Zb.mk b.track a.time a.span a.key a.data) (rd_get0 g)))) (by kernel_rfl) (by kernel_rfl))<|wP (put_ob2 rZb b 4 (.sl (b.data.map (rI .u8))) (set_at2 (Zb.mk b.track b.time b.span b.key a.data) (set_at2 (Zb.mk b.track b.time b.span a.key a.data) (set_at2 (Zb.mk b.track b.time a.span a.key a.data) (set_at (Zb.mk b.track a.time a.span a.key a.data) (rd_get0 g))))) (by kernel_rfl) (by kernel_rfl))<|wP (rd_in (set_len rfl) j)<|wP (put_ob rZb (Zb.mk a.track c.time c.span c.key c.data) 0 (.lit (vI a.track)) (rd_get0 j) (by kernel_rfl) (by kernel_rfl))<|wP (put_ob2 rZb (Zb.mk a.track a.time c.span c.key c.data) 1 (.lit (vI a.time)) (set_at (Zb.mk a.track c.time c.span c.key c.data) (rd_get0 j)) (by kernel_rfl) (by kernel_rfl))<|wP (put_ob2 rZb (Zb.mk a.track a.time a.span c.key c.data) 2 (.lit (vI a.span)) (set_at2 (Zb.mk a.track a.time c.span c.key c.data) (set_at (Zb.mk a.track c.time c.span c.key c.data) (rd_get0 j))) (by kernel_rfl) (by kernel_rfl))<|wP (put_ob2 rZb (Zb.mk a.track a.time a.span a.key c.data) 3 (.lit (.bool a.key)) (set_at2 (Zb.mk a.track a.time a.span c.key c.data) (set_at2 (Zb.mk a.track a.time c.span c.key c.data) (set_at (Zb.mk a.track c.time c.span c.key c.data) (rd_get0 j)))) (by kernel_rfl) (by kernel_rfl))<|wP (put_ob2 rZb a 4 (.sl (a.data.map (rI .u8))) (set_at2 (Zb.mk a.track a.time a.span a.key c.data) (set_at2 (Zb.mk a.track a.time a.span c.key c.data) (set_at2 (Zb.mk a.track a.time c.span c.key c.data) (set_at (Zb.mk a.track c.time c.span c.key c.data) (rd_get0 j))))) (by kernel_rfl) (by kernel_rfl))<|wP (lens (([]:LZ).length) (([]:LZ).length) rfl)<|wP (lens (([]:LZa).length) (([]:LZa).length) rfl)<|wP (ln i.length)<|wP (lens e.length (((e.set (0+Int.toNat 0) b).set (0+Int.toNat 1) a).length) (set_len (set_len rfl)))<|z0) (by kernel_rfl)
  ·exact gw (ok_Sg_49 _ _ _ _ _ r hm) (wO (.res (res_Sbb f))<|wP (ok_Sbb (Zd.mk m n o) 14 f q)<|u1 p<|v1 k<|wO (zn (([]:LZ).length))<|wO (zn (([]:LZa).length))<|wP (lens (([]:LZ).length) (([]:LZ).length) rfl)<|wP (lens (([]:LZa).length) (([]:LZa).length) rfl)<|wN i.length<|wN e.length<|z0) (by kernel_rfl)
 ·obtain ⟨k,hm⟩|⟨k,hm⟩:=split_ite hm
  ·obtain ⟨g,hm⟩|⟨g,hm⟩:=split_ite hm
   ·obtain ⟨b,l,hm⟩:=bind_some hm
    obtain ⟨c,j,hm⟩:=bind_some hm
    obtain ⟨d,s,hm⟩:=bind_some hm
    obtain ⟨h,t,hm⟩:=bind_some hm
    exact gw (ok_Sg_49 _ _ _ _ _ r hm) (wO (.res (res_Sbb f))<|wP (ok_Sbb (Zd.mk m n o) 14 f q)<|v1 p<|u1 k<|u1 g<|wO (.rows (mi ([(-1),1000000000,1000000001,3]:LI)))<|wO (.res (res_Sbb b))<|wO (.res (res_Sbb c))<|wO (.row ((rI .i64) d))<|wO (.rows (List.map rZb (e.set (0+Int.toNat b.1) (Zb.mk h.track d h.span h.key h.data))))<|wO (zn (([]:LZ).length))<|wO (zn (([]:LZa).length))<|wO (zn i.length)<|wO (zn ((e.set (0+Int.toNat b.1) (Zb.mk h.track d h.span h.key h.data)).length))<|wP (Eq.refl (mi ([(-1),1000000000,1000000001,3]:LI)))<|wP (ok_Sbb f.2 (e.length:Int) b l)<|wP (ok_Sbb b.2 4 c j)<|wP (rd_nn s)<|wP (at_row (rI .i64) (rd_get s))<|wP (rd_in rfl t)<|wP (put_ob rZb (Zb.mk h.track d h.span h.key h.data) 1 (.lit (vI d)) (rd_get0 t) (by kernel_rfl) (by kernel_rfl))<|wP (lens (([]:LZ).length) (([]:LZ).length) rfl)<|wP (lens (([]:LZa).length) (([]:LZa).length) rfl)<|wP (ln i.length)<|wP (lens e.length ((e.set (0+Int.toNat b.1) (Zb.mk h.track d h.span h.key h.data)).length) (set_len rfl))<|z0) (by kernel_rfl)
   ·exact gw (ok_Sg_49 _ _ _ _ _ r hm) (wO (.res (res_Sbb f))<|wP (ok_Sbb (Zd.mk m n o) 14 f q)<|v1 p<|u1 k<|v1 g<|wO (zn (([]:LZ).length))<|wO (zn (([]:LZa).length))<|wP (lens (([]:LZ).length) (([]:LZ).length) rfl)<|wP (lens (([]:LZa).length) (([]:LZa).length) rfl)<|wN i.length<|wN e.length<|z0) (by kernel_rfl)
  ·obtain ⟨g,hm⟩|⟨g,hm⟩:=split_ite hm
   ·obtain ⟨b,l,hm⟩:=bind_some hm
    obtain ⟨c,j,hm⟩:=bind_some hm
    obtain ⟨d,s,hm⟩:=bind_some hm
    exact gw (ok_Sg_49 _ _ _ _ _ r hm) (wO (.res (res_Sbb f))<|wP (ok_Sbb (Zd.mk m n o) 14 f q)<|v1 p<|v1 k<|u1 g<|wO (.rows (mi ([0,1000000,1000001]:LI)))<|wO (.res (res_Sbb b))<|wO (.row ((rI .i64) c))<|wO (.rows (List.map rZa (i.set (0+Int.toNat 0) (Za.mk d.kind c d.name))))<|wO (zn (([]:LZ).length))<|wO (zn (([]:LZa).length))<|wO (zn ((i.set (0+Int.toNat 0) (Za.mk d.kind c d.name)).length))<|wO (zn e.length)<|wP (Eq.refl (mi ([0,1000000,1000001]:LI)))<|wP (ok_Sbb f.2 3 b l)<|wP (rd_nn j)<|wP (at_row (rI .i64) (rd_get j))<|wP (rd_in rfl s)<|wP (put_ob rZa (Za.mk d.kind c d.name) 1 (.lit (vI c)) (rd_get0 s) (by kernel_rfl) (by kernel_rfl))<|wP (lens (([]:LZ).length) (([]:LZ).length) rfl)<|wP (lens (([]:LZa).length) (([]:LZa).length) rfl)<|wP (lens i.length ((i.set (0+Int.toNat 0) (Za.mk d.kind c d.name)).length) (set_len rfl))<|wP (ln e.length)<|z0) (by kernel_rfl)
   ·obtain ⟨l,hm⟩|⟨l,hm⟩:=split_ite hm
    ·obtain ⟨j,hm⟩|⟨j,hm⟩:=split_ite hm
     ·obtain ⟨d,s,hm⟩:=bind_some hm
      exact gw (ok_Sg_49 _ _ _ _ _ r hm) (wO (.res (res_Sbb f))<|wP (ok_Sbb (Zd.mk m n o) 14 f q)<|v1 p<|v1 k<|v1 g<|u1 l<|u1 j<|wO (.rows (List.map rZb (e.set (0+Int.toNat 0) (Zb.mk d.track d.time d.span false d.data))))<|wO (zn (([]:LZ).length))<|wO (zn (([]:LZa).length))<|wP (rd_in rfl s)<|wP (put_ob rZb (Zb.mk d.track d.time d.span false d.data) 3 (.lit (.bool false)) (rd_get0 s) (by kernel_rfl) (by kernel_rfl))<|wP (lens (([]:LZ).length) (([]:LZ).length) rfl)<|wP (lens (([]:LZa).length) (([]:LZa).length) rfl)<|wN i.length<|wO (zn ((e.set (0+Int.toNat 0) (Zb.mk d.track d.time d.span false d.data)).length))<|wP (lens e.length ((e.set (0+Int.toNat 0) (Zb.mk d.track d.time d.span false d.data)).length) (set_len rfl))<|z0) (by kernel_rfl)
     ·exact gw (ok_Sg_49 _ _ _ _ _ r hm) (wO (.res (res_Sbb f))<|wP (ok_Sbb (Zd.mk m n o) 14 f q)<|v1 p<|v1 k<|v1 g<|u1 l<|v1 j<|wO (zn (([]:LZ).length))<|wO (zn (([]:LZa).length))<|wP (lens (([]:LZ).length) (([]:LZ).length) rfl)<|wP (lens (([]:LZa).length) (([]:LZa).length) rfl)<|wN i.length<|wN e.length<|z0) (by kernel_rfl)
    ·exact gw (ok_Sg_49 _ _ _ _ _ r hm) (wO (.res (res_Sbb f))<|wP (ok_Sbb (Zd.mk m n o) 14 f q)<|v1 p<|v1 k<|v1 g<|v1 l<|wO (zn (([]:LZ).length))<|wO (zn (([]:LZa).length))<|wP (lens (([]:LZ).length) (([]:LZ).length) rfl)<|wP (lens (([]:LZa).length) (([]:LZa).length) rfl)<|wN i.length<|wN e.length<|z0) (by kernel_rfl)
theorem ok_Sg_0 (p0:LI) (r:Ze×Zd) (hm:m_Sg_0 p0=some r):EE c_Sg_0 K_Sg_0 (s_Sg_0 p0) (Post vf_Sg (res_Sg r)):=by
 obtain ⟨b,g,hm⟩:=bind_some hm
 obtain ⟨a,h,hm⟩:=bind_some hm
 obtain ⟨d,i,hm⟩:=bind_some hm
 obtain ⟨e,hm⟩|⟨e,hm⟩:=split_ite hm
 ·obtain ⟨f,j,hm⟩:=bind_some hm
  obtain ⟨c,k,hm⟩:=bind_some hm
  exact gw (ok_Sg_12 _ _ _ _ _ r hm) (wO (.res (res_Sbb b))<|wO (.res (res_Sw a))<|wP (ok_Sbb (Zd.mk p0 0 0) 12 b g)<|wP (ok_Sw b.2 b.1 a h)<|wL rZa a.1.tracks<|wL rZb a.1.packets<|wO (.res (res_Sba d))<|wP (ok_Sba a.2 6 d i)<|u1 e<|wO (.res (res_Sbd f))<|wO (.res (res_Sw c))<|wP (ok_Sbd p0 6 60 f j)<|wP (ok_Sw d.2 f c k)<|wL rZa c.1.tracks<|wL rZb c.1.packets<|wO (zn (([]:LZ).length))<|wO (zn (([]:LZa).length))<|wP (lens 0 (([]:LZ).length) rfl)<|wP (lens 0 (([]:LZa).length) rfl)<|wN c.1.tracks.length<|wN c.1.packets.length<|z0) (by kernel_rfl)
 ·exact gw (ok_Sg_12 _ _ _ _ _ r hm) (wO (.res (res_Sbb b))<|wO (.res (res_Sw a))<|wP (ok_Sbb (Zd.mk p0 0 0) 12 b g)<|wP (ok_Sw b.2 b.1 a h)<|wL rZa a.1.tracks<|wL rZb a.1.packets<|wO (.res (res_Sba d))<|wP (ok_Sba a.2 6 d i)<|v1 e<|wO (zn (([]:LZ).length))<|wO (zn (([]:LZa).length))<|wP (lens 0 (([]:LZ).length) rfl)<|wP (lens 0 (([]:LZa).length) rfl)<|wN a.1.tracks.length<|wN a.1.packets.length<|z0) (by kernel_rfl)
theorem ok_Sg (p0:LI) (r:Ze×Zd) (hm:m_Sg p0=some r):Runs ext tbl 64 (as_Sg p0) (res_Sg r):=
 runs_of (vf:=vf_Sg) (by kernel_rfl) rfl (st:=(enter vf_Sg (as_Sg p0)).getD default) (by kernel_rfl) (go_on [] 1000 J0 (ok_Sg_0 p0 r hm) (by kernel_rfl))
def O_Sy_34 (a:LZa) (Q:VX→St→Prop) (e:(LI×Int×Int×LZ)):Prop:=EE c_Sy_50 K_Sy_50 (s_Sy_50 a e.1 e.2.1 e.2.2.1 e.2.2.2) Q
def O_Sy_7 (p1:Ze) (Q:VX→St→Prop) (e:(LI×Int×Int×LZa)):Prop:=EE c_Sy_29 K_Sy_29 (s_Sy_29 p1 e.1 e.2.1 e.2.2.1 e.2.2.2) Q
theorem ok_Sy_23 (d:Int) (p1:Ze) (g:LI) (h i:Int) (b:LZa) (y) (hm:m_Sy_23 d p1 g h i b=some y) (Q)
  (hin:∀ s,y=.inl s→EE c_Sy_7 K_Sy_7 (s_Sy_7 p1 s.1 s.2.1 s.2.2.1 s.2.2.2.1 s.2.2.2.2) Q) (hout:∀ e,y=.inr e→O_Sy_7 p1 Q e):EE c_Sy_23 K_Sy_23 (s_Sy_23 d p1 g h i b) Q:=by
 obtain ⟨f,k,hm⟩:=bind_some hm
 obtain ⟨j,hm⟩|⟨j,hm⟩:=split_ite hm
 ·obtain ⟨c,m,hm⟩:=bind_some hm
  obtain ⟨a,l,hm⟩:=bind_some hm
  exact gw (hin _ (qj hm).symm) (wO (.res (res_Sba f))<|wP (ok_Sba (Zd.mk g h i) 2 f k)<|u1 j<|wO (.res (res_Sbb c))<|wO (.rows (List.map rZb (b.set (0+Int.toNat d) (Zb.mk a.track a.time (w64 (1+c.1)) a.key a.data))))<|wP (ok_Sbb f.2 40 c m)<|wP (rd_in rfl l)<|wP (put_ob rZb (Zb.mk a.track a.time (w64 (1+c.1)) a.key a.data) 2 (.lit (vI (w64 (1+c.1)))) (rd_get0 l) (by kernel_rfl) (by kernel_rfl))<|wN p1.tracks.length<|wO (zn ((b.set (0+Int.toNat d) (Zb.mk a.track a.time (w64 (1+c.1)) a.key a.data)).length))<|wO (zn (([]:LZ).length))<|wO (zn (([]:LZa).length))<|wP (lens b.length ((b.set (0+Int.toNat d) (Zb.mk a.track a.time (w64 (1+c.1)) a.key a.data)).length) (set_len rfl))<|wP (lens (([]:LZ).length) (([]:LZ).length) rfl)<|wP (lens (([]:LZa).length) (([]:LZa).length) rfl)<|z0) (by kernel_rfl)
 ·exact gw (hin _ (qj hm).symm) (wO (.res (res_Sba f))<|wP (ok_Sba (Zd.mk g h i) 2 f k)<|v1 j<|wN p1.tracks.length<|wN b.length<|wO (zn (([]:LZ).length))<|wO (zn (([]:LZa).length))<|wP (lens (([]:LZ).length) (([]:LZ).length) rfl)<|wP (lens (([]:LZa).length) (([]:LZa).length) rfl)<|z0) (by kernel_rfl)
theorem ok_Sy_50 (a:LZa) (c:LI) (d e:Int) (b:LZ) (r:Ze×Zd) (hm:m_Sy_50 a c d e b=some r):EE c_Sy_50 K_Sy_50 (s_Sy_50 a c d e b) (Post vf_Sy (res_Sy r)):=by
 exact ge (wR rZa b<|wR rZb a<|z0) (congrArg res_Sy (qj hm)) (by kernel_rfl)
theorem ok_Sy_34 (p1:Ze) (b:LZa) (h:Int) (d:LI) (f g:Int) (a:LZ) (y) (hm:m_Sy_34 p1 b h d f g a=some y) (Q)
  (hin:∀ s,y=.inl s→EE c_Sy_34 K_Sy_34 (s_Sy_34 p1 b s.1 s.2.1 s.2.2.1 s.2.2.2.1 s.2.2.2.2) Q) (hout:∀ e,y=.inr e→O_Sy_34 b Q e):EE c_Sy_34 K_Sy_34 (s_Sy_34 p1 b h d f g a) Q:=by
 obtain ⟨i,hm⟩|⟨i,hm⟩:=split_ite hm
 ·obtain ⟨j,l,hm⟩:=bind_some hm
  obtain ⟨k,hm⟩|⟨k,hm⟩:=split_ite hm
  ·obtain ⟨c,m,hm⟩:=bind_some hm
   exact gw (hin _ (qj hm).symm) (u1 i<|wO (.res (res_Sba j))<|wP (ok_Sba (Zd.mk d f g) 2 j l)<|u1 k<|wO (.rows (List.map rZa (a.set (0+Int.toNat h) (Za.mk 3 c.scale c.name))))<|wO (zn ((a.set (0+Int.toNat h) (Za.mk 3 c.scale c.name)).length))<|wP (rd_in rfl m)<|wP (put_ob rZa (Za.mk 3 c.scale c.name) 0 (.lit (vI 3)) (rd_get0 m) (by kernel_rfl) (by kernel_rfl))<|wP (lens a.length ((a.set (0+Int.toNat h) (Za.mk 3 c.scale c.name)).length) (set_len rfl))<|wN b.length<|wO (zn (([]:LZ).length))<|wO (zn (([]:LZa).length))<|wP (lens (([]:LZ).length) (([]:LZ).length) rfl)<|wP (lens (([]:LZa).length) (([]:LZa).length) rfl)<|z0) (by kernel_rfl)
  ·exact gw (hin _ (qj hm).symm) (u1 i<|wO (.res (res_Sba j))<|wP (ok_Sba (Zd.mk d f g) 2 j l)<|v1 k<|wN a.length<|wN b.length<|wO (zn (([]:LZ).length))<|wO (zn (([]:LZa).length))<|wP (lens (([]:LZ).length) (([]:LZ).length) rfl)<|wP (lens (([]:LZa).length) (([]:LZa).length) rfl)<|z0) (by kernel_rfl)
 ·refine gm c_Sy_50 K_Sy_50 (s_Sy_50 b d f g a) (v1 i<|wN a.length<|wN b.length<|wO (zn (([]:LZ).length))<|wO (zn (([]:LZa).length))<|wP (lens (([]:LZ).length) (([]:LZ).length) rfl)<|wP (lens (([]:LZa).length) (([]:LZa).length) rfl)<|z0) ?_ (by kernel_rfl)
  exact hout (d,f,g,a) (qj hm).symm
theorem ok_Sy_29 (p1:Ze) (d:LI) (f g:Int) (a:LZa) (r:Ze×Zd) (hm:m_Sy_29 p1 d f g a=some r):EE c_Sy_29 K_Sy_29 (s_Sy_29 p1 d f g a) (Post vf_Sy (res_Sy r)):=by
 refine gm c_Sy_34 K_Sy_34 (s_Sy_34 p1 a 0 d f g p1.tracks) (wN p1.tracks.length<|wN a.length<|wO (zn (([]:LZ).length))<|wO (zn (([]:LZa).length))<|wP (lens (([]:LZ).length) (([]:LZ).length) rfl)<|wP (lens (([]:LZa).length) (([]:LZa).length) rfl)<|z0) ?_ (by kernel_rfl)
 obtain ⟨e,he,hm⟩:=bind_some hm
 refine loop_rule (u:=.c c_Sy_34) (K:=K_Sy_34) (Q:=(Post vf_Sy (res_Sy r))) (b:=lp_Sy_34 p1 a) (We:=O_Sy_34 a (Post vf_Sy (res_Sy r))) (stJ:=fun s=>s_Sy_34 p1 a s.1 s.2.1 s.2.2.1 s.2.2.2.1 s.2.2.2.2) (s:=(0,d,f,g,p1.tracks)) (fun s y hb hin hout=>ok_Sy_34 p1 a s.1 s.2.1 s.2.2.1 s.2.2.2.1 s.2.2.2.2 y hb (Post vf_Sy (res_Sy r)) hin hout) he ?_
 show EE c_Sy_50 K_Sy_50 (s_Sy_50 a e.1 e.2.1 e.2.2.1 e.2.2.2) _
 exact ok_Sy_50 a e.1 e.2.1 e.2.2.1 e.2.2.2 r hm
theorem ok_Sy_7 (p1:Ze) (h:Int) (d:LI) (f g:Int) (c:LZa) (y) (hm:m_Sy_7 p1 h d f g c=some y) (Q)
  (hin:∀ s,y=.inl s→EE c_Sy_7 K_Sy_7 (s_Sy_7 p1 s.1 s.2.1 s.2.2.1 s.2.2.2.1 s.2.2.2.2) Q) (hout:∀ e,y=.inr e→O_Sy_7 p1 Q e):EE c_Sy_7 K_Sy_7 (s_Sy_7 p1 h d f g c) Q:=by
 obtain ⟨j,hm⟩|⟨j,hm⟩:=split_ite hm
 ·obtain ⟨i,l,hm⟩:=bind_some hm
  obtain ⟨k,hm⟩|⟨k,hm⟩:=split_ite hm
  ·obtain ⟨a,n,hm⟩:=bind_some hm
   obtain ⟨p,o,hm⟩:=bind_some hm
   obtain ⟨b,m,hm⟩:=bind_some hm
   exact gw (ok_Sy_23 _ _ _ _ _ _ y hm Q hin hout) (u1 j<|wO (.res (res_Sba i))<|wP (ok_Sba (Zd.mk d f g) 3 i l)<|u1 k<|wO (.res (res_Sbb a))<|wO (.rows (List.map (rI .u8) (List.replicate (Int.toNat a.1) (0:Int))))<|wO (zn (Int.toNat a.1))<|wO (.rows (List.map (rI .u8) (List.replicate (Int.toNat a.1) (0:Int))))<|wO (.rows (List.map rZb (c.set (0+Int.toNat h) (Zb.mk b.track b.time b.span b.key (List.replicate (Int.toNat a.1) (0:Int))))))<|wO (zn p1.tracks.length)<|wO (zn ((c.set (0+Int.toNat h) (Zb.mk b.track b.time b.span b.key (List.replicate (Int.toNat a.1) (0:Int)))).length))<|wO (zn (([]:LZ).length))<|wO (zn (([]:LZa).length))<|wP (ok_Sbb i.2 900 a n)<|wP (ck_p o)<|wP (rep_ob (rI .u8) (Int.toNat a.1) (0:Int) [.lit (.int .u8 0)] (by kernel_rfl))<|wP (len_map (rI .u8) (show (Int.toNat a.1)=(List.replicate (Int.toNat a.1) (0:Int)).length from (rep_len (Int.toNat a.1) (0:Int))))<|wP (rd_in rfl m)<|wP (all_le0 (rI .u8) (List.replicate (Int.toNat a.1) (0:Int)) (rep_len (Int.toNat a.1) (0:Int)))<|wP (all_t (rI .u8) (List.replicate (Int.toNat a.1) (0:Int)) (rep_len (Int.toNat a.1) (0:Int)))<|wP (put_ob rZb (Zb.mk b.track b.time b.span b.key (List.replicate (Int.toNat a.1) (0:Int))) 4 (.sl ((List.replicate (Int.toNat a.1) (0:Int)).map (rI .u8))) (rd_get0 m) (by kernel_rfl) (by kernel_rfl))<|wP (ln p1.tracks.length)<|wP (lens c.length ((c.set (0+Int.toNat h) (Zb.mk b.track b.time b.span b.key (List.replicate (Int.toNat a.1) (0:Int)))).length) (set_len rfl))<|wP (lens (([]:LZ).length) (([]:LZ).length) rfl)<|wP (lens (([]:LZa).length) (([]:LZa).length) rfl)<|z0) (by kernel_rfl)
  ·exact gw (ok_Sy_23 _ _ _ _ _ _ y hm Q hin hout) (u1 j<|wO (.res (res_Sba i))<|wP (ok_Sba (Zd.mk d f g) 3 i l)<|v1 k<|wN p1.tracks.length<|wN c.length<|wO (zn (([]:LZ).length))<|wO (zn (([]:LZa).length))<|wP (lens (([]:LZ).length) (([]:LZ).length) rfl)<|wP (lens (([]:LZa).length) (([]:LZa).length) rfl)<|z0) (by kernel_rfl)
 ·refine gm c_Sy_29 K_Sy_29 (s_Sy_29 p1 d f g c) (v1 j<|wN p1.tracks.length<|wN c.length<|wO (zn (([]:LZ).length))<|wO (zn (([]:LZa).length))<|wP (lens (([]:LZ).length) (([]:LZ).length) rfl)<|wP (lens (([]:LZa).length) (([]:LZa).length) rfl)<|z0) ?_ (by kernel_rfl)
  exact hout (d,f,g,c) (qj hm).symm
theorem ok_Sy_0 (p0:Zd) (p1:Ze) (r:Ze×Zd) (hm:m_Sy_0 p0 p1=some r):EE c_Sy_0 K_Sy_0 (s_Sy_0 p0 p1) (Post vf_Sy (res_Sy r)):=by
 refine gm c_Sy_7 K_Sy_7 (s_Sy_7 p1 0 p0.code p0.at_ p0.seed p1.packets) (wN p1.tracks.length<|wN p1.packets.length<|wO (zn (([]:LZ).length))<|wO (zn (([]:LZa).length))<|wP (lens 0 (([]:LZ).length) rfl)<|wP (lens 0 (([]:LZa).length) rfl)<|z0) ?_ (by kernel_rfl)
 obtain ⟨e,he,hm⟩:=bind_some hm
 refine loop_rule (u:=.c c_Sy_7) (K:=K_Sy_7) (Q:=(Post vf_Sy (res_Sy r))) (b:=lp_Sy_7 p1) (We:=O_Sy_7 p1 (Post vf_Sy (res_Sy r))) (stJ:=fun s=>s_Sy_7 p1 s.1 s.2.1 s.2.2.1 s.2.2.2.1 s.2.2.2.2) (s:=(0,p0.code,p0.at_,p0.seed,p1.packets)) (fun s y hb hin hout=>ok_Sy_7 p1 s.1 s.2.1 s.2.2.1 s.2.2.2.1 s.2.2.2.2 y hb (Post vf_Sy (res_Sy r)) hin hout) he ?_
 show EE c_Sy_29 K_Sy_29 (s_Sy_29 p1 e.1 e.2.1 e.2.2.1 e.2.2.2) _
 exact ok_Sy_29 p1 e.1 e.2.1 e.2.2.1 e.2.2.2 r hm
theorem ok_Sy (p0:Zd) (p1:Ze) (r:Ze×Zd) (hm:m_Sy p0 p1=some r):Runs ext tbl 66 (as_Sy p0 p1) (res_Sy r):=
 runs_of (vf:=vf_Sy) (by kernel_rfl) rfl (st:=(enter vf_Sy (as_Sy p0 p1)).getD default) (by kernel_rfl) (go_on [zn p1.tracks.length,zn p1.packets.length] 1000 (J (len_map rZa (rfl:p1.tracks.length=p1.tracks.length)) (J (len_map rZb (rfl:p1.packets.length=p1.packets.length)) J0)) (ok_Sy_0 p0 p1 r hm) (by kernel_rfl))
def O_Sv_11 (Q:VX→St→Prop) (e:(LI×Int×Int×LZb)):Prop:=EE c_Sv_48 K_Sv_48 (s_Sv_48 e.1 e.2.1 e.2.2.1 e.2.2.2) Q
theorem ok_Sv_46 (p1 d:Int) (c:LZb) (f:LI) (g h a b:Int) (y) (hm:m_Sv_46 p1 d c f g h a b=some y) (Q)
  (hin:∀ s,y=.inl s→EE c_Sv_11 K_Sv_11 (s_Sv_11 p1 s.1 s.2.1 s.2.2.1 s.2.2.2.1 s.2.2.2.2) Q) (hout:∀ e,y=.inr e→O_Sv_11 Q e):EE c_Sv_46 K_Sv_46 (s_Sv_46 p1 d c f g h a b) Q:=by
 obtain ⟨j,i,hm⟩:=bind_some hm
 exact gw (hin _ (qj hm).symm) (wO (.rows (List.map rZc ([(Zc.mk a b)]:LZb)))<|wO (zn 1)<|wO (.rows (List.map rZc (c++([(Zc.mk a b)]:LZb))))<|wO (zn ((c++([(Zc.mk a b)]:LZb)).length))<|wO (zn ((c++([(Zc.mk a b)]:LZb)).length))<|wP (Eq.refl (List.map rZc ([(Zc.mk a b)]:LZb)))<|wP (len_map rZc (show 1=([(Zc.mk a b)]:LZb).length from rfl))<|wP (all_le rZc ([(Zc.mk a b)]:LZb) rfl)<|wP (app_ck rZc c ([(Zc.mk a b)]:LZb) rfl rfl i)<|wP (app_tell rZc c ([(Zc.mk a b)]:LZb) rfl rfl)<|wP (len_map rZc (show (c++([(Zc.mk a b)]:LZb)).length=(c++([(Zc.mk a b)]:LZb)).length from rfl))<|wP (lens ((c++([(Zc.mk a b)]:LZb)).length) ((c++([(Zc.mk a b)]:LZb)).length) rfl)<|z0) (by kernel_rfl)
theorem ok_Sv_48 (b:LI) (c d:Int) (a:LZb) (r:LZb×Zd) (hm:m_Sv_48 b c d a=some r):EE c_Sv_48 K_Sv_48 (s_Sv_48 b c d a) (Post vf_Sv (res_Sv r)):=by
 exact ge (wR rZc a<|z0) (congrArg res_Sv (qj hm)) (by kernel_rfl)
theorem ok_Sv_11 (p1 o:Int) (c:LI) (d f:Int) (b:LZb) (y) (hm:m_Sv_11 p1 o c d f b=some y) (Q)
  (hin:∀ s,y=.inl s→EE c_Sv_11 K_Sv_11 (s_Sv_11 p1 s.1 s.2.1 s.2.2.1 s.2.2.2.1 s.2.2.2.2) Q) (hout:∀ e,y=.inr e→O_Sv_11 Q e):EE c_Sv_11 K_Sv_11 (s_Sv_11 p1 o c d f b) Q:=by
 obtain ⟨g,hm⟩|⟨g,hm⟩:=split_ite hm
 ·obtain ⟨a,k,hm⟩:=bind_some hm
  obtain ⟨i,hm⟩|⟨i,hm⟩:=split_ite hm
  ·obtain ⟨p,h,hm⟩:=bind_some hm
   exact gw (ok_Sv_46 _ _ _ _ _ _ _ _ y hm Q hin hout) (u1 g<|wO (.res (res_Sbb a))<|wP (ok_Sbb (Zd.mk c d f) 5 a k)<|u1 i<|wO (.res (res_Sbb p))<|wP (ok_Sbb a.2 3000 p h)<|wN b.length<|z0) (by kernel_rfl)
  ·obtain ⟨h,hm⟩|⟨h,hm⟩:=split_ite hm
   ·obtain ⟨q,j,hm⟩:=bind_some hm
    exact gw (ok_Sv_46 _ _ _ _ _ _ _ _ y hm Q hin hout) (u1 g<|wO (.res (res_Sbb a))<|wP (ok_Sbb (Zd.mk c d f) 5 a k)<|v1 i<|u1 h<|wO (.res (res_Sbb q))<|wP (ok_Sbb a.2 900 q j)<|wN b.length<|z0) (by kernel_rfl)
   ·obtain ⟨j,hm⟩|⟨j,hm⟩:=split_ite hm
    ·obtain ⟨r,l,hm⟩:=bind_some hm
     exact gw (ok_Sv_46 _ _ _ _ _ _ _ _ y hm Q hin hout) (u1 g<|wO (.res (res_Sbb a))<|wP (ok_Sbb (Zd.mk c d f) 5 a k)<|v1 i<|v1 h<|u1 j<|wO (.res (res_Sbb r))<|wP (ok_Sbb a.2 376 r l)<|wN b.length<|z0) (by kernel_rfl)
    ·obtain ⟨l,hm⟩|⟨l,hm⟩:=split_ite hm
     ·obtain ⟨m,t,hm⟩:=bind_some hm
      obtain ⟨n,hm⟩|⟨n,hm⟩:=split_ite hm
      ·exact gw (ok_Sv_46 _ _ _ _ _ _ _ _ y hm Q hin hout) (u1 g<|wO (.res (res_Sbb a))<|wP (ok_Sbb (Zd.mk c d f) 5 a k)<|v1 i<|v1 h<|v1 j<|u1 l<|wO (.res (res_Sba m))<|wP (ok_Sba a.2 2 m t)<|u1 n<|wN b.length<|z0) (by kernel_rfl)
      ·exact gw (ok_Sv_46 _ _ _ _ _ _ _ _ y hm Q hin hout) (u1 g<|wO (.res (res_Sbb a))<|wP (ok_Sbb (Zd.mk c d f) 5 a k)<|v1 i<|v1 h<|v1 j<|u1 l<|wO (.res (res_Sba m))<|wP (ok_Sba a.2 2 m t)<|v1 n<|wN b.length<|z0) (by kernel_rfl)
     ·exact gw (ok_Sv_46 _ _ _ _ _ _ _ _ y hm Q hin hout) (u1 g<|wO (.res (res_Sbb a))<|wP (ok_Sbb (Zd.mk c d f) 5 a k)<|v1 i<|v1 h<|v1 j<|v1 l<|wN b.length<|z0) (by kernel_rfl)
 ·refine gm c_Sv_48 K_Sv_48 (s_Sv_48 c d f b) (v1 g<|wN b.length<|z0) ?_ (by kernel_rfl)
  exact hout (c,d,f,b) (qj hm).symm
theorem ok_Sv_0 (p1:Int) (p0:Zd) (r:LZb×Zd) (hm:m_Sv_0 p1 p0=some r):EE c_Sv_0 K_Sv_0 (s_Sv_0 p1 p0) (Post vf_Sv (res_Sv r)):=by
 obtain ⟨d,a,hm⟩:=bind_some hm
 refine gm c_Sv_11 K_Sv_11 (s_Sv_11 p1 0 p0.code p0.at_ p0.seed (([]:LZb)++([(Zc.mk 1 0)]:LZb))) (wO (.rows (List.map rZc ([(Zc.mk 1 0)]:LZb)))<|wO (zn 1)<|wO (.rows (List.map rZc (([]:LZb)++([(Zc.mk 1 0)]:LZb))))<|wO (zn ((([]:LZb)++([(Zc.mk 1 0)]:LZb)).length))<|wO (zn ((([]:LZb)++([(Zc.mk 1 0)]:LZb)).length))<|wP (Eq.refl (List.map rZc ([(Zc.mk 1 0)]:LZb)))<|wP (len_map rZc (show 1=([(Zc.mk 1 0)]:LZb).length from rfl))<|wP (all_le rZc ([(Zc.mk 1 0)]:LZb) rfl)<|wP (app_ck rZc ([]:LZb) ([(Zc.mk 1 0)]:LZb) rfl rfl a)<|wP (app_tell rZc ([]:LZb) ([(Zc.mk 1 0)]:LZb) rfl rfl)<|wP (len_map rZc (show (([]:LZb)++([(Zc.mk 1 0)]:LZb)).length=(([]:LZb)++([(Zc.mk 1 0)]:LZb)).length from rfl))<|wP (lens ((([]:LZb)++([(Zc.mk 1 0)]:LZb)).length) ((([]:LZb)++([(Zc.mk 1 0)]:LZb)).length) rfl)<|z0) ?_ (by kernel_rfl)
 obtain ⟨e,he,hm⟩:=bind_some hm
 refine loop_rule (u:=.c c_Sv_11) (K:=K_Sv_11) (Q:=(Post vf_Sv (res_Sv r))) (b:=lp_Sv_11 p1) (We:=O_Sv_11 (Post vf_Sv (res_Sv r))) (stJ:=fun s=>s_Sv_11 p1 s.1 s.2.1 s.2.2.1 s.2.2.2.1 s.2.2.2.2) (s:=(0,p0.code,p0.at_,p0.seed,(([]:LZb)++([(Zc.mk 1 0)]:LZb)))) (fun s y hb hin hout=>ok_Sv_11 p1 s.1 s.2.1 s.2.2.1 s.2.2.2.1 s.2.2.2.2 y hb (Post vf_Sv (res_Sv r)) hin hout) he ?_
 show EE c_Sv_48 K_Sv_48 (s_Sv_48 e.1 e.2.1 e.2.2.1 e.2.2.2) _
 exact ok_Sv_48 e.1 e.2.1 e.2.2.1 e.2.2.2 r hm
theorem ok_Sv (p0:Zd) (p1:Int) (r:LZb×Zd) (hm:m_Sv p0 p1=some r):Runs ext tbl 69 (as_Sv p0 p1) (res_Sv r):=
 runs_of (vf:=vf_Sv) (by kernel_rfl) rfl (st:=(enter vf_Sv (as_Sv p0 p1)).getD default) (by kernel_rfl) (go_on [] 1000 J0 (ok_Sv_0 p1 p0 r hm) (by kernel_rfl))
theorem ok_Sa_31 (a:LZ) (b:LZa) (d:Int) (c:LZb) (r:Ze×Int×LZb) (hm:m_Sa_31 a b d c=some r):EE c_Sa_31 K_Sa_31 (s_Sa_31 a b d c) (Post vf_Sa (res_Sa r)):=by
 exact ge (wR rZa a<|wR rZb b<|wR rZc c<|z0) (congrArg res_Sa (qj hm)) (by kernel_rfl)
theorem ok_Sa_10 (l:LI) (m n:Int) (h:LZ) (i:LZa) (r:Ze×Int×LZb) (hm:m_Sa_10 l m n h i=some r):EE c_Sa_10 K_Sa_10 (s_Sa_10 l m n h i) (Post vf_Sa (res_Sa r)):=by
 obtain ⟨d,s,hm⟩:=bind_some hm
 obtain ⟨b,t,hm⟩:=bind_some hm
 obtain ⟨a,u,hm⟩:=bind_some hm
 obtain ⟨e,v,hm⟩:=bind_some hm
 obtain ⟨p,hm⟩|⟨p,hm⟩:=split_ite hm
 ·obtain ⟨y,o,hm⟩:=bind_some hm
  obtain ⟨j,k,hm⟩:=bind_some hm
  exact gw (ok_Sa_31 _ _ _ _ r hm) (wO (.res (res_Sbb d))<|wO (.res (res_Sbb b))<|wO (.res (res_Sv a))<|wP (ok_Sbb (Zd.mk l m n) 30 d s)<|wP (ok_Sbb d.2 12 b t)<|wP (ok_Sv b.2 b.1 a u)<|wL rZc a.1<|wO (.res (res_Sbb e))<|wP (ok_Sbb a.2 16 e v)<|u1 p<|wO (.rows (mi ([0,1000,1001]:LI)))<|wO (zn 3)<|wO (.res (res_Sbb y))<|wO (.row ((rI .i64) j))<|wP (Eq.refl (mi ([0,1000,1001]:LI)))<|wP (len_map (rI .i64) (show 3=([0,1000,1001]:LI).length from rfl))<|wP (ok_Sbb e.2 3 y o)<|wP (rd_in rfl k)<|wP (at_row (rI .i64) (rd_get0 k))<|wN a.1.length<|wO (zn (([]:LZ).length))<|wO (zn (([]:LZa).length))<|wP (lens (([]:LZ).length) (([]:LZ).length) rfl)<|wP (lens (([]:LZa).length) (([]:LZa).length) rfl)<|wN h.length<|wN i.length<|z0) (by kernel_rfl)
 ·obtain ⟨o,hm⟩|⟨o,hm⟩:=split_ite hm
  ·obtain ⟨j,k,hm⟩:=bind_some hm
   obtain ⟨f,x,hm⟩:=bind_some hm
   obtain ⟨c,w,hm⟩:=bind_some hm
   obtain ⟨g,q,hm⟩:=bind_some hm
   exact gw (ok_Sa_31 _ _ _ _ r hm) (wO (.res (res_Sbb d))<|wO (.res (res_Sbb b))<|wO (.res (res_Sv a))<|wP (ok_Sbb (Zd.mk l m n) 30 d s)<|wP (ok_Sbb d.2 12 b t)<|wP (ok_Sv b.2 b.1 a u)<|wL rZc a.1<|wO (.res (res_Sbb e))<|wP (ok_Sbb a.2 16 e v)<|v1 p<|u1 o<|wO (.res (res_Sbb j))<|wO (.rows (mi ([(-1),24,401,100001]:LI)))<|wO (zn 4)<|wO (.res (res_Sbb f))<|wO (.row ((rI .i64) c))<|wO (.rows (List.map rZc (a.1.set (0+Int.toNat j.1) (Zc.mk g.kind c))))<|wO (zn ((a.1.set (0+Int.toNat j.1) (Zc.mk g.kind c)).length))<|wO (zn (([]:LZ).length))<|wO (zn (([]:LZa).length))<|wO (zn h.length)<|wO (zn i.length)<|wP (ok_Sbb e.2 (a.1.length:Int) j k)<|wP (Eq.refl (mi ([(-1),24,401,100001]:LI)))<|wP (len_map (rI .i64) (show 4=([(-1),24,401,100001]:LI).length from rfl))<|wP (ok_Sbb j.2 4 f x)<|wP (rd_in rfl w)<|wP (at_row (rI .i64) (rd_get0 w))<|wP (rd_in rfl q)<|wP (put_ob rZc (Zc.mk g.kind c) 1 (.lit (vI c)) (rd_get0 q) (by kernel_rfl) (by kernel_rfl))<|wP (lens a.1.length ((a.1.set (0+Int.toNat j.1) (Zc.mk g.kind c)).length) (set_len rfl))<|wP (lens (([]:LZ).length) (([]:LZ).length) rfl)<|wP (lens (([]:LZa).length) (([]:LZa).length) rfl)<|wP (ln h.length)<|wP (ln i.length)<|z0) (by kernel_rfl)
  ·obtain ⟨k,hm⟩|⟨k,hm⟩:=split_ite hm
   ·obtain ⟨f,x,hm⟩:=bind_some hm
    obtain ⟨c,w,hm⟩:=bind_some hm
    obtain ⟨g,q,hm⟩:=bind_some hm
    exact gw (ok_Sa_31 _ _ _ _ r hm) (wO (.res (res_Sbb d))<|wO (.res (res_Sbb b))<|wO (.res (res_Sv a))<|wP (ok_Sbb (Zd.mk l m n) 30 d s)<|wP (ok_Sbb d.2 12 b t)<|wP (ok_Sv b.2 b.1 a u)<|wL rZc a.1<|wO (.res (res_Sbb e))<|wP (ok_Sbb a.2 16 e v)<|v1 p<|v1 o<|u1 k<|wO (.res (res_Sbb f))<|wO (.res (res_Sbb c))<|wO (.rows (List.map rZc (a.1.set (0+Int.toNat f.1) (Zc.mk (w64 (c.1*6)) g.value))))<|wO (zn ((a.1.set (0+Int.toNat f.1) (Zc.mk (w64 (c.1*6)) g.value)).length))<|wO (zn (([]:LZ).length))<|wO (zn (([]:LZa).length))<|wO (zn h.length)<|wO (zn i.length)<|wP (ok_Sbb e.2 (a.1.length:Int) f x)<|wP (ok_Sbb f.2 2 c w)<|wP (rd_in rfl q)<|wP (put_ob rZc (Zc.mk (w64 (c.1*6)) g.value) 0 (.lit (vI (w64 (c.1*6)))) (rd_get0 q) (by kernel_rfl) (by kernel_rfl))<|wP (lens a.1.length ((a.1.set (0+Int.toNat f.1) (Zc.mk (w64 (c.1*6)) g.value)).length) (set_len rfl))<|wP (lens (([]:LZ).length) (([]:LZ).length) rfl)<|wP (lens (([]:LZa).length) (([]:LZa).length) rfl)<|wP (ln h.length)<|wP (ln i.length)<|z0) (by kernel_rfl)
   ·exact gw (ok_Sa_31 _ _ _ _ r hm) (wO (.res (res_Sbb d))<|wO (.res (res_Sbb b))<|wO (.res (res_Sv a))<|wP (ok_Sbb (Zd.mk l m n) 30 d s)<|wP (ok_Sbb d.2 12 b t)<|wP (ok_Sv b.2 b.1 a u)<|wL rZc a.1<|wO (.res (res_Sbb e))<|wP (ok_Sbb a.2 16 e v)<|v1 p<|v1 o<|v1 k<|wN a.1.length<|wO (zn (([]:LZ).length))<|wO (zn (([]:LZa).length))<|wP (lens (([]:LZ).length) (([]:LZ).length) rfl)<|wP (lens (([]:LZa).length) (([]:LZa).length) rfl)<|wN h.length<|wN i.length<|z0) (by kernel_rfl)
theorem ok_Sa_0 (p0:LI) (r:Ze×Int×LZb) (hm:m_Sa_0 p0=some r):EE c_Sa_0 K_Sa_0 (s_Sa_0 p0) (Post vf_Sa (res_Sa r)):=by
 obtain ⟨a,g,hm⟩:=bind_some hm
 obtain ⟨d,h,hm⟩:=bind_some hm
 obtain ⟨f,hm⟩|⟨f,hm⟩:=split_ite hm
 ·obtain ⟨e,i,hm⟩:=bind_some hm
  obtain ⟨b,j,hm⟩:=bind_some hm
  obtain ⟨c,k,hm⟩:=bind_some hm
  exact gw (ok_Sa_10 _ _ _ _ _ r hm) (wO (.res (res_Sg a))<|wP (ok_Sg p0 a g)<|wL rZa a.1.tracks<|wL rZb a.1.packets<|wO (.res (res_Sba d))<|wP (ok_Sba a.2 2 d h)<|u1 f<|wO (.res (res_Sbb e))<|wO (.res (res_Sw b))<|wP (ok_Sbb d.2 20 e i)<|wP (ok_Sw e.2 (w64 (10+e.1)) b j)<|wL rZa b.1.tracks<|wL rZb b.1.packets<|wR rZa b.1.tracks<|wR rZb b.1.packets<|wO (.res (res_Sy c))<|wP (ok_Sy b.2 b.1 c k)<|wL rZa c.1.tracks<|wL rZb c.1.packets<|wO (zn (([]:LZ).length))<|wO (zn (([]:LZa).length))<|wP (lens 0 (([]:LZ).length) rfl)<|wP (lens 0 (([]:LZa).length) rfl)<|wN c.1.tracks.length<|wN c.1.packets.length<|z0) (by kernel_rfl)
 ·exact gw (ok_Sa_10 _ _ _ _ _ r hm) (wO (.res (res_Sg a))<|wP (ok_Sg p0 a g)<|wL rZa a.1.tracks<|wL rZb a.1.packets<|wO (.res (res_Sba d))<|wP (ok_Sba a.2 2 d h)<|v1 f<|wO (zn (([]:LZ).length))<|wO (zn (([]:LZa).length))<|wP (lens 0 (([]:LZ).length) rfl)<|wP (lens 0 (([]:LZa).length) rfl)<|wN a.1.tracks.length<|wN a.1.packets.length<|z0) (by kernel_rfl)
theorem ok_Sa (p0:LI) (r:Ze×Int×LZb) (hm:m_Sa p0=some r):Runs ext tbl 24 (as_Sa p0) (res_Sa r):=
 runs_of (vf:=vf_Sa) (by kernel_rfl) rfl (st:=(enter vf_Sa (as_Sa p0)).getD default) (by kernel_rfl) (go_on [] 1000 J0 (ok_Sa_0 p0 r hm) (by kernel_rfl))
def O_Il_15 (Q:VX→St→Prop) (e:(Bool)⊕((Unit))):Prop:=match e with | .inl e=>Q=Post vf_Il (res_Il e) | .inr e=>EE c_Il_33 K_Il_33 (s_Il_33) Q
theorem ok_Il_33 (r:Bool) (hm:m_Il_33=some r):EE c_Il_33 K_Il_33 (s_Il_33) (Post vf_Il (res_Il r)):=by
 exact ge (z0) (congrArg res_Il (qj hm)) (by kernel_rfl)
theorem ok_Il_15 (p0:Za) (g:Int) (y) (hm:m_Il_15 p0 g=some y) (Q)
  (hin:∀ s,y=.inl s→EE c_Il_15 K_Il_15 (s_Il_15 p0 s) Q) (hout:∀ e,y=.inr e→O_Il_15 Q e):EE c_Il_15 K_Il_15 (s_Il_15 p0 g) Q:=by
 obtain ⟨c,hm⟩|⟨c,hm⟩:=split_ite hm
 ·obtain ⟨d,a,hm⟩:=bind_some hm
  obtain ⟨b,hm⟩|⟨b,hm⟩:=split_ite hm
  ·have hQ:Q=Post vf_Il (res_Il false):=hout (.inl false) (qj hm).symm
   subst hQ
   exact ge (u1 c<|wO (.int d)<|wP (sat_nn a)<|wP (sat_at a)<|u4 b<|u2 b<|u1 eT<|z0) (rfl:res_Il false=res_Il false) (by kernel_rfl)
  ·obtain ⟨f,hm⟩|⟨f,hm⟩:=split_ite hm
   ·have hQ:Q=Post vf_Il (res_Il false):=hout (.inl false) (qj hm).symm
    subst hQ
    exact ge (u1 c<|wO (.int d)<|wP (sat_nn a)<|wP (sat_at a)<|v4 b<|wO (.int d)<|wP (sat_nn a)<|wP (sat_at a)<|v2 b<|u1 f<|z0) (rfl:res_Il false=res_Il false) (by kernel_rfl)
   ·exact gw (hin _ (qj hm).symm) (u1 c<|wO (.int d)<|wP (sat_nn a)<|wP (sat_at a)<|v4 b<|wO (.int d)<|wP (sat_nn a)<|wP (sat_at a)<|v2 b<|v1 f<|z0) (by kernel_rfl)
 ·refine gm c_Il_33 K_Il_33 (s_Il_33) (v1 c<|z0) ?_ (by kernel_rfl)
  exact hout (.inr ()) (qj hm).symm
theorem ok_Il_0 (p0:Za) (r:Bool) (hm:m_Il_0 p0=some r):EE c_Il_0 K_Il_0 (s_Il_0 p0) (Post vf_Il (res_Il r)):=by
 obtain ⟨a,hm⟩|⟨a,hm⟩:=split_ite hm
 ·exact ge (u4 a<|u4 eT<|u4 eT<|u4 eT<|u2 eT<|z0) (congrArg res_Il (qj hm)) (by kernel_rfl)
 ·obtain ⟨f,hm⟩|⟨f,hm⟩:=split_ite hm
  ·exact ge (v4 a<|u4 f<|u4 eT<|u4 eT<|u2 eT<|z0) (congrArg res_Il (qj hm)) (by kernel_rfl)
  ·obtain ⟨g,hm⟩|⟨g,hm⟩:=split_ite hm
   ·exact ge (v4 a<|v4 f<|u4 g<|u4 eT<|u2 eT<|z0) (congrArg res_Il (qj hm)) (by kernel_rfl)
   ·obtain ⟨d,hm⟩|⟨d,hm⟩:=split_ite hm
    ·exact ge (v4 a<|v4 f<|v4 g<|u4 d<|u1 d<|u1 eT<|z0) (congrArg res_Il (qj hm)) (by kernel_rfl)
    ·obtain ⟨h,hm⟩|⟨h,hm⟩:=split_ite hm
     ·exact ge (v4 a<|v4 f<|v4 g<|v4 d<|v1 d<|u1 h<|z0) (congrArg res_Il (qj hm)) (by kernel_rfl)
     ·refine gm c_Il_15 K_Il_15 (s_Il_15 p0 0) (v4 a<|v4 f<|v4 g<|v4 d<|v1 d<|v1 h<|z0) ?_ (by kernel_rfl)
      obtain ⟨e,he,hm⟩:=bind_some hm
      refine loop_rule (u:=.c c_Il_15) (K:=K_Il_15) (Q:=(Post vf_Il (res_Il r))) (b:=lp_Il_15 p0) (We:=O_Il_15 (Post vf_Il (res_Il r))) (stJ:=fun s=>s_Il_15 p0 s) (s:=0) (fun s y hb hin hout=>ok_Il_15 p0 s y hb (Post vf_Il (res_Il r)) hin hout) he ?_
      rcases e with e | e
      ·exact congrArg (fun r=>Post vf_Il (res_Il r)) (qj hm).symm
      ·show EE c_Il_33 K_Il_33 (s_Il_33) _
       exact ok_Il_33 r hm
theorem ok_Il (p0:Za) (r:Bool) (hm:m_Il p0=some r):Runs ext tbl 131 (as_Il p0) (res_Il r):=
 runs_of (vf:=vf_Il) (by kernel_rfl) rfl (st:=(enter vf_Il (as_Il p0)).getD default) (by kernel_rfl) (go_on [] 1000 J0 (ok_Il_0 p0 r hm) (by kernel_rfl))
theorem ok_Ik_0 (p0:Int) (r:Bool) (hm:m_Ik_0 p0=some r):EE c_Ik_0 K_Ik_0 (s_Ik_0 p0) (Post vf_Ik (res_Ik r)):=by
 obtain ⟨a,hm⟩|⟨a,hm⟩:=split_ite hm
 ·exact ge (u3 a<|z0) (congrArg res_Ik (qj hm)) (by kernel_rfl)
 ·exact ge (v3 a<|z0) (congrArg res_Ik (qj hm)) (by kernel_rfl)
theorem ok_Ik (p0:Int) (r:Bool) (hm:m_Ik p0=some r):Runs ext tbl 133 (as_Ik p0) (res_Ik r):=
 runs_of (vf:=vf_Ik) (by kernel_rfl) rfl (st:=(enter vf_Ik (as_Ik p0)).getD default) (by kernel_rfl) (go_on [] 1000 J0 (ok_Ik_0 p0 r hm) (by kernel_rfl))
def O_Ij_59 (Q:VX→St→Prop) (e:(Bool)⊕((Int))):Prop:=match e with | .inl e=>Q=Post vf_Ij (res_Ij e) | .inr e=>EE c_Ij_81 K_Ij_81 (s_Ij_81 e) Q
def O_Ij_42 (p0:Ze) (Q:VX→St→Prop) (e:(LI)):Prop:=EE c_Ij_54 K_Ij_54 (s_Ij_54 p0 e) Q
def O_Ij_15 (p0:Ze) (Q:VX→St→Prop) (e:(Bool)⊕((Unit))):Prop:=match e with | .inl e=>Q=Post vf_Ij (res_Ij e) | .inr e=>EE c_Ij_33 K_Ij_33 (s_Ij_33 p0) Q
theorem ok_Ij_77 (c:Int) (p0:Ze) (d:Int) (a:Zb) (b:LI) (y) (hm:m_Ij_77 c p0 d a b=some y) (Q)
  (hin:∀ s,y=.inl s→EE c_Ij_59 K_Ij_59 (s_Ij_59 p0 s.1 s.2.1 s.2.2) Q) (hout:∀ e,y=.inr e→O_Ij_59 Q e):EE c_Ij_77 K_Ij_77 (s_Ij_77 c p0 d a b) Q:=by
 obtain ⟨g,f,hm⟩:=bind_some hm
 exact gw (hin _ (qj hm).symm) (wO (.rows (mi (b.set (0+Int.toNat a.track) a.time)))<|wP (rd_in rfl f)<|wP (put_ob (rI .i64) a.time 0 (.lit (vI a.time)) (rd_get0 f) (by kernel_rfl) (by kernel_rfl))<|wL (rI .u8) a.data<|wO (zn ((b.set (0+Int.toNat a.track) a.time).length))<|wP (lens b.length ((b.set (0+Int.toNat a.track) a.time).length) (set_len rfl))<|z0) (by kernel_rfl)
theorem ok_Ij_81 (a:Int) (r:Bool) (hm:m_Ij_81 a=some r):EE c_Ij_81 K_Ij_81 (s_Ij_81 a) (Post vf_Ij (res_Ij r)):=by
 exact ge (z0) (congrArg res_Ij (qj hm)) (by kernel_rfl)
theorem ok_Ij_59 (p0:Ze) (q u:Int) (r:LI) (y) (hm:m_Ij_59 p0 q u r=some y) (Q)
  (hin:∀ s,y=.inl s→EE c_Ij_59 K_Ij_59 (s_Ij_59 p0 s.1 s.2.1 s.2.2) Q) (hout:∀ e,y=.inr e→O_Ij_59 Q e):EE c_Ij_59 K_Ij_59 (s_Ij_59 p0 q u r) Q:=by
 obtain ⟨k,hm⟩|⟨k,hm⟩:=split_ite hm
 ·obtain ⟨c,f,hm⟩:=bind_some hm
  obtain ⟨a,hm⟩|⟨a,hm⟩:=split_ite hm
  ·have hQ:Q=Post vf_Ij (res_Ij false):=hout (.inl false) (qj hm).symm
   subst hQ
   exact ge (u1 k<|wO (.row (rZb c))<|wP (rd_nn f)<|wP (at_row rZb (rd_get f))<|u4 a<|u3 a<|u4 eT<|u4 eT<|u4 eT<|u4 eT<|u4 eT<|u4 eT<|u4 eT<|u1 eT<|z0) (rfl:res_Ij false=res_Ij false) (by kernel_rfl)
  ·obtain ⟨g,hm⟩|⟨g,hm⟩:=split_ite hm
   ·have hQ:Q=Post vf_Ij (res_Ij false):=hout (.inl false) (qj hm).symm
    subst hQ
    exact ge (u1 k<|wO (.row (rZb c))<|wP (rd_nn f)<|wP (at_row rZb (rd_get f))<|v4 a<|v1 a<|wL rZa p0.tracks<|v2 a<|u4 g<|u1 g<|u4 eT<|u4 eT<|u4 eT<|u4 eT<|u4 eT<|u4 eT<|z0) (rfl:res_Ij false=res_Ij false) (by kernel_rfl)
   ·obtain ⟨j,o,hm⟩:=bind_some hm
    obtain ⟨i,hm⟩|⟨i,hm⟩:=split_ite hm
    ·obtain ⟨l,p,hm⟩:=bind_some hm
     obtain ⟨b,hm⟩|⟨b,hm⟩:=split_ite hm
     ·obtain ⟨m,h,hm⟩:=bind_some hm
      obtain ⟨d,hm⟩|⟨d,hm⟩:=split_ite hm
      ·have hQ:Q=Post vf_Ij (res_Ij false):=hout (.inl false) (qj hm).symm
       subst hQ
       exact ge (u1 k<|wO (.row (rZb c))<|wP (rd_nn f)<|wP (at_row rZb (rd_get f))<|v4 a<|v1 a<|wL rZa p0.tracks<|v2 a<|v3 g<|wO (.res (res_Ik j))<|wP (ok_Ik c.time j o)<|v2 g<|v3 (not_f i)<|wO (.res (res_Ik l))<|wP (ok_Ik c.span l p)<|v2 (not_f i)<|v4 (not_f b)<|v2 (not_f b)<|wP (rd_in rfl h)<|v1 (not_f b)<|wO (.row ((rI .i64) m))<|wP (at_row (rI .i64) (rd_get0 h))<|v2 (not_f b)<|u4 d<|u4 d<|u1 d<|u1 eT<|z0) (rfl:res_Ij false=res_Ij false) (by kernel_rfl)
      ·obtain ⟨n,hm⟩|⟨n,hm⟩:=split_ite hm
       ·obtain ⟨t,hm⟩|⟨t,hm⟩:=split_ite hm
        ·exact gw (ok_Ij_77 _ _ _ _ _ y hm Q hin hout) (u1 k<|wO (.row (rZb c))<|wP (rd_nn f)<|wP (at_row rZb (rd_get f))<|v4 a<|v1 a<|wL rZa p0.tracks<|v2 a<|v3 g<|wO (.res (res_Ik j))<|wP (ok_Ik c.time j o)<|v2 g<|v3 (not_f i)<|wO (.res (res_Ik l))<|wP (ok_Ik c.span l p)<|v2 (not_f i)<|v4 (not_f b)<|v2 (not_f b)<|wP (rd_in rfl h)<|v1 (not_f b)<|wO (.row ((rI .i64) m))<|wP (at_row (rI .i64) (rd_get0 h))<|v2 (not_f b)<|v4 d<|wP (rd_in rfl h)<|v1 d<|wO (.row ((rI .i64) m))<|wP (at_row (rI .i64) (rd_get0 h))<|v2 d<|u3 n<|v1 d<|u1 n<|v1 d<|v1 (not_f t)<|wN r.length<|z0) (by kernel_rfl)
        ·have hQ:Q=Post vf_Ij (res_Ij false):=hout (.inl false) (qj hm).symm
         subst hQ
         exact ge (u1 k<|wO (.row (rZb c))<|wP (rd_nn f)<|wP (at_row rZb (rd_get f))<|v4 a<|v1 a<|wL rZa p0.tracks<|v2 a<|v3 g<|wO (.res (res_Ik j))<|wP (ok_Ik c.time j o)<|v2 g<|v3 (not_f i)<|wO (.res (res_Ik l))<|wP (ok_Ik c.span l p)<|v2 (not_f i)<|v4 (not_f b)<|v2 (not_f b)<|wP (rd_in rfl h)<|v1 (not_f b)<|wO (.row ((rI .i64) m))<|wP (at_row (rI .i64) (rd_get0 h))<|v2 (not_f b)<|v4 d<|wP (rd_in rfl h)<|v1 d<|wO (.row ((rI .i64) m))<|wP (at_row (rI .i64) (rd_get0 h))<|v2 d<|u3 n<|v1 d<|u1 n<|v1 d<|u1 (not_t t)<|z0) (rfl:res_Ij false=res_Ij false) (by kernel_rfl)
       ·exact gw (ok_Ij_77 _ _ _ _ _ y hm Q hin hout) (u1 k<|wO (.row (rZb c))<|wP (rd_nn f)<|wP (at_row rZb (rd_get f))<|v4 a<|v1 a<|wL rZa p0.tracks<|v2 a<|v3 g<|wO (.res (res_Ik j))<|wP (ok_Ik c.time j o)<|v2 g<|v3 (not_f i)<|wO (.res (res_Ik l))<|wP (ok_Ik c.span l p)<|v2 (not_f i)<|v4 (not_f b)<|v2 (not_f b)<|wP (rd_in rfl h)<|v1 (not_f b)<|wO (.row ((rI .i64) m))<|wP (at_row (rI .i64) (rd_get0 h))<|v2 (not_f b)<|v4 d<|wP (rd_in rfl h)<|v1 d<|wO (.row ((rI .i64) m))<|wP (at_row (rI .i64) (rd_get0 h))<|v2 d<|v3 n<|v1 d<|v1 n<|v1 d<|v1 eF<|wN r.length<|z0) (by kernel_rfl)
     ·have hQ:Q=Post vf_Ij (res_Ij false):=hout (.inl false) (qj hm).symm
      subst hQ
      exact ge (u1 k<|wO (.row (rZb c))<|wP (rd_nn f)<|wP (at_row rZb (rd_get f))<|v4 a<|v1 a<|wL rZa p0.tracks<|v2 a<|v3 g<|wO (.res (res_Ik j))<|wP (ok_Ik c.time j o)<|v2 g<|v3 (not_f i)<|wO (.res (res_Ik l))<|wP (ok_Ik c.span l p)<|v2 (not_f i)<|u4 (not_t b)<|u4 (not_t b)<|u1 (not_t b)<|u4 eT<|u4 eT<|u2 eT<|z0) (rfl:res_Ij false=res_Ij false) (by kernel_rfl)
    ·have hQ:Q=Post vf_Ij (res_Ij false):=hout (.inl false) (qj hm).symm
     subst hQ
     exact ge (u1 k<|wO (.row (rZb c))<|wP (rd_nn f)<|wP (at_row rZb (rd_get f))<|v4 a<|v1 a<|wL rZa p0.tracks<|v2 a<|v3 g<|wO (.res (res_Ik j))<|wP (ok_Ik c.time j o)<|v2 g<|u4 (not_t i)<|u1 (not_t i)<|u4 eT<|u4 eT<|u4 eT<|u4 eT<|u3 eT<|z0) (rfl:res_Ij false=res_Ij false) (by kernel_rfl)
 ·refine gm c_Ij_81 K_Ij_81 (s_Ij_81 q) (v1 k<|z0) ?_ (by kernel_rfl)
  exact hout (.inr q) (qj hm).symm
theorem ok_Ij_54 (p0:Ze) (a:LI) (r:Bool) (hm:m_Ij_54 p0 a=some r):EE c_Ij_54 K_Ij_54 (s_Ij_54 p0 a) (Post vf_Ij (res_Ij r)):=by
 refine gm c_Ij_59 K_Ij_59 (s_Ij_59 p0 0 0 a) (wL rZb p0.packets<|wN a.length<|z0) ?_ (by kernel_rfl)
 obtain ⟨e,he,hm⟩:=bind_some hm
 refine loop_rule (u:=.c c_Ij_59) (K:=K_Ij_59) (Q:=(Post vf_Ij (res_Ij r))) (b:=lp_Ij_59 p0) (We:=O_Ij_59 (Post vf_Ij (res_Ij r))) (stJ:=fun s=>s_Ij_59 p0 s.1 s.2.1 s.2.2) (s:=(0,0,a)) (fun s y hb hin hout=>ok_Ij_59 p0 s.1 s.2.1 s.2.2 y hb (Post vf_Ij (res_Ij r)) hin hout) he ?_
 rcases e with e | e
 ·exact congrArg (fun r=>Post vf_Ij (res_Ij r)) (qj hm).symm
 ·show EE c_Ij_81 K_Ij_81 (s_Ij_81 e) _
  exact ok_Ij_81 e r hm
theorem ok_Ij_42 (p0:Ze) (d b:Int) (a:LI) (y) (hm:m_Ij_42 p0 d b a=some y) (Q)
  (hin:∀ s,y=.inl s→EE c_Ij_42 K_Ij_42 (s_Ij_42 p0 s.1 s.2.1 s.2.2) Q) (hout:∀ e,y=.inr e→O_Ij_42 p0 Q e):EE c_Ij_42 K_Ij_42 (s_Ij_42 p0 d b a) Q:=by
 obtain ⟨c,hm⟩|⟨c,hm⟩:=split_ite hm
 ·obtain ⟨g,f,hm⟩:=bind_some hm
  exact gw (hin _ (qj hm).symm) (u1 c<|wO (.rows (mi (a.set (0+Int.toNat b) (-1))))<|wO (zn ((a.set (0+Int.toNat b) (-1)).length))<|wP (rd_in rfl f)<|wP (put_ob (rI .i64) (-1) 0 (.lit (vI (-1))) (rd_get0 f) (by kernel_rfl) (by kernel_rfl))<|wP (lens a.length ((a.set (0+Int.toNat b) (-1)).length) (set_len rfl))<|z0) (by kernel_rfl)
 ·refine gm c_Ij_54 K_Ij_54 (s_Ij_54 p0 a) (v1 c<|wN a.length<|z0) ?_ (by kernel_rfl)
  exact hout a (qj hm).symm
theorem ok_Ij_33 (p0:Ze) (r:Bool) (hm:m_Ij_33 p0=some r):EE c_Ij_33 K_Ij_33 (s_Ij_33 p0) (Post vf_Ij (res_Ij r)):=by
 obtain ⟨d,a,hm⟩:=bind_some hm
 refine gm c_Ij_42 K_Ij_42 (s_Ij_42 p0 ((Int.toNat (p0.tracks.length:Int)):Int) 0 (List.replicate (Int.toNat (p0.tracks.length:Int)) (0:Int))) (wL rZa p0.tracks<|wO (.rows (mi (List.replicate (Int.toNat (p0.tracks.length:Int)) (0:Int))))<|wO (zn (Int.toNat (p0.tracks.length:Int)))<|wO (zn ((List.replicate (Int.toNat (p0.tracks.length:Int)) (0:Int)).length))<|wP (ck_p a)<|wP (rep_ob (rI .i64) (Int.toNat (p0.tracks.length:Int)) (0:Int) [.lit (vI 0)] (by kernel_rfl))<|wP (len_map (rI .i64) (show (Int.toNat (p0.tracks.length:Int))=(List.replicate (Int.toNat (p0.tracks.length:Int)) (0:Int)).length from (rep_len (Int.toNat (p0.tracks.length:Int)) (0:Int))))<|wP (lens (Int.toNat (p0.tracks.length:Int)) ((List.replicate (Int.toNat (p0.tracks.length:Int)) (0:Int)).length) (rep_len (Int.toNat (p0.tracks.length:Int)) (0:Int)))<|z0) ?_ (by kernel_rfl)
 obtain ⟨e,he,hm⟩:=bind_some hm
 refine loop_rule (u:=.c c_Ij_42) (K:=K_Ij_42) (Q:=(Post vf_Ij (res_Ij r))) (b:=lp_Ij_42 p0) (We:=O_Ij_42 p0 (Post vf_Ij (res_Ij r))) (stJ:=fun s=>s_Ij_42 p0 s.1 s.2.1 s.2.2) (s:=(((Int.toNat (p0.tracks.length:Int)):Int),0,(List.replicate (Int.toNat (p0.tracks.length:Int)) (0:Int)))) (fun s y hb hin hout=>ok_Ij_42 p0 s.1 s.2.1 s.2.2 y hb (Post vf_Ij (res_Ij r)) hin hout) he ?_
 show EE c_Ij_54 K_Ij_54 (s_Ij_54 p0 e) _
 exact ok_Ij_54 p0 e r hm
theorem ok_Ij_15 (p0:Ze) (g:Int) (y) (hm:m_Ij_15 p0 g=some y) (Q)
  (hin:∀ s,y=.inl s→EE c_Ij_15 K_Ij_15 (s_Ij_15 p0 s) Q) (hout:∀ e,y=.inr e→O_Ij_15 p0 Q e):EE c_Ij_15 K_Ij_15 (s_Ij_15 p0 g) Q:=by
 obtain ⟨a,hm⟩|⟨a,hm⟩:=split_ite hm
 ·obtain ⟨b,c,hm⟩:=bind_some hm
  obtain ⟨d,h,hm⟩:=bind_some hm
  obtain ⟨f,hm⟩|⟨f,hm⟩:=split_ite hm
  ·exact gw (hin _ (qj hm).symm) (u1 a<|wO (.row (rZa b))<|wO (.res (res_Il d))<|wP (rd_nn c)<|wP (at_row rZa (rd_get c))<|wP (ok_Il b d h)<|v1 (not_f f)<|z0) (by kernel_rfl)
  ·have hQ:Q=Post vf_Ij (res_Ij false):=hout (.inl false) (qj hm).symm
   subst hQ
   exact ge (u1 a<|wO (.row (rZa b))<|wO (.res (res_Il d))<|wP (rd_nn c)<|wP (at_row rZa (rd_get c))<|wP (ok_Il b d h)<|u1 (not_t f)<|z0) (rfl:res_Ij false=res_Ij false) (by kernel_rfl)
 ·refine gm c_Ij_33 K_Ij_33 (s_Ij_33 p0) (v1 a<|z0) ?_ (by kernel_rfl)
  exact hout (.inr ()) (qj hm).symm
theorem ok_Ij_0 (p0:Ze) (r:Bool) (hm:m_Ij_0 p0=some r):EE c_Ij_0 K_Ij_0 (s_Ij_0 p0) (Post vf_Ij (res_Ij r)):=by
 obtain ⟨a,hm⟩|⟨a,hm⟩:=split_ite hm
 ·exact ge (wL rZa p0.tracks<|u4 a<|u1 a<|u4 eT<|u2 eT<|z0) (congrArg res_Ij (qj hm)) (by kernel_rfl)
 ·obtain ⟨d,hm⟩|⟨d,hm⟩:=split_ite hm
  ·exact ge (wL rZa p0.tracks<|v3 a<|wL rZa p0.tracks<|v2 a<|u4 d<|u1 d<|u1 eT<|z0) (congrArg res_Ij (qj hm)) (by kernel_rfl)
  ·obtain ⟨f,hm⟩|⟨f,hm⟩:=split_ite hm
   ·exact ge (wL rZa p0.tracks<|v3 a<|wL rZa p0.tracks<|v2 a<|v3 d<|wL rZb p0.packets<|v2 d<|u1 f<|z0) (congrArg res_Ij (qj hm)) (by kernel_rfl)
   ·refine gm c_Ij_15 K_Ij_15 (s_Ij_15 p0 0) (wL rZa p0.tracks<|v3 a<|wL rZa p0.tracks<|v2 a<|v3 d<|wL rZb p0.packets<|v2 d<|v1 f<|wL rZa p0.tracks<|z0) ?_ (by kernel_rfl)
    obtain ⟨e,he,hm⟩:=bind_some hm
    refine loop_rule (u:=.c c_Ij_15) (K:=K_Ij_15) (Q:=(Post vf_Ij (res_Ij r))) (b:=lp_Ij_15 p0) (We:=O_Ij_15 p0 (Post vf_Ij (res_Ij r))) (stJ:=fun s=>s_Ij_15 p0 s) (s:=0) (fun s y hb hin hout=>ok_Ij_15 p0 s y hb (Post vf_Ij (res_Ij r)) hin hout) he ?_
    rcases e with e | e
    ·exact congrArg (fun r=>Post vf_Ij (res_Ij r)) (qj hm).symm
    ·show EE c_Ij_33 K_Ij_33 (s_Ij_33 p0) _
     exact ok_Ij_33 p0 r hm
theorem ok_Ij (p0:Ze) (r:Bool) (hm:m_Ij p0=some r):Runs ext tbl 112 (as_Ij p0) (res_Ij r):=
 runs_of (vf:=vf_Ij) (by kernel_rfl) rfl (st:=(enter vf_Ij (as_Ij p0)).getD default) (by kernel_rfl) (go_on [] 1000 J0 (ok_Ij_0 p0 r hm) (by kernel_rfl))
theorem ok_If_0 (p0:Ze) (p1 p2:Int) (r:Bool) (hm:m_If_0 p0 p1 p2=some r):EE c_If_0 K_If_0 (s_If_0 p0 p1 p2) (Post vf_If (res_If r)):=by
 obtain ⟨f,a,hm⟩:=bind_some hm
 obtain ⟨g,b,hm⟩:=bind_some hm
 obtain ⟨h,c,hm⟩:=bind_some hm
 obtain ⟨i,d,hm⟩:=bind_some hm
 obtain ⟨e,hm⟩|⟨e,hm⟩:=split_ite hm
 ·exact ge (wO (.row (rZb f))<|wO (.row (rZb g))<|wO (.row (rZa h))<|wO (.row (rZa i))<|wO zT<|wP (rd_nn a)<|wP (at_row rZb (rd_get a))<|wP (rd_nn b)<|wP (at_row rZb (rd_get b))<|wP (rd_nn c)<|wP (at_row rZa (rd_get c))<|wP (rd_nn d)<|wP (at_row rZa (rd_get d))<|wP e<|z0) (congrArg res_If (qj hm)) (by kernel_rfl)
 ·obtain ⟨j,hm⟩|⟨j,hm⟩:=split_ite hm
  ·exact ge (wO (.row (rZb f))<|wO (.row (rZb g))<|wO (.row (rZa h))<|wO (.row (rZa i))<|wO zF<|wO zT<|wP (rd_nn a)<|wP (at_row rZb (rd_get a))<|wP (rd_nn b)<|wP (at_row rZb (rd_get b))<|wP (rd_nn c)<|wP (at_row rZa (rd_get c))<|wP (rd_nn d)<|wP (at_row rZa (rd_get d))<|wP e<|wP j<|z0) (congrArg res_If (qj hm)) (by kernel_rfl)
  ·exact ge (wO (.row (rZb f))<|wO (.row (rZb g))<|wO (.row (rZa h))<|wO (.row (rZa i))<|wO zF<|wO zF<|wP (rd_nn a)<|wP (at_row rZb (rd_get a))<|wP (rd_nn b)<|wP (at_row rZb (rd_get b))<|wP (rd_nn c)<|wP (at_row rZa (rd_get c))<|wP (rd_nn d)<|wP (at_row rZa (rd_get d))<|wP e<|wP j<|z0) (congrArg res_If (qj hm)) (by kernel_rfl)
theorem ok_If (p0:Ze) (p1 p2:Int) (r:Bool) (hm:m_If p0 p1 p2=some r):Runs ext tbl 113 (as_If p0 p1 p2) (res_If r):=
 runs_of (vf:=vf_If) (by kernel_rfl) rfl (st:=(enter vf_If (as_If p0 p1 p2)).getD default) (by kernel_rfl) (go_on [] 1000 J0 (ok_If_0 p0 p1 p2 r hm) (by kernel_rfl))
def O_Ia_15 (Q:VX→St→Prop) (e:(Bool)⊕((Unit))):Prop:=match e with | .inl e=>Q=Post vf_Ia (res_Ia e) | .inr e=>EE c_Ia_31 K_Ia_31 (s_Ia_31) Q
theorem ok_Ia_31 (r:Bool) (hm:m_Ia_31=some r):EE c_Ia_31 K_Ia_31 (s_Ia_31) (Post vf_Ia (res_Ia r)):=by
 exact ge (z0) (congrArg res_Ia (qj hm)) (by kernel_rfl)
theorem ok_Ia_15 (p0:Ze) (a:Int) (y) (hm:m_Ia_15 p0 a=some y) (Q)
  (hin:∀ s,y=.inl s→EE c_Ia_15 K_Ia_15 (s_Ia_15 p0 s) Q) (hout:∀ e,y=.inr e→O_Ia_15 Q e):EE c_Ia_15 K_Ia_15 (s_Ia_15 p0 a) Q:=by
 obtain ⟨b,hm⟩|⟨b,hm⟩:=split_ite hm
 ·obtain ⟨c,f,hm⟩:=bind_some hm
  obtain ⟨d,hm⟩|⟨d,hm⟩:=split_ite hm
  ·have hQ:Q=Post vf_Ia (res_Ia false):=hout (.inl false) (qj hm).symm
   subst hQ
   exact ge (wL rZb p0.packets<|u1 b<|wO (.res (res_If c))<|wP (ok_If p0 a (w64 (a - 1)) c f)<|u1 d<|z0) (rfl:res_Ia false=res_Ia false) (by kernel_rfl)
  ·exact gw (hin _ (qj hm).symm) (wL rZb p0.packets<|u1 b<|wO (.res (res_If c))<|wP (ok_If p0 a (w64 (a - 1)) c f)<|v1 d<|z0) (by kernel_rfl)
 ·refine gm c_Ia_31 K_Ia_31 (s_Ia_31) (wL rZb p0.packets<|v1 b<|z0) ?_ (by kernel_rfl)
  exact hout (.inr ()) (qj hm).symm
theorem ok_Ia_0 (p0:Ze) (r:Bool) (hm:m_Ia_0 p0=some r):EE c_Ia_0 K_Ia_0 (s_Ia_0 p0) (Post vf_Ia (res_Ia r)):=by
 obtain ⟨a,f,hm⟩:=bind_some hm
 obtain ⟨d,hm⟩|⟨d,hm⟩:=split_ite hm
 ·refine gm c_Ia_15 K_Ia_15 (s_Ia_15 p0 1) (wO (.res (res_Ij a))<|wP (ok_Ij p0 a f)<|v1 (not_f d)<|z0) ?_ (by kernel_rfl)
  obtain ⟨e,he,hm⟩:=bind_some hm
  refine loop_rule (u:=.c c_Ia_15) (K:=K_Ia_15) (Q:=(Post vf_Ia (res_Ia r))) (b:=lp_Ia_15 p0) (We:=O_Ia_15 (Post vf_Ia (res_Ia r))) (stJ:=fun s=>s_Ia_15 p0 s) (s:=1) (fun s y hb hin hout=>ok_Ia_15 p0 s y hb (Post vf_Ia (res_Ia r)) hin hout) he ?_
  rcases e with e | e
  ·exact congrArg (fun r=>Post vf_Ia (res_Ia r)) (qj hm).symm
  ·show EE c_Ia_31 K_Ia_31 (s_Ia_31) _
   exact ok_Ia_31 r hm
 ·exact ge (wO (.res (res_Ij a))<|wP (ok_Ij p0 a f)<|u1 (not_t d)<|z0) (congrArg res_Ia (qj hm)) (by kernel_rfl)
theorem ok_Ia (p0:Ze) (r:Bool) (hm:m_Ia p0=some r):Runs ext tbl 54 (as_Ia p0) (res_Ia r):=
 runs_of (vf:=vf_Ia) (by kernel_rfl) rfl (st:=(enter vf_Ia (as_Ia p0)).getD default) (by kernel_rfl) (go_on [] 1000 J0 (ok_Ia_0 p0 r hm) (by kernel_rfl))
theorem ok_Id_0 (p0 p1:Int) (p2:Zc) (r:Bool×Zc) (hm:m_Id_0 p0 p1 p2=some r):EE c_Id_0 K_Id_0 (s_Id_0 p0 p1 p2) (Post vf_Id (res_Id r)):=by
 obtain ⟨a,hm⟩|⟨a,hm⟩:=split_ite hm
 ·exact ge (u4 a<|u1 a<|z0) (congrArg res_Id (qj hm)) (by kernel_rfl)
 ·exact ge (v4 a<|v1 a<|z0) (congrArg res_Id (qj hm)) (by kernel_rfl)
theorem ok_Id (p0 p1:Int) (p2:Zc) (r:Bool×Zc) (hm:m_Id p0 p1 p2=some r):Runs ext tbl 122 (as_Id p0 p1 p2) (res_Id r):=
 runs_of (vf:=vf_Id) (by kernel_rfl) rfl (st:=(enter vf_Id (as_Id p0 p1 p2)).getD default) (by kernel_rfl) (go_on [] 1000 J0 (ok_Id_0 p0 p1 p2 r hm) (by kernel_rfl))
theorem ok_Ic_14 (p0:Zc) (e r:Bool) (hm:m_Ic_14 p0 e=some r):EE c_Ic_14 K_Ic_14 (s_Ic_14 p0 e) (Post vf_Ic (res_Ic r)):=by
 obtain ⟨a,hm⟩|⟨a,hm⟩:=split_ite hm
 ·exact ge (u1 a<|z0) (congrArg res_Ic (qj hm)) (by kernel_rfl)
 ·obtain ⟨c,hm⟩|⟨c,hm⟩:=split_ite hm
  ·obtain ⟨f,b,hm⟩:=bind_some hm
   exact ge (v1 a<|u1 c<|wO (.res (res_Id f))<|wP (ok_Id 0 359999999 p0 f b)<|z0) (congrArg res_Ic (qj hm)) (by kernel_rfl)
  ·obtain ⟨b,hm⟩|⟨b,hm⟩:=split_ite hm
   ·obtain ⟨g,d,hm⟩:=bind_some hm
    exact ge (v1 a<|v1 c<|u1 b<|wO (.res (res_Id g))<|wP (ok_Id 0 100000 p0 g d)<|z0) (congrArg res_Ic (qj hm)) (by kernel_rfl)
   ·obtain ⟨d,hm⟩|⟨d,hm⟩:=split_ite hm
    ·obtain ⟨h,i,hm⟩:=bind_some hm
     exact ge (v1 a<|v1 c<|v1 b<|u1 d<|wO (.res (res_Id h))<|wP (ok_Id 25 400 p0 h i)<|z0) (congrArg res_Ic (qj hm)) (by kernel_rfl)
    ·exact ge (v1 a<|v1 c<|v1 b<|v1 d<|z0) (congrArg res_Ic (qj hm)) (by kernel_rfl)
theorem ok_Ic_0 (p0:Zc) (r:Bool) (hm:m_Ic_0 p0=some r):EE c_Ic_0 K_Ic_0 (s_Ic_0 p0) (Post vf_Ic (res_Ic r)):=by
 obtain ⟨a,hm⟩|⟨a,hm⟩:=split_ite hm
 ·exact gw (ok_Ic_14 _ _ r hm) (u1 a<|z0) (by kernel_rfl)
 ·exact gw (ok_Ic_14 _ _ r hm) (v1 a<|z0) (by kernel_rfl)
theorem ok_Ic (p0:Zc) (r:Bool) (hm:m_Ic p0=some r):Runs ext tbl 70 (as_Ic p0) (res_Ic r):=
 runs_of (vf:=vf_Ic) (by kernel_rfl) rfl (st:=(enter vf_Ic (as_Ic p0)).getD default) (by kernel_rfl) (go_on [] 1000 J0 (ok_Ic_0 p0 r hm) (by kernel_rfl))
theorem ok_Ie_0 (p0:Ze) (p1 r:Int) (hm:m_Ie_0 p0 p1=some r):EE c_Ie_0 K_Ie_0 (s_Ie_0 p0 p1) (Post vf_Ie (res_Ie r)):=by
 obtain ⟨c,a,hm⟩:=bind_some hm
 obtain ⟨d,b,hm⟩:=bind_some hm
 obtain ⟨f,e,hm⟩:=bind_some hm
 exact ge (wO (.row (rZb c))<|wO (.row (rZa d))<|wP (rd_nn a)<|wP (at_row rZb (rd_get a))<|wP (rd_nn b)<|wP (at_row rZa (rd_get b))<|wP (ck_p e)<|z0) (congrArg res_Ie (qj hm)) (by kernel_rfl)
theorem ok_Ie (p0:Ze) (p1 r:Int) (hm:m_Ie p0 p1=some r):Runs ext tbl 71 (as_Ie p0 p1) (res_Ie r):=
 runs_of (vf:=vf_Ie) (by kernel_rfl) rfl (st:=(enter vf_Ie (as_Ie p0 p1)).getD default) (by kernel_rfl) (go_on [] 1000 J0 (ok_Ie_0 p0 p1 r hm) (by kernel_rfl))
theorem ok_Ig_0 (p1:Int) (p0:Zh) (r:Int×Zh) (hm:m_Ig_0 p1 p0=some r):EE c_Ig_0 K_Ig_0 (s_Ig_0 p1 p0) (Post vf_Ig (res_Ig r)):=by
 obtain ⟨a,b,hm⟩:=bind_some hm
 obtain ⟨d,c,hm⟩:=bind_some hm
 exact ge (wO (.row (rZb a))<|wP (rd_nn b)<|wP (at_row rZb (rd_get b))<|wL (rI .u8) a.data<|wP (ck_p c)<|wR (rI .i64) p0.due<|wR rB p0.gone<|wR rB p0.dropping<|wR rZf p0.shows<|z0) (congrArg res_Ig (qj hm)) (by kernel_rfl)
theorem ok_Ig (p0:Zh) (p1:Int) (r:Int×Zh) (hm:m_Ig p0 p1=some r):Runs ext tbl 123 (as_Ig p0 p1) (res_Ig r):=
 runs_of (vf:=vf_Ig) (by kernel_rfl) rfl (st:=(enter vf_Ig (as_Ig p0 p1)).getD default) (by kernel_rfl) (go_on [zn p0.due.length,zn p0.gone.length,zn p0.dropping.length,zn p0.shows.length] 1000 (J (len_map (rI .i64) (rfl:p0.due.length=p0.due.length)) (J (len_map rB (rfl:p0.gone.length=p0.gone.length)) (J (len_map rB (rfl:p0.dropping.length=p0.dropping.length)) (J (len_map rZf (rfl:p0.shows.length=p0.shows.length)) J0)))) (ok_Ig_0 p1 p0 r hm) (by kernel_rfl))
def O_Ih_26 (a b:Int) (p0:Zh) (c:Int) (d:LB) (Q:VX→St→Prop) (e:(LI)):Prop:=EE c_Ih_42 K_Ih_42 (s_Ih_42 a b p0 c d e) Q
def O_Ih_49 (Q:VX→St→Prop) (e:(LZ×LZa×Int×Int×Int×Int×Int×LI×LB×LB×LZc)):Prop:=EE c_Ih_69 K_Ih_69 (s_Ih_69 e.1 e.2.1 e.2.2.1 e.2.2.2.1 e.2.2.2.2.1 e.2.2.2.2.2.1 e.2.2.2.2.2.2.1 e.2.2.2.2.2.2.2.1 e.2.2.2.2.2.2.2.2.1 e.2.2.2.2.2.2.2.2.2.1 e.2.2.2.2.2.2.2.2.2.2) Q
def O_Ih_9 (p0:Zh) (Q:VX→St→Prop) (e:(Int×LI×LB)):Prop:=EE c_Ih_44 K_Ih_44 (s_Ih_44 p0 e.1 e.2.1 e.2.2) Q
theorem ok_Ih_38 (a b f:Int) (p0:Zh) (g:Int) (c:LI) (d:LB) (i:Bool) (y) (hm:m_Ih_38 a b f p0 g c d i=some y) (Q)
  (hin:∀ s,y=.inl s→EE c_Ih_26 K_Ih_26 (s_Ih_26 a f p0 g d s.1 s.2) Q) (hout:∀ e,y=.inr e→O_Ih_26 a f p0 g d Q e):EE c_Ih_38 K_Ih_38 (s_Ih_38 a b f p0 g c d i) Q:=by
 obtain ⟨h,hm⟩|⟨h,hm⟩:=split_ite hm
 ·obtain ⟨k,j,hm⟩:=bind_some hm
  exact gw (hin _ (qj hm).symm) (u1 h<|wO (.rows (mi (c.set (0+Int.toNat a) b)))<|wO (zn ((c.set (0+Int.toNat a) b).length))<|wP (rd_in rfl j)<|wP (put_ob (rI .i64) b 0 (.lit (vI b)) (rd_get0 j) (by kernel_rfl) (by kernel_rfl))<|wP (lens c.length ((c.set (0+Int.toNat a) b).length) (set_len rfl))<|wK p0.due.length p0.gone.length d.length<|wN p0.shows.length<|z0) (by kernel_rfl)
 ·exact gw (hin _ (qj hm).symm) (v1 h<|wK c.length p0.due.length p0.gone.length<|wN d.length<|wN p0.shows.length<|z0) (by kernel_rfl)
theorem ok_Ih_42 (b d:Int) (p0:Zh) (f:Int) (a:LB) (c:LI) (y) (hm:m_Ih_42 b d p0 f a c=some y) (Q)
  (hin:∀ s,y=.inl s→EE c_Ih_9 K_Ih_9 (s_Ih_9 p0 s.1 s.2.1 s.2.2.1 s.2.2.2.1 s.2.2.2.2) Q) (hout:∀ e,y=.inr e→O_Ih_9 p0 Q e):EE c_Ih_42 K_Ih_42 (s_Ih_42 b d p0 f a c) Q:=by
 obtain ⟨h,g,hm⟩:=bind_some hm
 exact gw (hin _ (qj hm).symm) (wO (.rows (mb (a.set (0+Int.toNat b) false)))<|wP (rd_in rfl g)<|wP (put_ob rB false 0 (.lit (.bool false)) (rd_get0 g) (by kernel_rfl) (by kernel_rfl))<|wK c.length p0.due.length p0.gone.length<|wO (zn ((a.set (0+Int.toNat b) false).length))<|wP (lens a.length ((a.set (0+Int.toNat b) false).length) (set_len rfl))<|wN p0.shows.length<|z0) (by kernel_rfl)
theorem ok_Ih_26 (n o:Int) (p0:Zh) (p:Int) (f:LB) (r:Int) (h:LI) (y) (hm:m_Ih_26 n o p0 p f r h=some y) (Q)
  (hin:∀ s,y=.inl s→EE c_Ih_26 K_Ih_26 (s_Ih_26 n o p0 p f s.1 s.2) Q) (hout:∀ e,y=.inr e→O_Ih_26 n o p0 p f Q e):EE c_Ih_26 K_Ih_26 (s_Ih_26 n o p0 p f r h) Q:=by
 obtain ⟨j,hm⟩|⟨j,hm⟩:=split_ite hm
 ·obtain ⟨m,g,hm⟩:=bind_some hm
  obtain ⟨a,hm⟩|⟨a,hm⟩:=split_ite hm
  ·obtain ⟨b,hm⟩|⟨b,hm⟩:=split_ite hm
   ·obtain ⟨k,d,hm⟩:=bind_some hm
    obtain ⟨c,hm⟩|⟨c,hm⟩:=split_ite hm
    ·exact gw (ok_Ih_38 _ _ _ _ _ _ _ _ y hm Q hin hout) (u1 j<|wO (.row (rZb m))<|wP (rd_nn g)<|wP (at_row rZb (rd_get g))<|u3 a<|u4 b<|u2 b<|wP (rd_in rfl d)<|u1 b<|wO (.row ((rI .i64) k))<|wP (at_row (rI .i64) (rd_get0 d))<|u4 b<|u1 b<|u1 a<|u1 b<|u1 a<|u4 c<|u3 c<|u1 a<|u1 c<|u1 a<|wK h.length p0.due.length p0.gone.length<|wN f.length<|wN p0.shows.length<|z0) (by kernel_rfl)
    ·obtain ⟨q,l,hm⟩:=bind_some hm
     obtain ⟨i,hm⟩|⟨i,hm⟩:=split_ite hm
     ·exact gw (ok_Ih_38 _ _ _ _ _ _ _ _ y hm Q hin hout) (u1 j<|wO (.row (rZb m))<|wP (rd_nn g)<|wP (at_row rZb (rd_get g))<|u3 a<|u4 b<|u2 b<|wP (rd_in rfl d)<|u1 b<|wO (.row ((rI .i64) k))<|wP (at_row (rI .i64) (rd_get0 d))<|u4 b<|u1 b<|u1 a<|u1 b<|u1 a<|v3 c<|wP (rd_in rfl l)<|v1 c<|wO (.row ((rI .i64) q))<|wP (at_row (rI .i64) (rd_get0 l))<|v2 c<|u4 i<|u2 i<|wP (rd_in rfl d)<|u1 i<|wO (.row ((rI .i64) k))<|wP (at_row (rI .i64) (rd_get0 d))<|u4 i<|u1 i<|v1 c<|u1 i<|u1 a<|v1 c<|u1 a<|wK h.length p0.due.length p0.gone.length<|wN f.length<|wN p0.shows.length<|z0) (by kernel_rfl)
     ·exact gw (ok_Ih_38 _ _ _ _ _ _ _ _ y hm Q hin hout) (u1 j<|wO (.row (rZb m))<|wP (rd_nn g)<|wP (at_row rZb (rd_get g))<|u3 a<|u4 b<|u2 b<|wP (rd_in rfl d)<|u1 b<|wO (.row ((rI .i64) k))<|wP (at_row (rI .i64) (rd_get0 d))<|u4 b<|u1 b<|u1 a<|u1 b<|u1 a<|v3 c<|wP (rd_in rfl l)<|v1 c<|wO (.row ((rI .i64) q))<|wP (at_row (rI .i64) (rd_get0 l))<|v2 c<|v4 i<|v4 i<|v4 i<|v1 c<|v1 i<|u1 a<|v1 c<|u1 a<|wK h.length p0.due.length p0.gone.length<|wN f.length<|wN p0.shows.length<|z0) (by kernel_rfl)
   ·obtain ⟨k,d,hm⟩:=bind_some hm
    obtain ⟨c,hm⟩|⟨c,hm⟩:=split_ite hm
    ·obtain ⟨q,l,hm⟩:=bind_some hm
     exact gw (ok_Ih_38 _ _ _ _ _ _ _ _ y hm Q hin hout) (u1 j<|wO (.row (rZb m))<|wP (rd_nn g)<|wP (at_row rZb (rd_get g))<|u3 a<|v4 b<|v4 b<|v4 b<|u1 a<|v1 b<|u1 a<|v3 eF<|wP (rd_in rfl d)<|v1 eF<|wO (.row ((rI .i64) k))<|wP (at_row (rI .i64) (rd_get0 d))<|v2 eF<|u4 c<|u2 c<|wP (rd_in rfl l)<|u1 c<|wO (.row ((rI .i64) q))<|wP (at_row (rI .i64) (rd_get0 l))<|u4 c<|u1 c<|v1 eF<|u1 c<|u1 a<|v1 eF<|u1 a<|wK h.length p0.due.length p0.gone.length<|wN f.length<|wN p0.shows.length<|z0) (by kernel_rfl)
    ·exact gw (ok_Ih_38 _ _ _ _ _ _ _ _ y hm Q hin hout) (u1 j<|wO (.row (rZb m))<|wP (rd_nn g)<|wP (at_row rZb (rd_get g))<|u3 a<|v4 b<|v4 b<|v4 b<|u1 a<|v1 b<|u1 a<|v3 eF<|wP (rd_in rfl d)<|v1 eF<|wO (.row ((rI .i64) k))<|wP (at_row (rI .i64) (rd_get0 d))<|v2 eF<|v4 c<|v4 c<|v4 c<|v1 eF<|v1 c<|u1 a<|v1 eF<|u1 a<|wK h.length p0.due.length p0.gone.length<|wN f.length<|wN p0.shows.length<|z0) (by kernel_rfl)
  ·exact gw (ok_Ih_38 _ _ _ _ _ _ _ _ y hm Q hin hout) (u1 j<|wO (.row (rZb m))<|wP (rd_nn g)<|wP (at_row rZb (rd_get g))<|v4 a<|v3 a<|wK h.length p0.due.length p0.gone.length<|wN f.length<|wN p0.shows.length<|z0) (by kernel_rfl)
 ·refine gm c_Ih_42 K_Ih_42 (s_Ih_42 n o p0 p f h) (v1 j<|wK h.length p0.due.length p0.gone.length<|wN f.length<|wN p0.shows.length<|z0) ?_ (by kernel_rfl)
  exact hout h (qj hm).symm
theorem ok_Ih_63 (b:Int) (p0:Zh) (i:LZ) (j:LZa) (k l m n o:Int) (d f:LI) (g:LB) (h:LZc) (q:Bool) (c:LB) (y) (hm:m_Ih_63 b p0 i j k l m n o d f g h q c=some y) (Q)
  (hin:∀ s,y=.inl s→EE c_Ih_49 K_Ih_49 (s_Ih_49 p0 d s.1 s.2.1 s.2.2.1 s.2.2.2.1 s.2.2.2.2.1 s.2.2.2.2.2.1 s.2.2.2.2.2.2.1 s.2.2.2.2.2.2.2.1 s.2.2.2.2.2.2.2.2.1 s.2.2.2.2.2.2.2.2.2.1 s.2.2.2.2.2.2.2.2.2.2.1 s.2.2.2.2.2.2.2.2.2.2.2) Q) (hout:∀ e,y=.inr e→O_Ih_49 Q e):EE c_Ih_63 K_Ih_63 (s_Ih_63 b p0 i j k l m n o d f g h q c) Q:=by
 obtain ⟨p,hm⟩|⟨p,hm⟩:=split_ite hm
 ·obtain ⟨u,r,hm⟩:=bind_some hm
  obtain ⟨a,t,hm⟩:=bind_some hm
  exact gw (hin _ (qj hm).symm) (u1 p<|wO (.rows (mb (c.set (0+Int.toNat b) true)))<|wP (rd_in rfl r)<|wP (put_ob rB true 0 (.lit (.bool true)) (rd_get0 r) (by kernel_rfl) (by kernel_rfl))<|wR (rI .i64) f<|wO (.rows (mb (c.set (0+Int.toNat b) true)))<|wP (all_le0 rB (c.set (0+Int.toNat b) true) (set_len rfl))<|wP (all_t rB (c.set (0+Int.toNat b) true) (set_len rfl))<|wR rB g<|wR rZf h<|wO (.res (res_Ig a))<|wP (ok_Ig (Zh.mk (Ze.mk i j) k f (c.set (0+Int.toNat b) true) l g m n o h) b a t)<|wL (rI .i64) a.2.due<|wL rB a.2.gone<|wL rB a.2.dropping<|wL rZf a.2.shows<|wK d.length a.2.due.length a.2.gone.length<|wN a.2.dropping.length<|wN a.2.shows.length<|z0) (by kernel_rfl)
 ·exact gw (hin _ (qj hm).symm) (v1 p<|wK d.length f.length c.length<|wN g.length<|wN h.length<|z0) (by kernel_rfl)
theorem ok_Ih_69 (e:LZ) (f:LZa) (g h i j k:Int) (a:LI) (b c:LB) (d:LZc) (r:Zh) (hm:m_Ih_69 e f g h i j k a b c d=some r):EE c_Ih_69 K_Ih_69 (s_Ih_69 e f g h i j k a b c d) (Post vf_Ih (res_Ih r)):=by
 exact ge (wR (rI .i64) a<|wR rB b<|wR rB c<|wR rZf d<|z0) (congrArg res_Ih (qj hm)) (by kernel_rfl)
theorem ok_Ih_49 (p0:Zh) (j:LI) (b:Int) (k:LZ) (l:LZa) (m n o p q:Int) (f:LI) (d g:LB) (h:LZc) (y) (hm:m_Ih_49 p0 j b k l m n o p q f d g h=some y) (Q)
  (hin:∀ s,y=.inl s→EE c_Ih_49 K_Ih_49 (s_Ih_49 p0 j s.1 s.2.1 s.2.2.1 s.2.2.2.1 s.2.2.2.2.1 s.2.2.2.2.2.1 s.2.2.2.2.2.2.1 s.2.2.2.2.2.2.2.1 s.2.2.2.2.2.2.2.2.1 s.2.2.2.2.2.2.2.2.2.1 s.2.2.2.2.2.2.2.2.2.2.1 s.2.2.2.2.2.2.2.2.2.2.2) Q) (hout:∀ e,y=.inr e→O_Ih_49 Q e):EE c_Ih_49 K_Ih_49 (s_Ih_49 p0 j b k l m n o p q f d g h) Q:=by
 obtain ⟨r,hm⟩|⟨r,hm⟩:=split_ite hm
 ·obtain ⟨v,t,hm⟩:=bind_some hm
  obtain ⟨c,u,hm⟩:=bind_some hm
  obtain ⟨z,i,hm⟩:=bind_some hm
  obtain ⟨a,hm⟩|⟨a,hm⟩:=split_ite hm
  ·exact gw (ok_Ih_63 _ _ _ _ _ _ _ _ _ _ _ _ _ _ _ y hm Q hin hout) (u1 r<|wO (.row (rZb v))<|wO (.row ((rI .i64) c))<|wO (.rows (mb (d.set (0+Int.toNat b) (decide (b < c)))))<|wO (.row (rB (decide (b < c))))<|wO zF<|wO zF<|wO zF<|wO zF<|wO zF<|wO zF<|wO zF<|wO zF<|wO zF<|wO zF<|wO zF<|wO zF<|wO zF<|wO (zn j.length)<|wO (zn f.length)<|wO (zn ((d.set (0+Int.toNat b) (decide (b < c))).length))<|wO (zn g.length)<|wO (zn h.length)<|wP (rd_nn t)<|wP (at_row rZb (rd_get t))<|wP (rd_in rfl u)<|wP (at_row (rI .i64) (rd_get0 u))<|wP (rd_in rfl i)<|wP (put_ob rB (decide (b < c)) 0 (.lit (.bool (decide (b < c)))) (rd_get0 i) (by kernel_rfl) (by kernel_rfl))<|wP (rd_in rfl i)<|wP (at_row rB (set_at (decide (b < c)) (rd_get0 i)))<|wP (not_f a)<|wP (not_f a)<|wP (not_f a)<|wP (not_f a)<|wP (not_f a)<|wP (not_f a)<|wP (not_f a)<|wP (not_f a)<|wP (not_f a)<|wP (not_f a)<|wP (not_f a)<|wP (not_f a)<|wP (not_f a)<|wP (ln j.length)<|wP (ln f.length)<|wP (lens d.length ((d.set (0+Int.toNat b) (decide (b < c))).length) (set_len rfl))<|wP (ln g.length)<|wP (ln h.length)<|z0) (by kernel_rfl)
  ·obtain ⟨x,w,hm⟩:=bind_some hm
   exact gw (ok_Ih_63 _ _ _ _ _ _ _ _ _ _ _ _ _ _ _ y hm Q hin hout) (u1 r<|wO (.row (rZb v))<|wO (.row ((rI .i64) c))<|wO (.rows (mb (d.set (0+Int.toNat b) (decide (b < c)))))<|wO (.row (rB (decide (b < c))))<|wO zT<|wO zT<|wO zT<|wO zT<|wO zT<|wO zT<|wO zT<|wO (.row ((rI .i64) x))<|wO zT<|wO zT<|wO zT<|wO zT<|wO zT<|wO zT<|wO (zn j.length)<|wO (zn f.length)<|wO (zn ((d.set (0+Int.toNat b) (decide (b < c))).length))<|wO (zn g.length)<|wO (zn h.length)<|wP (rd_nn t)<|wP (at_row rZb (rd_get t))<|wP (rd_in rfl u)<|wP (at_row (rI .i64) (rd_get0 u))<|wP (rd_in rfl i)<|wP (put_ob rB (decide (b < c)) 0 (.lit (.bool (decide (b < c)))) (rd_get0 i) (by kernel_rfl) (by kernel_rfl))<|wP (rd_in rfl i)<|wP (at_row rB (set_at (decide (b < c)) (rd_get0 i)))<|wP (not_t a)<|wP (not_t a)<|wP (not_t a)<|wP (not_t a)<|wP (not_t a)<|wP (not_t a)<|wP (rd_in rfl w)<|wP (not_t a)<|wP (at_row (rI .i64) (rd_get0 w))<|wP (not_t a)<|wP (not_t a)<|wP (not_t a)<|wP (not_t a)<|wP (not_t a)<|wP (not_t a)<|wP (ln j.length)<|wP (ln f.length)<|wP (lens d.length ((d.set (0+Int.toNat b) (decide (b < c))).length) (set_len rfl))<|wP (ln g.length)<|wP (ln h.length)<|z0) (by kernel_rfl)
 ·refine gm c_Ih_69 K_Ih_69 (s_Ih_69 k l m n o p q f d g h) (v1 r<|wK f.length d.length g.length<|wN h.length<|z0) ?_ (by kernel_rfl)
  exact hout (k,l,m,n,o,p,q,f,d,g,h) (qj hm).symm
theorem ok_Ih_44 (p0:Zh) (f:Int) (a:LI) (d:LB) (r:Zh) (hm:m_Ih_44 p0 f a d=some r):EE c_Ih_44 K_Ih_44 (s_Ih_44 p0 f a d) (Post vf_Ih (res_Ih r)):=by
 refine gm c_Ih_49 K_Ih_49 (s_Ih_49 p0 a 0 p0.b.tracks p0.b.packets p0.speed p0.next p0.wall f p0.busy p0.due p0.gone d p0.shows) (wL rZb p0.b.packets<|wK a.length p0.due.length p0.gone.length<|wN d.length<|wN p0.shows.length<|z0) ?_ (by kernel_rfl)
 obtain ⟨e,he,hm⟩:=bind_some hm
 refine loop_rule (u:=.c c_Ih_49) (K:=K_Ih_49) (Q:=(Post vf_Ih (res_Ih r))) (b:=lp_Ih_49 p0 a) (We:=O_Ih_49 (Post vf_Ih (res_Ih r))) (stJ:=fun s=>s_Ih_49 p0 a s.1 s.2.1 s.2.2.1 s.2.2.2.1 s.2.2.2.2.1 s.2.2.2.2.2.1 s.2.2.2.2.2.2.1 s.2.2.2.2.2.2.2.1 s.2.2.2.2.2.2.2.2.1 s.2.2.2.2.2.2.2.2.2.1 s.2.2.2.2.2.2.2.2.2.2.1 s.2.2.2.2.2.2.2.2.2.2.2) (s:=(0,p0.b.tracks,p0.b.packets,p0.speed,p0.next,p0.wall,f,p0.busy,p0.due,p0.gone,d,p0.shows)) (fun s y hb hin hout=>ok_Ih_49 p0 a s.1 s.2.1 s.2.2.1 s.2.2.2.1 s.2.2.2.2.1 s.2.2.2.2.2.1 s.2.2.2.2.2.2.1 s.2.2.2.2.2.2.2.1 s.2.2.2.2.2.2.2.2.1 s.2.2.2.2.2.2.2.2.2.1 s.2.2.2.2.2.2.2.2.2.2.1 s.2.2.2.2.2.2.2.2.2.2.2 y hb (Post vf_Ih (res_Ih r)) hin hout) he ?_
 show EE c_Ih_69 K_Ih_69 (s_Ih_69 e.1 e.2.1 e.2.2.1 e.2.2.2.1 e.2.2.2.2.1 e.2.2.2.2.2.1 e.2.2.2.2.2.2.1 e.2.2.2.2.2.2.2.1 e.2.2.2.2.2.2.2.2.1 e.2.2.2.2.2.2.2.2.2.1 e.2.2.2.2.2.2.2.2.2.2) _
 exact ok_Ih_69 e.1 e.2.1 e.2.2.1 e.2.2.2.1 e.2.2.2.2.1 e.2.2.2.2.2.1 e.2.2.2.2.2.2.1 e.2.2.2.2.2.2.2.1 e.2.2.2.2.2.2.2.2.1 e.2.2.2.2.2.2.2.2.2.1 e.2.2.2.2.2.2.2.2.2.2 r hm
theorem ok_Ih_9 (p0:Zh) (h a f:Int) (g:LI) (d:LB) (y) (hm:m_Ih_9 p0 h a f g d=some y) (Q)
  (hin:∀ s,y=.inl s→EE c_Ih_9 K_Ih_9 (s_Ih_9 p0 s.1 s.2.1 s.2.2.1 s.2.2.2.1 s.2.2.2.2) Q) (hout:∀ e,y=.inr e→O_Ih_9 p0 Q e):EE c_Ih_9 K_Ih_9 (s_Ih_9 p0 h a f g d) Q:=by
 obtain ⟨i,hm⟩|⟨i,hm⟩:=split_ite hm
 ·obtain ⟨k,j,hm⟩:=bind_some hm
  refine gm c_Ih_26 K_Ih_26 (s_Ih_26 a h p0 f d 0 (g.set (0+Int.toNat a) (-1))) (u1 i<|wO (.rows (mi (g.set (0+Int.toNat a) (-1))))<|wP (rd_in rfl j)<|wP (put_ob (rI .i64) (-1) 0 (.lit (vI (-1))) (rd_get0 j) (by kernel_rfl) (by kernel_rfl))<|wL rZb p0.b.packets<|wO (zn ((g.set (0+Int.toNat a) (-1)).length))<|wP (lens g.length ((g.set (0+Int.toNat a) (-1)).length) (set_len rfl))<|wK p0.due.length p0.gone.length d.length<|wN p0.shows.length<|z0) ?_ (by kernel_rfl)
  obtain ⟨e,he,hm⟩:=bind_some hm
  refine loop_rule (u:=.c c_Ih_26) (K:=K_Ih_26) (Q:=Q) (b:=lp_Ih_26 a h p0 f d) (We:=O_Ih_26 a h p0 f d Q) (stJ:=fun s=>s_Ih_26 a h p0 f d s.1 s.2) (s:=(0,(g.set (0+Int.toNat a) (-1)))) (fun s y hb hin hout=>ok_Ih_26 a h p0 f d s.1 s.2 y hb Q hin hout) he ?_
  show EE c_Ih_42 K_Ih_42 (s_Ih_42 a h p0 f d e) _
  exact ok_Ih_42 a h p0 f d e y hm Q hin hout
 ·refine gm c_Ih_44 K_Ih_44 (s_Ih_44 p0 f g d) (v1 i<|wK g.length p0.due.length p0.gone.length<|wN d.length<|wN p0.shows.length<|z0) ?_ (by kernel_rfl)
  exact hout (f,g,d) (qj hm).symm
theorem ok_Ih_0 (p1:Int) (p0 r:Zh) (hm:m_Ih_0 p1 p0=some r):EE c_Ih_0 K_Ih_0 (s_Ih_0 p1 p0) (Post vf_Ih (res_Ih r)):=by
 obtain ⟨d,a,hm⟩:=bind_some hm
 refine gm c_Ih_9 K_Ih_9 (s_Ih_9 p0 ((Int.toNat (p0.b.tracks.length:Int)):Int) 0 (w64 (1000*p1)) (List.replicate (Int.toNat (p0.b.tracks.length:Int)) (0:Int)) p0.dropping) (wL rZa p0.b.tracks<|wO (.rows (mi (List.replicate (Int.toNat (p0.b.tracks.length:Int)) (0:Int))))<|wO (zn (Int.toNat (p0.b.tracks.length:Int)))<|wO (zn ((List.replicate (Int.toNat (p0.b.tracks.length:Int)) (0:Int)).length))<|wP (ck_p a)<|wP (rep_ob (rI .i64) (Int.toNat (p0.b.tracks.length:Int)) (0:Int) [.lit (vI 0)] (by kernel_rfl))<|wP (len_map (rI .i64) (show (Int.toNat (p0.b.tracks.length:Int))=(List.replicate (Int.toNat (p0.b.tracks.length:Int)) (0:Int)).length from (rep_len (Int.toNat (p0.b.tracks.length:Int)) (0:Int))))<|wP (lens (Int.toNat (p0.b.tracks.length:Int)) ((List.replicate (Int.toNat (p0.b.tracks.length:Int)) (0:Int)).length) (rep_len (Int.toNat (p0.b.tracks.length:Int)) (0:Int)))<|wK p0.due.length p0.gone.length p0.dropping.length<|wN p0.shows.length<|z0) ?_ (by kernel_rfl)
 obtain ⟨e,he,hm⟩:=bind_some hm
 refine loop_rule (u:=.c c_Ih_9) (K:=K_Ih_9) (Q:=(Post vf_Ih (res_Ih r))) (b:=lp_Ih_9 p0) (We:=O_Ih_9 p0 (Post vf_Ih (res_Ih r))) (stJ:=fun s=>s_Ih_9 p0 s.1 s.2.1 s.2.2.1 s.2.2.2.1 s.2.2.2.2) (s:=(((Int.toNat (p0.b.tracks.length:Int)):Int),0,(w64 (1000*p1)),(List.replicate (Int.toNat (p0.b.tracks.length:Int)) (0:Int)),p0.dropping)) (fun s y hb hin hout=>ok_Ih_9 p0 s.1 s.2.1 s.2.2.1 s.2.2.2.1 s.2.2.2.2 y hb (Post vf_Ih (res_Ih r)) hin hout) he ?_
 show EE c_Ih_44 K_Ih_44 (s_Ih_44 p0 e.1 e.2.1 e.2.2) _
 exact ok_Ih_44 p0 e.1 e.2.1 e.2.2 r hm
theorem ok_Ih (p0:Zh) (p1:Int) (r:Zh) (hm:m_Ih p0 p1=some r):Runs ext tbl 72 (as_Ih p0 p1) (res_Ih r):=
 runs_of (vf:=vf_Ih) (by kernel_rfl) rfl (st:=(enter vf_Ih (as_Ih p0 p1)).getD default) (by kernel_rfl) (go_on [zn p0.due.length,zn p0.gone.length,zn p0.dropping.length,zn p0.shows.length] 1000 (J (len_map (rI .i64) (rfl:p0.due.length=p0.due.length)) (J (len_map rB (rfl:p0.gone.length=p0.gone.length)) (J (len_map rB (rfl:p0.dropping.length=p0.dropping.length)) (J (len_map rZf (rfl:p0.shows.length=p0.shows.length)) J0)))) (ok_Ih_0 p1 p0 r hm) (by kernel_rfl))
def O_Ii_2 (Q:VX→St→Prop) (e:Zh):Prop:=Q=Post vf_Ii (res_Ii e)
theorem ok_Ii_49 (f:LZ) (g:LZa) (h i j k l:Int) (a:LI) (b c:LB) (d:LZc) (y) (hm:m_Ii_49 f g h i j k l a b c d=some y) (Q)
  (hin:∀ s,y=.inl s→EE c_Ii_2 K_Ii_2 (s_Ii_2 s.1 s.2.1 s.2.2.1 s.2.2.2.1 s.2.2.2.2.1 s.2.2.2.2.2.1 s.2.2.2.2.2.2.1 s.2.2.2.2.2.2.2.1 s.2.2.2.2.2.2.2.2.1 s.2.2.2.2.2.2.2.2.2.1 s.2.2.2.2.2.2.2.2.2.2) Q) (hout:∀ e,y=.inr e→O_Ii_2 Q e):EE c_Ii_49 K_Ii_49 (s_Ii_49 f g h i j k l a b c d) Q:=by
 exact gw (hin _ (qj hm).symm) (wK a.length b.length c.length<|wN d.length<|z0) (by kernel_rfl)
theorem ok_Ii_47 (a:Int) (j:Zb) (k:LZ) (l:LZa) (m n b c o:Int) (g:LI) (h i:LB) (f:LZc) (y) (hm:m_Ii_47 a j k l m n b c o g h i f=some y) (Q)
  (hin:∀ s,y=.inl s→EE c_Ii_2 K_Ii_2 (s_Ii_2 s.1 s.2.1 s.2.2.1 s.2.2.2.1 s.2.2.2.2.1 s.2.2.2.2.2.1 s.2.2.2.2.2.2.1 s.2.2.2.2.2.2.2.1 s.2.2.2.2.2.2.2.2.1 s.2.2.2.2.2.2.2.2.2.1 s.2.2.2.2.2.2.2.2.2.2) Q) (hout:∀ e,y=.inr e→O_Ii_2 Q e):EE c_Ii_47 K_Ii_47 (s_Ii_47 a j k l m n b c o g h i f) Q:=by
 obtain ⟨d,p,hm⟩:=bind_some hm
 obtain ⟨r,q,hm⟩:=bind_some hm
 exact gw (ok_Ii_49 _ _ _ _ _ _ _ _ _ _ _ y hm Q hin hout) (wO (.row (rB d))<|wO (.rows (List.map rZf ([(Zf.mk b (w64 (Int.tdiv c 1000)) a d)]:LZc)))<|wO (zn 1)<|wO (.rows (List.map rZf (f++([(Zf.mk b (w64 (Int.tdiv c 1000)) a d)]:LZc))))<|wO (zn ((f++([(Zf.mk b (w64 (Int.tdiv c 1000)) a d)]:LZc)).length))<|wO (zn g.length)<|wO (zn h.length)<|wO (zn i.length)<|wO (zn ((f++([(Zf.mk b (w64 (Int.tdiv c 1000)) a d)]:LZc)).length))<|wP (by decide:(1000:Int)≠0)<|wP (rd_in rfl p)<|wP (at_row rB (rd_get0 p))<|wP (Eq.refl (List.map rZf ([(Zf.mk b (w64 (Int.tdiv c 1000)) a d)]:LZc)))<|wP (len_map rZf (show 1=([(Zf.mk b (w64 (Int.tdiv c 1000)) a d)]:LZc).length from rfl))<|wP (all_le rZf ([(Zf.mk b (w64 (Int.tdiv c 1000)) a d)]:LZc) rfl)<|wP (app_ck rZf f ([(Zf.mk b (w64 (Int.tdiv c 1000)) a d)]:LZc) rfl rfl q)<|wP (app_tell rZf f ([(Zf.mk b (w64 (Int.tdiv c 1000)) a d)]:LZc) rfl rfl)<|wP (len_map rZf (show (f++([(Zf.mk b (w64 (Int.tdiv c 1000)) a d)]:LZc)).length=(f++([(Zf.mk b (w64 (Int.tdiv c 1000)) a d)]:LZc)).length from rfl))<|wP (ln g.length)<|wP (ln h.length)<|wP (ln i.length)<|wP (lens ((f++([(Zf.mk b (w64 (Int.tdiv c 1000)) a d)]:LZc)).length) ((f++([(Zf.mk b (w64 (Int.tdiv c 1000)) a d)]:LZc)).length) rfl)<|z0) (by kernel_rfl)
theorem ok_Ii_41 (g:Int) (a:Int×Zh) (i:Zb) (d:LB) (y) (hm:m_Ii_41 g a i d=some y) (Q)
  (hin:∀ s,y=.inl s→EE c_Ii_2 K_Ii_2 (s_Ii_2 s.1 s.2.1 s.2.2.1 s.2.2.2.1 s.2.2.2.2.1 s.2.2.2.2.2.1 s.2.2.2.2.2.2.1 s.2.2.2.2.2.2.2.1 s.2.2.2.2.2.2.2.2.1 s.2.2.2.2.2.2.2.2.2.1 s.2.2.2.2.2.2.2.2.2.2) Q) (hout:∀ e,y=.inr e→O_Ii_2 Q e):EE c_Ii_41 K_Ii_41 (s_Ii_41 g a i d) Q:=by
 obtain ⟨j,f,hm⟩:=bind_some hm
 obtain ⟨h,hm⟩|⟨h,hm⟩:=split_ite hm
 ·exact gw (ok_Ii_47 _ _ _ _ _ _ _ _ _ _ _ _ _ y hm Q hin hout) (wO (.row (rB j))<|wP (rd_in rfl f)<|wP (at_row rB (rd_get0 f))<|v1 (not_f h)<|wK a.2.due.length a.2.gone.length d.length<|wN a.2.shows.length<|z0) (by kernel_rfl)
 ·obtain ⟨c,k,hm⟩:=bind_some hm
  exact gw (ok_Ii_47 _ _ _ _ _ _ _ _ _ _ _ _ _ y hm Q hin hout) (wO (.row (rB j))<|wP (rd_in rfl f)<|wP (at_row rB (rd_get0 f))<|u1 (not_t h)<|wR (rI .i64) a.2.due<|wR rB a.2.gone<|wR rB d<|wR rZf a.2.shows<|wO (.res (res_Ig c))<|wP (ok_Ig (Zh.mk a.2.b a.2.speed a.2.due a.2.gone a.2.next d a.2.wall a.2.clock a.2.busy a.2.shows) g c k)<|wL (rI .i64) c.2.due<|wL rB c.2.gone<|wL rB c.2.dropping<|wL rZf c.2.shows<|wK c.2.due.length c.2.gone.length c.2.dropping.length<|wN c.2.shows.length<|z0) (by kernel_rfl)
theorem ok_Ii_38 (d:Int) (a:Int×Zh) (b:Zb) (f:Bool) (y) (hm:m_Ii_38 d a b f=some y) (Q)
  (hin:∀ s,y=.inl s→EE c_Ii_2 K_Ii_2 (s_Ii_2 s.1 s.2.1 s.2.2.1 s.2.2.2.1 s.2.2.2.2.1 s.2.2.2.2.2.1 s.2.2.2.2.2.2.1 s.2.2.2.2.2.2.2.1 s.2.2.2.2.2.2.2.2.1 s.2.2.2.2.2.2.2.2.2.1 s.2.2.2.2.2.2.2.2.2.2) Q) (hout:∀ e,y=.inr e→O_Ii_2 Q e):EE c_Ii_38 K_Ii_38 (s_Ii_38 d a b f) Q:=by
 obtain ⟨c,hm⟩|⟨c,hm⟩:=split_ite hm
 ·obtain ⟨h,g,hm⟩:=bind_some hm
  exact gw (ok_Ii_41 _ _ _ _ y hm Q hin hout) (u1 c<|wO (.rows (mb (a.2.dropping.set (0+Int.toNat b.track) true)))<|wP (rd_in rfl g)<|wP (put_ob rB true 0 (.lit (.bool true)) (rd_get0 g) (by kernel_rfl) (by kernel_rfl))<|wN a.2.due.length<|wN a.2.gone.length<|wO (zn ((a.2.dropping.set (0+Int.toNat b.track) true).length))<|wP (lens a.2.dropping.length ((a.2.dropping.set (0+Int.toNat b.track) true).length) (set_len rfl))<|wN a.2.shows.length<|z0) (by kernel_rfl)
 ·exact gw (ok_Ii_41 _ _ _ _ y hm Q hin hout) (v1 c<|wK a.2.due.length a.2.gone.length a.2.dropping.length<|wN a.2.shows.length<|z0) (by kernel_rfl)
theorem ok_Ii_31 (b:Int) (j:LZ) (k:LZa) (l m n o:Int) (u:Zb) (c:LI) (d:LZc) (f g:LB) (y) (hm:m_Ii_31 b j k l m n o u c d f g=some y) (Q)
  (hin:∀ s,y=.inl s→EE c_Ii_2 K_Ii_2 (s_Ii_2 s.1 s.2.1 s.2.2.1 s.2.2.2.1 s.2.2.2.2.1 s.2.2.2.2.2.1 s.2.2.2.2.2.2.1 s.2.2.2.2.2.2.2.1 s.2.2.2.2.2.2.2.2.1 s.2.2.2.2.2.2.2.2.2.1 s.2.2.2.2.2.2.2.2.2.2) Q) (hout:∀ e,y=.inr e→O_Ii_2 Q e):EE c_Ii_31 K_Ii_31 (s_Ii_31 b j k l m n o u c d f g) Q:=by
 obtain ⟨r,i,hm⟩:=bind_some hm
 obtain ⟨a,t,hm⟩:=bind_some hm
 obtain ⟨p,hm⟩|⟨p,hm⟩:=split_ite hm
 ·obtain ⟨h,hm⟩|⟨h,hm⟩:=split_ite hm
  ·exact gw (ok_Ii_38 _ _ _ _ y hm Q hin hout) (wO (.row (rZa r))<|wP (rd_nn i)<|wP (at_row rZa (rd_get i))<|wR (rI .i64) c<|wR rB f<|wR rB g<|wR rZf d<|wO (.res (res_Ig a))<|wP (ok_Ig (Zh.mk (Ze.mk j k) l c f b g m n o d) b a t)<|wL (rI .i64) a.2.due<|wL rB a.2.gone<|wL rB a.2.dropping<|wL rZf a.2.shows<|u4 p<|v4 (not_f h)<|v1 (not_f h)<|wK a.2.due.length a.2.gone.length a.2.dropping.length<|wN a.2.shows.length<|z0) (by kernel_rfl)
  ·obtain ⟨q,hm⟩|⟨q,hm⟩:=split_ite hm
   ·exact gw (ok_Ii_38 _ _ _ _ y hm Q hin hout) (wO (.row (rZa r))<|wP (rd_nn i)<|wP (at_row rZa (rd_get i))<|wR (rI .i64) c<|wR rB f<|wR rB g<|wR rZf d<|wO (.res (res_Ig a))<|wP (ok_Ig (Zh.mk (Ze.mk j k) l c f b g m n o d) b a t)<|wL (rI .i64) a.2.due<|wL rB a.2.gone<|wL rB a.2.dropping<|wL rZf a.2.shows<|u4 p<|u3 (not_t h)<|u2 q<|u1 (not_t h)<|u1 q<|u1 (not_t h)<|wK a.2.due.length a.2.gone.length a.2.dropping.length<|wN a.2.shows.length<|z0) (by kernel_rfl)
   ·exact gw (ok_Ii_38 _ _ _ _ y hm Q hin hout) (wO (.row (rZa r))<|wP (rd_nn i)<|wP (at_row rZa (rd_get i))<|wR (rI .i64) c<|wR rB f<|wR rB g<|wR rZf d<|wO (.res (res_Ig a))<|wP (ok_Ig (Zh.mk (Ze.mk j k) l c f b g m n o d) b a t)<|wL (rI .i64) a.2.due<|wL rB a.2.gone<|wL rB a.2.dropping<|wL rZf a.2.shows<|u4 p<|u3 (not_t h)<|v2 q<|u1 (not_t h)<|v1 q<|u1 (not_t h)<|wK a.2.due.length a.2.gone.length a.2.dropping.length<|wN a.2.shows.length<|z0) (by kernel_rfl)
 ·exact gw (ok_Ii_38 _ _ _ _ y hm Q hin hout) (wO (.row (rZa r))<|wP (rd_nn i)<|wP (at_row rZa (rd_get i))<|wR (rI .i64) c<|wR rB f<|wR rB g<|wR rZf d<|wO (.res (res_Ig a))<|wP (ok_Ig (Zh.mk (Ze.mk j k) l c f b g m n o d) b a t)<|wL (rI .i64) a.2.due<|wL rB a.2.gone<|wL rB a.2.dropping<|wL rZf a.2.shows<|v4 p<|v4 eF<|v1 eF<|wK a.2.due.length a.2.gone.length a.2.dropping.length<|wN a.2.shows.length<|z0) (by kernel_rfl)
theorem ok_Ii_2 (h:LZ) (i:LZa) (j c k l m:Int) (d:LI) (a b:LB) (f:LZc) (y) (hm:m_Ii_2 h i j c k l m d a b f=some y) (Q)
  (hin:∀ s,y=.inl s→EE c_Ii_2 K_Ii_2 (s_Ii_2 s.1 s.2.1 s.2.2.1 s.2.2.2.1 s.2.2.2.2.1 s.2.2.2.2.2.1 s.2.2.2.2.2.2.1 s.2.2.2.2.2.2.2.1 s.2.2.2.2.2.2.2.2.1 s.2.2.2.2.2.2.2.2.2.1 s.2.2.2.2.2.2.2.2.2.2) Q) (hout:∀ e,y=.inr e→O_Ii_2 Q e):EE c_Ii_2 K_Ii_2 (s_Ii_2 h i j c k l m d a b f) Q:=by
 obtain ⟨n,hm⟩|⟨n,hm⟩:=split_ite hm
 ·obtain ⟨r,g,hm⟩:=bind_some hm
  obtain ⟨p,hm⟩|⟨p,hm⟩:=split_ite hm
  ·exact gw (ok_Ii_49 _ _ _ _ _ _ _ _ _ _ _ y hm Q hin hout) (u1 n<|wO (.row (rB r))<|wP (rd_in rfl g)<|wP (at_row rB (rd_get0 g))<|v1 (not_f p)<|wK d.length a.length b.length<|wN f.length<|z0) (by kernel_rfl)
  ·obtain ⟨v,o,hm⟩:=bind_some hm
   obtain ⟨t,hm⟩|⟨t,hm⟩:=split_ite hm
   ·have hQ:Q=Post vf_Ii (res_Ii (Zh.mk (Ze.mk h i) j d a c b k l m f)):=hout (Zh.mk (Ze.mk h i) j d a c b k l m f) (qj hm).symm
    subst hQ
    exact ge (u1 n<|wO (.row (rB r))<|wP (rd_in rfl g)<|wP (at_row rB (rd_get0 g))<|u1 (not_t p)<|wO (.row ((rI .i64) v))<|wP (rd_in rfl o)<|wP (at_row (rI .i64) (rd_get0 o))<|u1 t<|wR (rI .i64) d<|wR rB a<|wR rB b<|wR rZf f<|z0) (rfl:res_Ii (Zh.mk (Ze.mk h i) j d a c b k l m f)=res_Ii (Zh.mk (Ze.mk h i) j d a c b k l m f)) (by kernel_rfl)
   ·obtain ⟨q,u,hm⟩:=bind_some hm
    obtain ⟨w,hm⟩|⟨w,hm⟩:=split_ite hm
    ·obtain ⟨z,x,hm⟩:=bind_some hm
     exact gw (ok_Ii_31 _ _ _ _ _ _ _ _ _ _ _ _ y hm Q hin hout) (u1 n<|wO (.row (rB r))<|wP (rd_in rfl g)<|wP (at_row rB (rd_get0 g))<|u1 (not_t p)<|wO (.row ((rI .i64) v))<|wP (rd_in rfl o)<|wP (at_row (rI .i64) (rd_get0 o))<|v1 t<|wO (.rows (mb (a.set (0+Int.toNat c) true)))<|wO (.row (rZb q))<|wP (rd_in rfl g)<|wP (put_ob rB true 0 (.lit (.bool true)) (rd_get0 g) (by kernel_rfl) (by kernel_rfl))<|wP (rd_nn u)<|wP (at_row rZb (rd_get u))<|u1 w<|wO (.rows (mb (b.set (0+Int.toNat q.track) false)))<|wP (rd_in rfl x)<|wP (put_ob rB false 0 (.lit (.bool false)) (rd_get0 x) (by kernel_rfl) (by kernel_rfl))<|wN d.length<|wO (zn ((a.set (0+Int.toNat c) true).length))<|wO (zn ((b.set (0+Int.toNat q.track) false).length))<|wP (lens a.length ((a.set (0+Int.toNat c) true).length) (set_len rfl))<|wP (lens b.length ((b.set (0+Int.toNat q.track) false).length) (set_len rfl))<|wN f.length<|z0) (by kernel_rfl)
    ·exact gw (ok_Ii_31 _ _ _ _ _ _ _ _ _ _ _ _ y hm Q hin hout) (u1 n<|wO (.row (rB r))<|wP (rd_in rfl g)<|wP (at_row rB (rd_get0 g))<|u1 (not_t p)<|wO (.row ((rI .i64) v))<|wP (rd_in rfl o)<|wP (at_row (rI .i64) (rd_get0 o))<|v1 t<|wO (.rows (mb (a.set (0+Int.toNat c) true)))<|wO (.row (rZb q))<|wP (rd_in rfl g)<|wP (put_ob rB true 0 (.lit (.bool true)) (rd_get0 g) (by kernel_rfl) (by kernel_rfl))<|wP (rd_nn u)<|wP (at_row rZb (rd_get u))<|v1 w<|wN d.length<|wO (zn ((a.set (0+Int.toNat c) true).length))<|wP (lens a.length ((a.set (0+Int.toNat c) true).length) (set_len rfl))<|wN b.length<|wN f.length<|z0) (by kernel_rfl)
 ·have hQ:Q=Post vf_Ii (res_Ii (Zh.mk (Ze.mk h i) j d a c b k l m f)):=hout (Zh.mk (Ze.mk h i) j d a c b k l m f) (qj hm).symm
  subst hQ
  exact ge (v1 n<|wR (rI .i64) d<|wR rB a<|wR rB b<|wR rZf f<|z0) (rfl:res_Ii (Zh.mk (Ze.mk h i) j d a c b k l m f)=res_Ii (Zh.mk (Ze.mk h i) j d a c b k l m f)) (by kernel_rfl)
theorem ok_Ii_0 (p0 r:Zh) (hm:m_Ii_0 p0=some r):EE c_Ii_0 K_Ii_0 (s_Ii_0 p0) (Post vf_Ii (res_Ii r)):=by
 refine gm c_Ii_2 K_Ii_2 (s_Ii_2 p0.b.tracks p0.b.packets p0.speed p0.next p0.wall p0.clock p0.busy p0.due p0.gone p0.dropping p0.shows) (wK p0.due.length p0.gone.length p0.dropping.length<|wN p0.shows.length<|z0) ?_ (by kernel_rfl)
 obtain ⟨e,he,hm⟩:=bind_some hm
 refine loop_rule (u:=.c c_Ii_2) (K:=K_Ii_2) (Q:=(Post vf_Ii (res_Ii r))) (b:=lp_Ii_2) (We:=O_Ii_2 (Post vf_Ii (res_Ii r))) (stJ:=fun s=>s_Ii_2 s.1 s.2.1 s.2.2.1 s.2.2.2.1 s.2.2.2.2.1 s.2.2.2.2.2.1 s.2.2.2.2.2.2.1 s.2.2.2.2.2.2.2.1 s.2.2.2.2.2.2.2.2.1 s.2.2.2.2.2.2.2.2.2.1 s.2.2.2.2.2.2.2.2.2.2) (s:=(p0.b.tracks,p0.b.packets,p0.speed,p0.next,p0.wall,p0.clock,p0.busy,p0.due,p0.gone,p0.dropping,p0.shows)) (fun s y hb hin hout=>ok_Ii_2 s.1 s.2.1 s.2.2.1 s.2.2.2.1 s.2.2.2.2.1 s.2.2.2.2.2.1 s.2.2.2.2.2.2.1 s.2.2.2.2.2.2.2.1 s.2.2.2.2.2.2.2.2.1 s.2.2.2.2.2.2.2.2.2.1 s.2.2.2.2.2.2.2.2.2.2 y hb (Post vf_Ii (res_Ii r)) hin hout) he ?_
 exact congrArg (fun r=>Post vf_Ii (res_Ii r)) (qj hm).symm
theorem ok_Ii (p0 r:Zh) (hm:m_Ii p0=some r):Runs ext tbl 73 (as_Ii p0) (res_Ii r):=
 runs_of (vf:=vf_Ii) (by kernel_rfl) rfl (st:=(enter vf_Ii (as_Ii p0)).getD default) (by kernel_rfl) (go_on [zn p0.due.length,zn p0.gone.length,zn p0.dropping.length,zn p0.shows.length] 1000 (J (len_map (rI .i64) (rfl:p0.due.length=p0.due.length)) (J (len_map rB (rfl:p0.gone.length=p0.gone.length)) (J (len_map rB (rfl:p0.dropping.length=p0.dropping.length)) (J (len_map rZf (rfl:p0.shows.length=p0.shows.length)) J0)))) (ok_Ii_0 p0 r hm) (by kernel_rfl))
def O_Ib_105 (p2:LZb) (a:Int) (Q:VX→St→Prop) (e:(Int×Bool×LZ×LZa×Int×Int×Int×Int×Int×LI×LB×LB×LZc)):Prop:=EE c_Ib_120 K_Ib_120 (s_Ib_120 p2 a e.1 e.2.1 e.2.2.1 e.2.2.2.1 e.2.2.2.2.1 e.2.2.2.2.2.1 e.2.2.2.2.2.2.1 e.2.2.2.2.2.2.2.1 e.2.2.2.2.2.2.2.2.1 e.2.2.2.2.2.2.2.2.2.1 e.2.2.2.2.2.2.2.2.2.2.1 e.2.2.2.2.2.2.2.2.2.2.2.1 e.2.2.2.2.2.2.2.2.2.2.2.2) Q
def O_Ib_61 (Q:VX→St→Prop) (e:(LZ×LZa×Int×Int×Int×Int×Int×LI×LB×LB×LZc)):Prop:=EE c_Ib_121 K_Ib_121 (s_Ib_121 e.1 e.2.1 e.2.2.1 e.2.2.2.1 e.2.2.2.2.1 e.2.2.2.2.2.1 e.2.2.2.2.2.2.1 e.2.2.2.2.2.2.2.1 e.2.2.2.2.2.2.2.2.1 e.2.2.2.2.2.2.2.2.2.1 e.2.2.2.2.2.2.2.2.2.2) Q
def O_Ib_42 (p2:LZb) (p0:Ze) (p1:Int) (Q:VX→St→Prop) (e:(LI×LB×LB)):Prop:=EE c_Ib_54 K_Ib_54 (s_Ib_54 p2 p0 p1 e.1 e.2.1 e.2.2) Q
def O_Ib_15 (p1:Int) (p2:LZb) (p0:Ze) (Q:VX→St→Prop) (e:(Zg)⊕((Unit))):Prop:=match e with | .inl e=>Q=Post vf_Ib (res_Ib e) | .inr e=>EE c_Ib_33 K_Ib_33 (s_Ib_33 p1 p2 p0) Q
theorem ok_Ib_120 (p2:LZb) (f g:Int) (h:Bool) (i:LZ) (j:LZa) (k l m n o:Int) (a:LI) (b c:LB) (d:LZc) (y) (hm:m_Ib_120 p2 f g h i j k l m n o a b c d=some y) (Q)
  (hin:∀ s,y=.inl s→EE c_Ib_61 K_Ib_61 (s_Ib_61 p2 s.1 s.2.1 s.2.2.1 s.2.2.2.1 s.2.2.2.2.1 s.2.2.2.2.2.1 s.2.2.2.2.2.2.1 s.2.2.2.2.2.2.2.1 s.2.2.2.2.2.2.2.2.1 s.2.2.2.2.2.2.2.2.2.1 s.2.2.2.2.2.2.2.2.2.2.1 s.2.2.2.2.2.2.2.2.2.2.2.1 s.2.2.2.2.2.2.2.2.2.2.2.2.1 s.2.2.2.2.2.2.2.2.2.2.2.2.2) Q) (hout:∀ e,y=.inr e→O_Ib_61 Q e):EE c_Ib_120 K_Ib_120 (s_Ib_120 p2 f g h i j k l m n o a b c d) Q:=by
 exact gw (hin _ (qj hm).symm) (wO (zn (([]:LZc).length))<|wP (lens (([]:LZc).length) (([]:LZc).length) rfl)<|wK a.length b.length c.length<|wN d.length<|z0) (by kernel_rfl)
end Go.Proofs.V

namespace Go.Proofs.V
open Go
theorem ok_Ib_105 (g:Int) (h:Bool) (p2:LZb) (i:Int) (q:Zc) (t:Int) (j:LZ) (k:LZa) (l m n o p:Int) (b:LI) (c d:LB) (f:LZc) (y) (hm:m_Ib_105 g h p2 i q t j k l m n o p b c d f=some y) (Q)
  (hin:∀ s,y=.inl s→EE c_Ib_105 K_Ib_105 (s_Ib_105 g h p2 i q s.1 s.2.1 s.2.2.1 s.2.2.2.1 s.2.2.2.2.1 s.2.2.2.2.2.1 s.2.2.2.2.2.2.1 s.2.2.2.2.2.2.2.1 s.2.2.2.2.2.2.2.2.1 s.2.2.2.2.2.2.2.2.2.1 s.2.2.2.2.2.2.2.2.2.2.1 s.2.2.2.2.2.2.2.2.2.2.2) Q) (hout:∀ e,y=.inr e→O_Ib_105 p2 i Q e):EE c_Ib_105 K_Ib_105 (s_Ib_105 g h p2 i q t j k l m n o p b c d f) Q:=by
 obtain ⟨r,hm⟩|⟨r,hm⟩:=split_ite hm
 ·obtain ⟨a,u,hm⟩:=bind_some hm
  exact gw (hin _ (qj hm).symm) (u1 r<|wR (rI .i64) b<|wR rB c<|wR rB d<|wR rZf f<|wO (.res (res_Ii a))<|wP (ok_Ii (Zh.mk (Ze.mk j k) l b c m d (w64 (n+1)) (w64 (o+(w64 (10*g)))) p f) a u)<|wL (rI .i64) a.due<|wL rB a.gone<|wL rB a.dropping<|wL rZf a.shows<|wO (zn (([]:LZc).length))<|wP (lens (([]:LZc).length) (([]:LZc).length) rfl)<|wK a.due.length a.gone.length a.dropping.length<|wN a.shows.length<|z0) (by kernel_rfl)
 ·refine gm c_Ib_120 K_Ib_120 (s_Ib_120 p2 i g h j k l m n o p b c d f) (v1 r<|wO (zn (([]:LZc).length))<|wP (lens (([]:LZc).length) (([]:LZc).length) rfl)<|wK b.length c.length d.length<|wN f.length<|z0) ?_ (by kernel_rfl)
  exact hout (g,h,j,k,l,m,n,o,p,b,c,d,f) (qj hm).symm
theorem ok_Ib_80 (l:Int) (m:Bool) (p2:LZb) (i:Int) (j:Zc) (p:LZ) (q:LZa) (r t v w x:Int) (a:LI) (d f:LB) (g:LZc) (B:Bool) (y) (hm:m_Ib_80 l m p2 i j p q r t v w x a d f g B=some y) (Q)
  (hin:∀ s,y=.inl s→EE c_Ib_61 K_Ib_61 (s_Ib_61 p2 s.1 s.2.1 s.2.2.1 s.2.2.2.1 s.2.2.2.2.1 s.2.2.2.2.2.1 s.2.2.2.2.2.2.1 s.2.2.2.2.2.2.2.1 s.2.2.2.2.2.2.2.2.1 s.2.2.2.2.2.2.2.2.2.1 s.2.2.2.2.2.2.2.2.2.2.1 s.2.2.2.2.2.2.2.2.2.2.2.1 s.2.2.2.2.2.2.2.2.2.2.2.2.1 s.2.2.2.2.2.2.2.2.2.2.2.2.2) Q) (hout:∀ e,y=.inr e→O_Ib_61 Q e):EE c_Ib_80 K_Ib_80 (s_Ib_80 l m p2 i j p q r t v w x a d f g B) Q:=by
 obtain ⟨k,hm⟩|⟨k,hm⟩:=split_ite hm
 ·exact gw (ok_Ib_120 _ _ _ _ _ _ _ _ _ _ _ _ _ _ _ y hm Q hin hout) (u1 k<|wO (zn (([]:LZc).length))<|wP (lens (([]:LZc).length) (([]:LZc).length) rfl)<|wK a.length d.length f.length<|wN g.length<|z0) (by kernel_rfl)
 ·obtain ⟨n,hm⟩|⟨n,hm⟩:=split_ite hm
  ·exact gw (ok_Ib_120 _ _ _ _ _ _ _ _ _ _ _ _ _ _ _ y hm Q hin hout) (v1 k<|u1 n<|wO (zn (([]:LZc).length))<|wP (lens (([]:LZc).length) (([]:LZc).length) rfl)<|wK a.length d.length f.length<|wN g.length<|z0) (by kernel_rfl)
  ·obtain ⟨z,hm⟩|⟨z,hm⟩:=split_ite hm
   ·obtain ⟨h,o,hm⟩:=bind_some hm
    exact gw (ok_Ib_120 _ _ _ _ _ _ _ _ _ _ _ _ _ _ _ y hm Q hin hout) (v1 k<|v1 n<|u1 z<|wR (rI .i64) a<|wR rB d<|wR rB f<|wR rZf g<|wO (.res (res_Ih h))<|wP (ok_Ih (Zh.mk (Ze.mk p q) r a d t f v w x g) j.value h o)<|wL (rI .i64) h.due<|wL rB h.gone<|wL rB h.dropping<|wL rZf h.shows<|wO (zn (([]:LZc).length))<|wP (lens (([]:LZc).length) (([]:LZc).length) rfl)<|wK h.due.length h.gone.length h.dropping.length<|wN h.shows.length<|z0) (by kernel_rfl)
   ·obtain ⟨o,hm⟩|⟨o,hm⟩:=split_ite hm
    ·obtain ⟨A,hm⟩|⟨A,hm⟩:=split_ite hm
     ·refine gm c_Ib_105 K_Ib_105 (s_Ib_105 l m p2 i j 0 p q r t v w x a d f g) (v1 k<|v1 n<|v1 z<|u1 o<|v1 (not_f A)<|wO (zn (([]:LZc).length))<|wP (lens (([]:LZc).length) (([]:LZc).length) rfl)<|wK a.length d.length f.length<|wN g.length<|z0) ?_ (by kernel_rfl)
      obtain ⟨e,he,hm⟩:=bind_some hm
      refine loop_rule (u:=.c c_Ib_105) (K:=K_Ib_105) (Q:=Q) (b:=lp_Ib_105 l m p2 i j) (We:=O_Ib_105 p2 i Q) (stJ:=fun s=>s_Ib_105 l m p2 i j s.1 s.2.1 s.2.2.1 s.2.2.2.1 s.2.2.2.2.1 s.2.2.2.2.2.1 s.2.2.2.2.2.2.1 s.2.2.2.2.2.2.2.1 s.2.2.2.2.2.2.2.2.1 s.2.2.2.2.2.2.2.2.2.1 s.2.2.2.2.2.2.2.2.2.2.1 s.2.2.2.2.2.2.2.2.2.2.2) (s:=(0,p,q,r,t,v,w,x,a,d,f,g)) (fun s y hb hin hout=>ok_Ib_105 l m p2 i j s.1 s.2.1 s.2.2.1 s.2.2.2.1 s.2.2.2.2.1 s.2.2.2.2.2.1 s.2.2.2.2.2.2.1 s.2.2.2.2.2.2.2.1 s.2.2.2.2.2.2.2.2.1 s.2.2.2.2.2.2.2.2.2.1 s.2.2.2.2.2.2.2.2.2.2.1 s.2.2.2.2.2.2.2.2.2.2.2 y hb Q hin hout) he ?_
      show EE c_Ib_120 K_Ib_120 (s_Ib_120 p2 i e.1 e.2.1 e.2.2.1 e.2.2.2.1 e.2.2.2.2.1 e.2.2.2.2.2.1 e.2.2.2.2.2.2.1 e.2.2.2.2.2.2.2.1 e.2.2.2.2.2.2.2.2.1 e.2.2.2.2.2.2.2.2.2.1 e.2.2.2.2.2.2.2.2.2.2.1 e.2.2.2.2.2.2.2.2.2.2.2.1 e.2.2.2.2.2.2.2.2.2.2.2.2) _
      exact ok_Ib_120 p2 i e.1 e.2.1 e.2.2.1 e.2.2.2.1 e.2.2.2.2.1 e.2.2.2.2.2.1 e.2.2.2.2.2.2.1 e.2.2.2.2.2.2.2.1 e.2.2.2.2.2.2.2.2.1 e.2.2.2.2.2.2.2.2.2.1 e.2.2.2.2.2.2.2.2.2.2.1 e.2.2.2.2.2.2.2.2.2.2.2.1 e.2.2.2.2.2.2.2.2.2.2.2.2 y hm Q hin hout
     ·exact gw (ok_Ib_120 _ _ _ _ _ _ _ _ _ _ _ _ _ _ _ y hm Q hin hout) (v1 k<|v1 n<|v1 z<|u1 o<|u1 (not_t A)<|wO (zn (([]:LZc).length))<|wP (lens (([]:LZc).length) (([]:LZc).length) rfl)<|wK a.length d.length f.length<|wN g.length<|z0) (by kernel_rfl)
    ·exact gw (ok_Ib_120 _ _ _ _ _ _ _ _ _ _ _ _ _ _ _ y hm Q hin hout) (v1 k<|v1 n<|v1 z<|v1 o<|wO (zn (([]:LZc).length))<|wP (lens (([]:LZc).length) (([]:LZc).length) rfl)<|wK a.length d.length f.length<|wN g.length<|z0) (by kernel_rfl)
theorem ok_Ib_121 (b:LZ) (c:LZa) (d e f g h:Int) (i:LI) (j k:LB) (a:LZc) (r:Zg) (hm:m_Ib_121 b c d e f g h i j k a=some r):EE c_Ib_121 K_Ib_121 (s_Ib_121 b c d e f g h i j k a) (Post vf_Ib (res_Ib r)):=by
 exact ge (wP (by decide:(1000:Int)≠0)<|wR rZf a<|z0) (congrArg res_Ib (qj hm)) (by kernel_rfl)
theorem ok_Ib_61 (p2:LZb) (p:Int) (q:Bool) (r:Int) (f:LZ) (g:LZa) (h i j k l:Int) (a:LI) (b c:LB) (d:LZc) (y) (hm:m_Ib_61 p2 p q r f g h i j k l a b c d=some y) (Q)
  (hin:∀ s,y=.inl s→EE c_Ib_61 K_Ib_61 (s_Ib_61 p2 s.1 s.2.1 s.2.2.1 s.2.2.2.1 s.2.2.2.2.1 s.2.2.2.2.2.1 s.2.2.2.2.2.2.1 s.2.2.2.2.2.2.2.1 s.2.2.2.2.2.2.2.2.1 s.2.2.2.2.2.2.2.2.2.1 s.2.2.2.2.2.2.2.2.2.2.1 s.2.2.2.2.2.2.2.2.2.2.2.1 s.2.2.2.2.2.2.2.2.2.2.2.2.1 s.2.2.2.2.2.2.2.2.2.2.2.2.2) Q) (hout:∀ e,y=.inr e→O_Ib_61 Q e):EE c_Ib_61 K_Ib_61 (s_Ib_61 p2 p q r f g h i j k l a b c d) Q:=by
 obtain ⟨m,hm⟩|⟨m,hm⟩:=split_ite hm
 ·obtain ⟨t,n,hm⟩:=bind_some hm
  obtain ⟨o,hm⟩|⟨o,hm⟩:=split_ite hm
  ·exact gw (ok_Ib_80 _ _ _ _ _ _ _ _ _ _ _ _ _ _ _ _ _ y hm Q hin hout) (u1 m<|wO (.row (rZc t))<|wP (rd_nn n)<|wP (at_row rZc (rd_get n))<|u1 o<|wO (zn (([]:LZc).length))<|wP (lens (([]:LZc).length) (([]:LZc).length) rfl)<|wK a.length b.length c.length<|wN d.length<|z0) (by kernel_rfl)
  ·exact gw (ok_Ib_80 _ _ _ _ _ _ _ _ _ _ _ _ _ _ _ _ _ y hm Q hin hout) (u1 m<|wO (.row (rZc t))<|wP (rd_nn n)<|wP (at_row rZc (rd_get n))<|v1 o<|wO (zn (([]:LZc).length))<|wP (lens (([]:LZc).length) (([]:LZc).length) rfl)<|wK a.length b.length c.length<|wN d.length<|z0) (by kernel_rfl)
 ·refine gm c_Ib_121 K_Ib_121 (s_Ib_121 f g h i j k l a b c d) (v1 m<|wO (zn (([]:LZc).length))<|wP (lens (([]:LZc).length) (([]:LZc).length) rfl)<|wK a.length b.length c.length<|wN d.length<|z0) ?_ (by kernel_rfl)
  exact hout (f,g,h,i,j,k,l,a,b,c,d) (qj hm).symm
theorem ok_Ib_54 (p2:LZb) (p0:Ze) (p1:Int) (a:LI) (d f:LB) (r:Zg) (hm:m_Ib_54 p2 p0 p1 a d f=some r):EE c_Ib_54 K_Ib_54 (s_Ib_54 p2 p0 p1 a d f) (Post vf_Ib (res_Ib r)):=by
 refine gm c_Ib_61 K_Ib_61 (s_Ib_61 p2 100 false 0 p0.tracks p0.packets p1 0 0 0 0 a d f ([]:LZc)) (wL rZc p2<|wO (zn (([]:LZc).length))<|wP (lens (([]:LZc).length) (([]:LZc).length) rfl)<|wK a.length d.length f.length<|wO (zn (([]:LZc).length))<|wP (lens 0 (([]:LZc).length) rfl)<|z0) ?_ (by kernel_rfl)
 obtain ⟨e,he,hm⟩:=bind_some hm
 refine loop_rule (u:=.c c_Ib_61) (K:=K_Ib_61) (Q:=(Post vf_Ib (res_Ib r))) (b:=lp_Ib_61 p2) (We:=O_Ib_61 (Post vf_Ib (res_Ib r))) (stJ:=fun s=>s_Ib_61 p2 s.1 s.2.1 s.2.2.1 s.2.2.2.1 s.2.2.2.2.1 s.2.2.2.2.2.1 s.2.2.2.2.2.2.1 s.2.2.2.2.2.2.2.1 s.2.2.2.2.2.2.2.2.1 s.2.2.2.2.2.2.2.2.2.1 s.2.2.2.2.2.2.2.2.2.2.1 s.2.2.2.2.2.2.2.2.2.2.2.1 s.2.2.2.2.2.2.2.2.2.2.2.2.1 s.2.2.2.2.2.2.2.2.2.2.2.2.2) (s:=(100,false,0,p0.tracks,p0.packets,p1,0,0,0,0,a,d,f,([]:LZc))) (fun s y hb hin hout=>ok_Ib_61 p2 s.1 s.2.1 s.2.2.1 s.2.2.2.1 s.2.2.2.2.1 s.2.2.2.2.2.1 s.2.2.2.2.2.2.1 s.2.2.2.2.2.2.2.1 s.2.2.2.2.2.2.2.2.1 s.2.2.2.2.2.2.2.2.2.1 s.2.2.2.2.2.2.2.2.2.2.1 s.2.2.2.2.2.2.2.2.2.2.2.1 s.2.2.2.2.2.2.2.2.2.2.2.2.1 s.2.2.2.2.2.2.2.2.2.2.2.2.2 y hb (Post vf_Ib (res_Ib r)) hin hout) he ?_
 show EE c_Ib_121 K_Ib_121 (s_Ib_121 e.1 e.2.1 e.2.2.1 e.2.2.2.1 e.2.2.2.2.1 e.2.2.2.2.2.1 e.2.2.2.2.2.2.1 e.2.2.2.2.2.2.2.1 e.2.2.2.2.2.2.2.2.1 e.2.2.2.2.2.2.2.2.2.1 e.2.2.2.2.2.2.2.2.2.2) _
 exact ok_Ib_121 e.1 e.2.1 e.2.2.1 e.2.2.2.1 e.2.2.2.2.1 e.2.2.2.2.2.1 e.2.2.2.2.2.2.1 e.2.2.2.2.2.2.2.1 e.2.2.2.2.2.2.2.2.1 e.2.2.2.2.2.2.2.2.2.1 e.2.2.2.2.2.2.2.2.2.2 r hm
theorem ok_Ib_42 (p2:LZb) (p0:Ze) (p1 f:Int) (b:LI) (c d:LB) (y) (hm:m_Ib_42 p2 p0 p1 f b c d=some y) (Q)
  (hin:∀ s,y=.inl s→EE c_Ib_42 K_Ib_42 (s_Ib_42 p2 p0 p1 s.1 s.2.1 s.2.2.1 s.2.2.2) Q) (hout:∀ e,y=.inr e→O_Ib_42 p2 p0 p1 Q e):EE c_Ib_42 K_Ib_42 (s_Ib_42 p2 p0 p1 f b c d) Q:=by
 obtain ⟨g,hm⟩|⟨g,hm⟩:=split_ite hm
 ·obtain ⟨a,h,hm⟩:=bind_some hm
  obtain ⟨j,i,hm⟩:=bind_some hm
  exact gw (hin _ (qj hm).symm) (u1 g<|wO (.res (res_Ie a))<|wO (.rows (mi ([a]:LI)))<|wO (zn 1)<|wO (.rows (mi (b++([a]:LI))))<|wO (zn ((b++([a]:LI)).length))<|wO (zn (([]:LZc).length))<|wO (zn ((b++([a]:LI)).length))<|wO (zn c.length)<|wO (zn d.length)<|wP (ok_Ie p0 f a h)<|wP (Eq.refl (mi ([a]:LI)))<|wP (len_map (rI .i64) (show 1=([a]:LI).length from rfl))<|wP (all_le (rI .i64) ([a]:LI) rfl)<|wP (app_ck (rI .i64) b ([a]:LI) rfl rfl i)<|wP (app_tell (rI .i64) b ([a]:LI) rfl rfl)<|wP (len_map (rI .i64) (show (b++([a]:LI)).length=(b++([a]:LI)).length from rfl))<|wP (lens (([]:LZc).length) (([]:LZc).length) rfl)<|wP (lens ((b++([a]:LI)).length) ((b++([a]:LI)).length) rfl)<|wP (ln c.length)<|wP (ln d.length)<|z0) (by kernel_rfl)
 ·refine gm c_Ib_54 K_Ib_54 (s_Ib_54 p2 p0 p1 b c d) (v1 g<|wO (zn (([]:LZc).length))<|wP (lens (([]:LZc).length) (([]:LZc).length) rfl)<|wK b.length c.length d.length<|z0) ?_ (by kernel_rfl)
  exact hout (b,c,d) (qj hm).symm
theorem ok_Ib_33 (p1:Int) (p2:LZb) (p0:Ze) (r:Zg) (hm:m_Ib_33 p1 p2 p0=some r):EE c_Ib_33 K_Ib_33 (s_Ib_33 p1 p2 p0) (Post vf_Ib (res_Ib r)):=by
 obtain ⟨f,a,hm⟩:=bind_some hm
 obtain ⟨g,d,hm⟩:=bind_some hm
 refine gm c_Ib_42 K_Ib_42 (s_Ib_42 p2 p0 p1 0 ([]:LI) (List.replicate (Int.toNat (p0.packets.length:Int)) (false:Bool)) (List.replicate (Int.toNat (p0.tracks.length:Int)) (false:Bool))) (wL rZb p0.packets<|wL rZa p0.tracks<|wO (.rows (mb (List.replicate (Int.toNat (p0.packets.length:Int)) (false:Bool))))<|wO (zn (Int.toNat (p0.packets.length:Int)))<|wO (.rows (mb (List.replicate (Int.toNat (p0.tracks.length:Int)) (false:Bool))))<|wO (zn (Int.toNat (p0.tracks.length:Int)))<|wO (zn (([]:LZc).length))<|wO (zn (([]:LI).length))<|wO (zn ((List.replicate (Int.toNat (p0.packets.length:Int)) (false:Bool)).length))<|wO (zn ((List.replicate (Int.toNat (p0.tracks.length:Int)) (false:Bool)).length))<|wP (ck_p a)<|wP (rep_ob rB (Int.toNat (p0.packets.length:Int)) (false:Bool) [.lit (.bool false)] (by kernel_rfl))<|wP (len_map rB (show (Int.toNat (p0.packets.length:Int))=(List.replicate (Int.toNat (p0.packets.length:Int)) (false:Bool)).length from (rep_len (Int.toNat (p0.packets.length:Int)) (false:Bool))))<|wP (ck_p d)<|wP (rep_ob rB (Int.toNat (p0.tracks.length:Int)) (false:Bool) [.lit (.bool false)] (by kernel_rfl))<|wP (len_map rB (show (Int.toNat (p0.tracks.length:Int))=(List.replicate (Int.toNat (p0.tracks.length:Int)) (false:Bool)).length from (rep_len (Int.toNat (p0.tracks.length:Int)) (false:Bool))))<|wP (lens (([]:LZc).length) (([]:LZc).length) rfl)<|wP (lens 0 (([]:LI).length) rfl)<|wP (lens (Int.toNat (p0.packets.length:Int)) ((List.replicate (Int.toNat (p0.packets.length:Int)) (false:Bool)).length) (rep_len (Int.toNat (p0.packets.length:Int)) (false:Bool)))<|wP (lens (Int.toNat (p0.tracks.length:Int)) ((List.replicate (Int.toNat (p0.tracks.length:Int)) (false:Bool)).length) (rep_len (Int.toNat (p0.tracks.length:Int)) (false:Bool)))<|z0) ?_ (by kernel_rfl)
 obtain ⟨e,he,hm⟩:=bind_some hm
 refine loop_rule (u:=.c c_Ib_42) (K:=K_Ib_42) (Q:=(Post vf_Ib (res_Ib r))) (b:=lp_Ib_42 p2 p0 p1) (We:=O_Ib_42 p2 p0 p1 (Post vf_Ib (res_Ib r))) (stJ:=fun s=>s_Ib_42 p2 p0 p1 s.1 s.2.1 s.2.2.1 s.2.2.2) (s:=(0,([]:LI),(List.replicate (Int.toNat (p0.packets.length:Int)) (false:Bool)),(List.replicate (Int.toNat (p0.tracks.length:Int)) (false:Bool)))) (fun s y hb hin hout=>ok_Ib_42 p2 p0 p1 s.1 s.2.1 s.2.2.1 s.2.2.2 y hb (Post vf_Ib (res_Ib r)) hin hout) he ?_
 show EE c_Ib_54 K_Ib_54 (s_Ib_54 p2 p0 p1 e.1 e.2.1 e.2.2) _
 exact ok_Ib_54 p2 p0 p1 e.1 e.2.1 e.2.2 r hm
theorem ok_Ib_15 (p1:Int) (p2:LZb) (p0:Ze) (g:Int) (y) (hm:m_Ib_15 p1 p2 p0 g=some y) (Q)
  (hin:∀ s,y=.inl s→EE c_Ib_15 K_Ib_15 (s_Ib_15 p1 p2 p0 s) Q) (hout:∀ e,y=.inr e→O_Ib_15 p1 p2 p0 Q e):EE c_Ib_15 K_Ib_15 (s_Ib_15 p1 p2 p0 g) Q:=by
 obtain ⟨a,hm⟩|⟨a,hm⟩:=split_ite hm
 ·obtain ⟨b,c,hm⟩:=bind_some hm
  obtain ⟨d,h,hm⟩:=bind_some hm
  obtain ⟨f,hm⟩|⟨f,hm⟩:=split_ite hm
  ·exact gw (hin _ (qj hm).symm) (u1 a<|wO (.row (rZc b))<|wO (.res (res_Ic d))<|wP (rd_nn c)<|wP (at_row rZc (rd_get c))<|wP (ok_Ic b d h)<|v1 (not_f f)<|wO (zn (([]:LZc).length))<|wP (lens (([]:LZc).length) (([]:LZc).length) rfl)<|z0) (by kernel_rfl)
  ·have hQ:Q=Post vf_Ib (res_Ib (Zg.mk 1 ([]:LZc) 0 0)):=hout (.inl (Zg.mk 1 ([]:LZc) 0 0)) (qj hm).symm
   subst hQ
   exact ge (u1 a<|wO (.row (rZc b))<|wO (.res (res_Ic d))<|wP (rd_nn c)<|wP (at_row rZc (rd_get c))<|wP (ok_Ic b d h)<|u1 (not_t f)<|wO (.rows (List.map rZf ([]:LZc)))<|wP (all_le0 rZf ([]:LZc) rfl)<|wP (all_t rZf ([]:LZc) rfl)<|z0) (rfl:res_Ib (Zg.mk 1 ([]:LZc) 0 0)=res_Ib (Zg.mk 1 ([]:LZc) 0 0)) (by kernel_rfl)
 ·refine gm c_Ib_33 K_Ib_33 (s_Ib_33 p1 p2 p0) (v1 a<|wO (zn (([]:LZc).length))<|wP (lens (([]:LZc).length) (([]:LZc).length) rfl)<|z0) ?_ (by kernel_rfl)
  exact hout (.inr ()) (qj hm).symm
theorem ok_Ib_5 (p1:Int) (p2:LZb) (p0:Ze) (d:Bool) (r:Zg) (hm:m_Ib_5 p1 p2 p0 d=some r):EE c_Ib_5 K_Ib_5 (s_Ib_5 p1 p2 p0 d) (Post vf_Ib (res_Ib r)):=by
 obtain ⟨a,hm⟩|⟨a,hm⟩:=split_ite hm
 ·exact ge (u1 a<|wO (.rows (List.map rZf ([]:LZc)))<|wP (all_le0 rZf ([]:LZc) rfl)<|wP (all_t rZf ([]:LZc) rfl)<|z0) (congrArg res_Ib (qj hm)) (by kernel_rfl)
 ·refine gm c_Ib_15 K_Ib_15 (s_Ib_15 p1 p2 p0 0) (v1 a<|wL rZc p2<|wO (zn (([]:LZc).length))<|wP (lens (([]:LZc).length) (([]:LZc).length) rfl)<|z0) ?_ (by kernel_rfl)
  obtain ⟨e,he,hm⟩:=bind_some hm
  refine loop_rule (u:=.c c_Ib_15) (K:=K_Ib_15) (Q:=(Post vf_Ib (res_Ib r))) (b:=lp_Ib_15 p1 p2 p0) (We:=O_Ib_15 p1 p2 p0 (Post vf_Ib (res_Ib r))) (stJ:=fun s=>s_Ib_15 p1 p2 p0 s) (s:=0) (fun s y hb hin hout=>ok_Ib_15 p1 p2 p0 s y hb (Post vf_Ib (res_Ib r)) hin hout) he ?_
  rcases e with e | e
  ·exact congrArg (fun r=>Post vf_Ib (res_Ib r)) (qj hm).symm
  ·show EE c_Ib_33 K_Ib_33 (s_Ib_33 p1 p2 p0) _
   exact ok_Ib_33 p1 p2 p0 r hm
theorem ok_Ib_0 (p0:Ze) (p1:Int) (p2:LZb) (r:Zg) (hm:m_Ib_0 p0 p1 p2=some r):EE c_Ib_0 K_Ib_0 (s_Ib_0 p0 p1 p2) (Post vf_Ib (res_Ib r)):=by
 obtain ⟨a,c,hm⟩:=bind_some hm
 obtain ⟨b,hm⟩|⟨b,hm⟩:=split_ite hm
 ·obtain ⟨d,hm⟩|⟨d,hm⟩:=split_ite hm
  ·exact gw (ok_Ib_5 _ _ _ _ r hm) (wO (.res (res_Ia a))<|wP (ok_Ia p0 a c)<|v3 (not_f b)<|u3 d<|u4 eT<|wO (zn (([]:LZc).length))<|wP (lens 0 (([]:LZc).length) rfl)<|z0) (by kernel_rfl)
  ·obtain ⟨e,hm⟩|⟨e,hm⟩:=split_ite hm
   ·exact gw (ok_Ib_5 _ _ _ _ r hm) (wO (.res (res_Ia a))<|wP (ok_Ia p0 a c)<|v3 (not_f b)<|v3 d<|u4 e<|wO (zn (([]:LZc).length))<|wP (lens 0 (([]:LZc).length) rfl)<|z0) (by kernel_rfl)
   ·exact gw (ok_Ib_5 _ _ _ _ r hm) (wO (.res (res_Ia a))<|wP (ok_Ia p0 a c)<|v3 (not_f b)<|v3 d<|v2 e<|wL rZc p2<|v2 e<|wO (zn (([]:LZc).length))<|wP (lens 0 (([]:LZc).length) rfl)<|z0) (by kernel_rfl)
 ·exact gw (ok_Ib_5 _ _ _ _ r hm) (wO (.res (res_Ia a))<|wP (ok_Ia p0 a c)<|u3 (not_t b)<|u4 eT<|u3 eT<|wO (zn (([]:LZc).length))<|wP (lens 0 (([]:LZc).length) rfl)<|z0) (by kernel_rfl)
theorem ok_Ib (p0:Ze) (p1:Int) (p2:LZb) (r:Zg) (hm:m_Ib p0 p1 p2=some r):Runs ext tbl 25 (as_Ib p0 p1 p2) (res_Ib r):=
 runs_of (vf:=vf_Ib) (by kernel_rfl) rfl (st:=(enter vf_Ib (as_Ib p0 p1 p2)).getD default) (by kernel_rfl) (go_on [] 1000 J0 (ok_Ib_0 p0 p1 p2 r hm) (by kernel_rfl))
def O_Se_7 (Q:VX→St→Prop) (e:(Bool)⊕((Unit))):Prop:=match e with | .inl e=>Q=Post vf_Se (res_Se e) | .inr e=>EE c_Se_23 K_Se_23 (s_Se_23) Q
theorem ok_Se_23 (r:Bool) (hm:m_Se_23=some r):EE c_Se_23 K_Se_23 (s_Se_23) (Post vf_Se (res_Se r)):=by
 exact ge (z0) (congrArg res_Se (qj hm)) (by kernel_rfl)
theorem ok_Se_7 (p0:ByteArray) (g:Int) (y) (hm:m_Se_7 p0 g=some y) (Q)
  (hin:∀ s,y=.inl s→EE c_Se_7 K_Se_7 (s_Se_7 p0 s) Q) (hout:∀ e,y=.inr e→O_Se_7 Q e):EE c_Se_7 K_Se_7 (s_Se_7 p0 g) Q:=by
 obtain ⟨c,hm⟩|⟨c,hm⟩:=split_ite hm
 ·obtain ⟨d,a,hm⟩:=bind_some hm
  obtain ⟨b,hm⟩|⟨b,hm⟩:=split_ite hm
  ·have hQ:Q=Post vf_Se (res_Se false):=hout (.inl false) (qj hm).symm
   subst hQ
   exact ge (u1 c<|wO (.int d)<|wP (sat_nn a)<|wP (sat_at a)<|u4 b<|u1 b<|u1 eT<|z0) (rfl:res_Se false=res_Se false) (by kernel_rfl)
  ·obtain ⟨f,hm⟩|⟨f,hm⟩:=split_ite hm
   ·have hQ:Q=Post vf_Se (res_Se false):=hout (.inl false) (qj hm).symm
    subst hQ
    exact ge (u1 c<|wO (.int d)<|wP (sat_nn a)<|wP (sat_at a)<|v3 b<|wO (.int d)<|wP (sat_nn a)<|wP (sat_at a)<|v2 b<|u1 f<|z0) (rfl:res_Se false=res_Se false) (by kernel_rfl)
   ·exact gw (hin _ (qj hm).symm) (u1 c<|wO (.int d)<|wP (sat_nn a)<|wP (sat_at a)<|v3 b<|wO (.int d)<|wP (sat_nn a)<|wP (sat_at a)<|v2 b<|v1 f<|z0) (by kernel_rfl)
 ·refine gm c_Se_23 K_Se_23 (s_Se_23) (v1 c<|z0) ?_ (by kernel_rfl)
  exact hout (.inr ()) (qj hm).symm
theorem ok_Se_0 (p0:ByteArray) (r:Bool) (hm:m_Se_0 p0=some r):EE c_Se_0 K_Se_0 (s_Se_0 p0) (Post vf_Se (res_Se r)):=by
 refine gm c_Se_7 K_Se_7 (s_Se_7 p0 0) (z0) ?_ (by kernel_rfl)
 obtain ⟨e,he,hm⟩:=bind_some hm
 refine loop_rule (u:=.c c_Se_7) (K:=K_Se_7) (Q:=(Post vf_Se (res_Se r))) (b:=lp_Se_7 p0) (We:=O_Se_7 (Post vf_Se (res_Se r))) (stJ:=fun s=>s_Se_7 p0 s) (s:=0) (fun s y hb hin hout=>ok_Se_7 p0 s y hb (Post vf_Se (res_Se r)) hin hout) he ?_
 rcases e with e | e
 ·exact congrArg (fun r=>Post vf_Se (res_Se r)) (qj hm).symm
 ·show EE c_Se_23 K_Se_23 (s_Se_23) _
  exact ok_Se_23 r hm
theorem ok_Se (p0:ByteArray) (r:Bool) (hm:m_Se p0=some r):Runs ext tbl 139 (as_Se p0) (res_Se r):=
 runs_of (vf:=vf_Se) (by kernel_rfl) rfl (st:=(enter vf_Se (as_Se p0)).getD default) (by kernel_rfl) (go_on [] 1000 J0 (ok_Se_0 p0 r hm) (by kernel_rfl))
theorem ok_Sk_0 (p0:Za) (r:Bool) (hm:m_Sk_0 p0=some r):EE c_Sk_0 K_Sk_0 (s_Sk_0 p0) (Post vf_Sk (res_Sk r)):=by
 obtain ⟨a,hm⟩|⟨a,hm⟩:=split_ite hm
 ·obtain ⟨c,hm⟩|⟨c,hm⟩:=split_ite hm
  ·obtain ⟨d,hm⟩|⟨d,hm⟩:=split_ite hm
   ·obtain ⟨b,hm⟩|⟨b,hm⟩:=split_ite hm
    ·obtain ⟨e,hm⟩|⟨e,hm⟩:=split_ite hm
     ·obtain ⟨f,g,hm⟩:=bind_some hm
      exact ge (u4 a<|u4 c<|u4 d<|u4 b<|u1 b<|u3 e<|wO (.res (res_Se f))<|wP (ok_Se p0.name f g)<|u1 e<|z0) (congrArg res_Sk (qj hm)) (by kernel_rfl)
     ·exact ge (u4 a<|u4 c<|u4 d<|u4 b<|u1 b<|v4 e<|z0) (congrArg res_Sk (qj hm)) (by kernel_rfl)
    ·exact ge (u4 a<|u4 c<|u4 d<|v4 b<|v1 b<|v4 eF<|z0) (congrArg res_Sk (qj hm)) (by kernel_rfl)
   ·exact ge (u4 a<|u4 c<|v4 d<|v4 eF<|v4 eF<|v1 eF<|z0) (congrArg res_Sk (qj hm)) (by kernel_rfl)
  ·exact ge (u4 a<|v4 c<|v4 eF<|v4 eF<|v4 eF<|v1 eF<|z0) (congrArg res_Sk (qj hm)) (by kernel_rfl)
 ·exact ge (v4 a<|v4 eF<|v4 eF<|v4 eF<|v4 eF<|v1 eF<|z0) (congrArg res_Sk (qj hm)) (by kernel_rfl)
theorem ok_Sk (p0:Za) (r:Bool) (hm:m_Sk p0=some r):Runs ext tbl 97 (as_Sk p0) (res_Sk r):=
 runs_of (vf:=vf_Sk) (by kernel_rfl) rfl (st:=(enter vf_Sk (as_Sk p0)).getD default) (by kernel_rfl) (go_on [] 1000 J0 (ok_Sk_0 p0 r hm) (by kernel_rfl))
def O_Sl_7 (p0:LZ) (Q:VX→St→Prop) (e:(Bool)⊕((Unit))):Prop:=match e with | .inl e=>Q=Post vf_Sl (res_Sl e) | .inr e=>EE c_Sl_25 K_Sl_25 (s_Sl_25 p0) Q
theorem ok_Sl_25 (p0:LZ) (r:Bool) (hm:m_Sl_25 p0=some r):EE c_Sl_25 K_Sl_25 (s_Sl_25 p0) (Post vf_Sl (res_Sl r)):=by
 obtain ⟨a,hm⟩|⟨a,hm⟩:=split_ite hm
 ·exact ge (wL rZa p0<|u2 a<|wL rZa p0<|u2 a<|z0) (congrArg res_Sl (qj hm)) (by kernel_rfl)
 ·exact ge (wL rZa p0<|v4 a<|z0) (congrArg res_Sl (qj hm)) (by kernel_rfl)
theorem ok_Sl_7 (p0:LZ) (g:Int) (y) (hm:m_Sl_7 p0 g=some y) (Q)
  (hin:∀ s,y=.inl s→EE c_Sl_7 K_Sl_7 (s_Sl_7 p0 s) Q) (hout:∀ e,y=.inr e→O_Sl_7 p0 Q e):EE c_Sl_7 K_Sl_7 (s_Sl_7 p0 g) Q:=by
 obtain ⟨a,hm⟩|⟨a,hm⟩:=split_ite hm
 ·obtain ⟨b,c,hm⟩:=bind_some hm
  obtain ⟨d,h,hm⟩:=bind_some hm
  obtain ⟨f,hm⟩|⟨f,hm⟩:=split_ite hm
  ·exact gw (hin _ (qj hm).symm) (u1 a<|wO (.row (rZa b))<|wO (.res (res_Sk d))<|wP (rd_nn c)<|wP (at_row rZa (rd_get c))<|wP (ok_Sk b d h)<|v1 (not_f f)<|z0) (by kernel_rfl)
  ·have hQ:Q=Post vf_Sl (res_Sl false):=hout (.inl false) (qj hm).symm
   subst hQ
   exact ge (u1 a<|wO (.row (rZa b))<|wO (.res (res_Sk d))<|wP (rd_nn c)<|wP (at_row rZa (rd_get c))<|wP (ok_Sk b d h)<|u1 (not_t f)<|z0) (rfl:res_Sl false=res_Sl false) (by kernel_rfl)
 ·refine gm c_Sl_25 K_Sl_25 (s_Sl_25 p0) (v1 a<|z0) ?_ (by kernel_rfl)
  exact hout (.inr ()) (qj hm).symm
theorem ok_Sl_0 (p0:LZ) (r:Bool) (hm:m_Sl_0 p0=some r):EE c_Sl_0 K_Sl_0 (s_Sl_0 p0) (Post vf_Sl (res_Sl r)):=by
 refine gm c_Sl_7 K_Sl_7 (s_Sl_7 p0 0) (wL rZa p0<|z0) ?_ (by kernel_rfl)
 obtain ⟨e,he,hm⟩:=bind_some hm
 refine loop_rule (u:=.c c_Sl_7) (K:=K_Sl_7) (Q:=(Post vf_Sl (res_Sl r))) (b:=lp_Sl_7 p0) (We:=O_Sl_7 p0 (Post vf_Sl (res_Sl r))) (stJ:=fun s=>s_Sl_7 p0 s) (s:=0) (fun s y hb hin hout=>ok_Sl_7 p0 s y hb (Post vf_Sl (res_Sl r)) hin hout) he ?_
 rcases e with e | e
 ·exact congrArg (fun r=>Post vf_Sl (res_Sl r)) (qj hm).symm
 ·show EE c_Sl_25 K_Sl_25 (s_Sl_25 p0) _
  exact ok_Sl_25 p0 r hm
theorem ok_Sl (p0:LZ) (r:Bool) (hm:m_Sl p0=some r):Runs ext tbl 142 (as_Sl p0) (res_Sl r):=
 runs_of (vf:=vf_Sl) (by kernel_rfl) rfl (st:=(enter vf_Sl (as_Sl p0)).getD default) (by kernel_rfl) (go_on [] 1000 J0 (ok_Sl_0 p0 r hm) (by kernel_rfl))
theorem ok_Sj_0 (p0:Int) (r:Bool) (hm:m_Sj_0 p0=some r):EE c_Sj_0 K_Sj_0 (s_Sj_0 p0) (Post vf_Sj (res_Sj r)):=by
 obtain ⟨a,hm⟩|⟨a,hm⟩:=split_ite hm
 ·exact ge (u3 a<|z0) (congrArg res_Sj (qj hm)) (by kernel_rfl)
 ·exact ge (v3 a<|z0) (congrArg res_Sj (qj hm)) (by kernel_rfl)
theorem ok_Sj (p0:Int) (r:Bool) (hm:m_Sj p0=some r):Runs ext tbl 127 (as_Sj p0) (res_Sj r):=
 runs_of (vf:=vf_Sj) (by kernel_rfl) rfl (st:=(enter vf_Sj (as_Sj p0)).getD default) (by kernel_rfl) (go_on [] 1000 J0 (ok_Sj_0 p0 r hm) (by kernel_rfl))
def O_Si_36 (Q:VX→St→Prop) (e:(Bool)⊕((Unit))):Prop:=match e with | .inl e=>Q=Post vf_Si (res_Si e) | .inr e=>EE c_Si_74 K_Si_74 (s_Si_74) Q
def O_Si_17 (p0:Ze) (Q:VX→St→Prop) (e:(LI)):Prop:=EE c_Si_29 K_Si_29 (s_Si_29 p0 e) Q
theorem ok_Si_62 (f:Int) (p0:Ze) (g:Int) (a:Zb) (b:LI) (y) (hm:m_Si_62 f p0 g a b=some y) (Q)
  (hin:∀ s,y=.inl s→EE c_Si_36 K_Si_36 (s_Si_36 p0 s.1 s.2.1 s.2.2) Q) (hout:∀ e,y=.inr e→O_Si_36 Q e):EE c_Si_62 K_Si_62 (s_Si_62 f p0 g a b) Q:=by
 obtain ⟨h,c,hm⟩:=bind_some hm
 obtain ⟨d,hm⟩|⟨d,hm⟩:=split_ite hm
 ·have hQ:Q=Post vf_Si (res_Si false):=hout (.inl false) (qj hm).symm
  subst hQ
  exact ge (wO (.rows (mi (b.set (0+Int.toNat a.track) a.time)))<|wP (rd_in rfl c)<|wP (put_ob (rI .i64) a.time 0 (.lit (vI a.time)) (rd_get0 c) (by kernel_rfl) (by kernel_rfl))<|wL (rI .u8) a.data<|u1 d<|z0) (rfl:res_Si false=res_Si false) (by kernel_rfl)
 ·exact gw (hin _ (qj hm).symm) (wO (.rows (mi (b.set (0+Int.toNat a.track) a.time)))<|wP (rd_in rfl c)<|wP (put_ob (rI .i64) a.time 0 (.lit (vI a.time)) (rd_get0 c) (by kernel_rfl) (by kernel_rfl))<|wL (rI .u8) a.data<|v1 d<|wO (zn ((b.set (0+Int.toNat a.track) a.time).length))<|wP (lens b.length ((b.set (0+Int.toNat a.track) a.time).length) (set_len rfl))<|z0) (by kernel_rfl)
theorem ok_Si_74 (r:Bool) (hm:m_Si_74=some r):EE c_Si_74 K_Si_74 (s_Si_74) (Post vf_Si (res_Si r)):=by
 exact ge (z0) (congrArg res_Si (qj hm)) (by kernel_rfl)
theorem ok_Si_36 (p0:Ze) (t u:Int) (q:LI) (y) (hm:m_Si_36 p0 t u q=some y) (Q)
  (hin:∀ s,y=.inl s→EE c_Si_36 K_Si_36 (s_Si_36 p0 s.1 s.2.1 s.2.2) Q) (hout:∀ e,y=.inr e→O_Si_36 Q e):EE c_Si_36 K_Si_36 (s_Si_36 p0 t u q) Q:=by
 obtain ⟨j,hm⟩|⟨j,hm⟩:=split_ite hm
 ·obtain ⟨b,d,hm⟩:=bind_some hm
  obtain ⟨a,hm⟩|⟨a,hm⟩:=split_ite hm
  ·have hQ:Q=Post vf_Si (res_Si false):=hout (.inl false) (qj hm).symm
   subst hQ
   exact ge (u1 j<|wO (.row (rZb b))<|wP (rd_nn d)<|wP (at_row rZb (rd_get d))<|u4 a<|u3 a<|u4 eT<|u4 eT<|u3 eT<|z0) (rfl:res_Si false=res_Si false) (by kernel_rfl)
  ·obtain ⟨f,hm⟩|⟨f,hm⟩:=split_ite hm
   ·have hQ:Q=Post vf_Si (res_Si false):=hout (.inl false) (qj hm).symm
    subst hQ
    exact ge (u1 j<|wO (.row (rZb b))<|wP (rd_nn d)<|wP (at_row rZb (rd_get d))<|v4 a<|v1 a<|wL rZa p0.tracks<|v2 a<|u4 f<|u1 f<|u4 eT<|u2 eT<|z0) (rfl:res_Si false=res_Si false) (by kernel_rfl)
   ·obtain ⟨i,n,hm⟩:=bind_some hm
    obtain ⟨h,hm⟩|⟨h,hm⟩:=split_ite hm
    ·obtain ⟨k,p,hm⟩:=bind_some hm
     obtain ⟨o,hm⟩|⟨o,hm⟩:=split_ite hm
     ·obtain ⟨l,g,hm⟩:=bind_some hm
      obtain ⟨c,hm⟩|⟨c,hm⟩:=split_ite hm
      ·have hQ:Q=Post vf_Si (res_Si false):=hout (.inl false) (qj hm).symm
       subst hQ
       exact ge (u1 j<|wO (.row (rZb b))<|wP (rd_nn d)<|wP (at_row rZb (rd_get d))<|v4 a<|v1 a<|wL rZa p0.tracks<|v2 a<|v3 f<|wO (.res (res_Sj i))<|wP (ok_Sj b.time i n)<|v2 f<|v3 (not_f h)<|wO (.res (res_Sj k))<|wP (ok_Sj b.span k p)<|v2 (not_f h)<|v1 (not_f o)<|wO (.row ((rI .i64) l))<|wP (rd_in rfl g)<|wP (at_row (rI .i64) (rd_get0 g))<|u4 c<|u4 c<|u1 c<|u1 eT<|z0) (rfl:res_Si false=res_Si false) (by kernel_rfl)
      ·obtain ⟨m,hm⟩|⟨m,hm⟩:=split_ite hm
       ·obtain ⟨r,hm⟩|⟨r,hm⟩:=split_ite hm
        ·exact gw (ok_Si_62 _ _ _ _ _ y hm Q hin hout) (u1 j<|wO (.row (rZb b))<|wP (rd_nn d)<|wP (at_row rZb (rd_get d))<|v4 a<|v1 a<|wL rZa p0.tracks<|v2 a<|v3 f<|wO (.res (res_Sj i))<|wP (ok_Sj b.time i n)<|v2 f<|v3 (not_f h)<|wO (.res (res_Sj k))<|wP (ok_Sj b.span k p)<|v2 (not_f h)<|v1 (not_f o)<|wO (.row ((rI .i64) l))<|wP (rd_in rfl g)<|wP (at_row (rI .i64) (rd_get0 g))<|v4 c<|wP (rd_in rfl g)<|v1 c<|wO (.row ((rI .i64) l))<|wP (at_row (rI .i64) (rd_get0 g))<|v2 c<|u3 m<|v1 c<|u1 m<|v1 c<|v1 (not_f r)<|wN q.length<|z0) (by kernel_rfl)
        ·have hQ:Q=Post vf_Si (res_Si false):=hout (.inl false) (qj hm).symm
         subst hQ
         exact ge (u1 j<|wO (.row (rZb b))<|wP (rd_nn d)<|wP (at_row rZb (rd_get d))<|v4 a<|v1 a<|wL rZa p0.tracks<|v2 a<|v3 f<|wO (.res (res_Sj i))<|wP (ok_Sj b.time i n)<|v2 f<|v3 (not_f h)<|wO (.res (res_Sj k))<|wP (ok_Sj b.span k p)<|v2 (not_f h)<|v1 (not_f o)<|wO (.row ((rI .i64) l))<|wP (rd_in rfl g)<|wP (at_row (rI .i64) (rd_get0 g))<|v4 c<|wP (rd_in rfl g)<|v1 c<|wO (.row ((rI .i64) l))<|wP (at_row (rI .i64) (rd_get0 g))<|v2 c<|u3 m<|v1 c<|u1 m<|v1 c<|u1 (not_t r)<|z0) (rfl:res_Si false=res_Si false) (by kernel_rfl)
       ·exact gw (ok_Si_62 _ _ _ _ _ y hm Q hin hout) (u1 j<|wO (.row (rZb b))<|wP (rd_nn d)<|wP (at_row rZb (rd_get d))<|v4 a<|v1 a<|wL rZa p0.tracks<|v2 a<|v3 f<|wO (.res (res_Sj i))<|wP (ok_Sj b.time i n)<|v2 f<|v3 (not_f h)<|wO (.res (res_Sj k))<|wP (ok_Sj b.span k p)<|v2 (not_f h)<|v1 (not_f o)<|wO (.row ((rI .i64) l))<|wP (rd_in rfl g)<|wP (at_row (rI .i64) (rd_get0 g))<|v4 c<|wP (rd_in rfl g)<|v1 c<|wO (.row ((rI .i64) l))<|wP (at_row (rI .i64) (rd_get0 g))<|v2 c<|v3 m<|v1 c<|v1 m<|v1 c<|v1 eF<|wN q.length<|z0) (by kernel_rfl)
     ·have hQ:Q=Post vf_Si (res_Si false):=hout (.inl false) (qj hm).symm
      subst hQ
      exact ge (u1 j<|wO (.row (rZb b))<|wP (rd_nn d)<|wP (at_row rZb (rd_get d))<|v4 a<|v1 a<|wL rZa p0.tracks<|v2 a<|v3 f<|wO (.res (res_Sj i))<|wP (ok_Sj b.time i n)<|v2 f<|v3 (not_f h)<|wO (.res (res_Sj k))<|wP (ok_Sj b.span k p)<|v2 (not_f h)<|u1 (not_t o)<|z0) (rfl:res_Si false=res_Si false) (by kernel_rfl)
    ·have hQ:Q=Post vf_Si (res_Si false):=hout (.inl false) (qj hm).symm
     subst hQ
     exact ge (u1 j<|wO (.row (rZb b))<|wP (rd_nn d)<|wP (at_row rZb (rd_get d))<|v4 a<|v1 a<|wL rZa p0.tracks<|v2 a<|v3 f<|wO (.res (res_Sj i))<|wP (ok_Sj b.time i n)<|v2 f<|u4 (not_t h)<|u1 (not_t h)<|u1 eT<|z0) (rfl:res_Si false=res_Si false) (by kernel_rfl)
 ·refine gm c_Si_74 K_Si_74 (s_Si_74) (v1 j<|z0) ?_ (by kernel_rfl)
  exact hout (.inr ()) (qj hm).symm
theorem ok_Si_29 (p0:Ze) (a:LI) (r:Bool) (hm:m_Si_29 p0 a=some r):EE c_Si_29 K_Si_29 (s_Si_29 p0 a) (Post vf_Si (res_Si r)):=by
 refine gm c_Si_36 K_Si_36 (s_Si_36 p0 0 0 a) (wL rZb p0.packets<|wN a.length<|z0) ?_ (by kernel_rfl)
 obtain ⟨e,he,hm⟩:=bind_some hm
 refine loop_rule (u:=.c c_Si_36) (K:=K_Si_36) (Q:=(Post vf_Si (res_Si r))) (b:=lp_Si_36 p0) (We:=O_Si_36 (Post vf_Si (res_Si r))) (stJ:=fun s=>s_Si_36 p0 s.1 s.2.1 s.2.2) (s:=(0,0,a)) (fun s y hb hin hout=>ok_Si_36 p0 s.1 s.2.1 s.2.2 y hb (Post vf_Si (res_Si r)) hin hout) he ?_
 rcases e with e | e
 ·exact congrArg (fun r=>Post vf_Si (res_Si r)) (qj hm).symm
 ·show EE c_Si_74 K_Si_74 (s_Si_74) _
  exact ok_Si_74 r hm
theorem ok_Si_17 (p0:Ze) (d b:Int) (a:LI) (y) (hm:m_Si_17 p0 d b a=some y) (Q)
  (hin:∀ s,y=.inl s→EE c_Si_17 K_Si_17 (s_Si_17 p0 s.1 s.2.1 s.2.2) Q) (hout:∀ e,y=.inr e→O_Si_17 p0 Q e):EE c_Si_17 K_Si_17 (s_Si_17 p0 d b a) Q:=by
 obtain ⟨c,hm⟩|⟨c,hm⟩:=split_ite hm
 ·obtain ⟨g,f,hm⟩:=bind_some hm
  exact gw (hin _ (qj hm).symm) (u1 c<|wO (.rows (mi (a.set (0+Int.toNat b) (-1))))<|wO (zn ((a.set (0+Int.toNat b) (-1)).length))<|wP (rd_in rfl f)<|wP (put_ob (rI .i64) (-1) 0 (.lit (vI (-1))) (rd_get0 f) (by kernel_rfl) (by kernel_rfl))<|wP (lens a.length ((a.set (0+Int.toNat b) (-1)).length) (set_len rfl))<|z0) (by kernel_rfl)
 ·refine gm c_Si_29 K_Si_29 (s_Si_29 p0 a) (v1 c<|wN a.length<|z0) ?_ (by kernel_rfl)
  exact hout a (qj hm).symm
theorem ok_Si_0 (p0:Ze) (r:Bool) (hm:m_Si_0 p0=some r):EE c_Si_0 K_Si_0 (s_Si_0 p0) (Post vf_Si (res_Si r)):=by
 obtain ⟨d,f,hm⟩:=bind_some hm
 obtain ⟨a,hm⟩|⟨a,hm⟩:=split_ite hm
 ·obtain ⟨g,hm⟩|⟨g,hm⟩:=split_ite hm
  ·exact ge (wO (.res (res_Sl d))<|wP (ok_Sl p0.tracks d f)<|v3 (not_f a)<|wL rZb p0.packets<|v2 (not_f a)<|u1 g<|z0) (congrArg res_Si (qj hm)) (by kernel_rfl)
  ·obtain ⟨i,h,hm⟩:=bind_some hm
   refine gm c_Si_17 K_Si_17 (s_Si_17 p0 ((Int.toNat (p0.tracks.length:Int)):Int) 0 (List.replicate (Int.toNat (p0.tracks.length:Int)) (0:Int))) (wO (.res (res_Sl d))<|wP (ok_Sl p0.tracks d f)<|v3 (not_f a)<|wL rZb p0.packets<|v2 (not_f a)<|v1 g<|wL rZa p0.tracks<|wO (.rows (mi (List.replicate (Int.toNat (p0.tracks.length:Int)) (0:Int))))<|wO (zn (Int.toNat (p0.tracks.length:Int)))<|wO (zn ((List.replicate (Int.toNat (p0.tracks.length:Int)) (0:Int)).length))<|wP (ck_p h)<|wP (rep_ob (rI .i64) (Int.toNat (p0.tracks.length:Int)) (0:Int) [.lit (vI 0)] (by kernel_rfl))<|wP (len_map (rI .i64) (show (Int.toNat (p0.tracks.length:Int))=(List.replicate (Int.toNat (p0.tracks.length:Int)) (0:Int)).length from (rep_len (Int.toNat (p0.tracks.length:Int)) (0:Int))))<|wP (lens (Int.toNat (p0.tracks.length:Int)) ((List.replicate (Int.toNat (p0.tracks.length:Int)) (0:Int)).length) (rep_len (Int.toNat (p0.tracks.length:Int)) (0:Int)))<|z0) ?_ (by kernel_rfl)
   obtain ⟨e,he,hm⟩:=bind_some hm
   refine loop_rule (u:=.c c_Si_17) (K:=K_Si_17) (Q:=(Post vf_Si (res_Si r))) (b:=lp_Si_17 p0) (We:=O_Si_17 p0 (Post vf_Si (res_Si r))) (stJ:=fun s=>s_Si_17 p0 s.1 s.2.1 s.2.2) (s:=(((Int.toNat (p0.tracks.length:Int)):Int),0,(List.replicate (Int.toNat (p0.tracks.length:Int)) (0:Int)))) (fun s y hb hin hout=>ok_Si_17 p0 s.1 s.2.1 s.2.2 y hb (Post vf_Si (res_Si r)) hin hout) he ?_
   show EE c_Si_29 K_Si_29 (s_Si_29 p0 e) _
   exact ok_Si_29 p0 e r hm
 ·exact ge (wO (.res (res_Sl d))<|wP (ok_Sl p0.tracks d f)<|u4 (not_t a)<|u1 (not_t a)<|u1 eT<|z0) (congrArg res_Si (qj hm)) (by kernel_rfl)
theorem ok_Si (p0:Ze) (r:Bool) (hm:m_Si p0=some r):Runs ext tbl 103 (as_Si p0) (res_Si r):=
 runs_of (vf:=vf_Si) (by kernel_rfl) rfl (st:=(enter vf_Si (as_Si p0)).getD default) (by kernel_rfl) (go_on [] 1000 J0 (ok_Si_0 p0 r hm) (by kernel_rfl))
def O_Sc_15 (Q:VX→St→Prop) (e:(Bool)⊕((Unit))):Prop:=match e with | .inl e=>Q=Post vf_Sc (res_Sc e) | .inr e=>EE c_Sc_31 K_Sc_31 (s_Sc_31) Q
theorem ok_Sc_31 (r:Bool) (hm:m_Sc_31=some r):EE c_Sc_31 K_Sc_31 (s_Sc_31) (Post vf_Sc (res_Sc r)):=by
 exact ge (z0) (congrArg res_Sc (qj hm)) (by kernel_rfl)
theorem ok_Sc_15 (p0:Ze) (a:Int) (y) (hm:m_Sc_15 p0 a=some y) (Q)
  (hin:∀ s,y=.inl s→EE c_Sc_15 K_Sc_15 (s_Sc_15 p0 s) Q) (hout:∀ e,y=.inr e→O_Sc_15 Q e):EE c_Sc_15 K_Sc_15 (s_Sc_15 p0 a) Q:=by
 obtain ⟨b,hm⟩|⟨b,hm⟩:=split_ite hm
 ·obtain ⟨c,f,hm⟩:=bind_some hm
  obtain ⟨d,hm⟩|⟨d,hm⟩:=split_ite hm
  ·exact gw (hin _ (qj hm).symm) (wL rZb p0.packets<|u1 b<|wO (.res (res_Sh c))<|wP (ok_Sh p0 (w64 (a - 1)) a c f)<|v1 (not_f d)<|z0) (by kernel_rfl)
  ·have hQ:Q=Post vf_Sc (res_Sc false):=hout (.inl false) (qj hm).symm
   subst hQ
   exact ge (wL rZb p0.packets<|u1 b<|wO (.res (res_Sh c))<|wP (ok_Sh p0 (w64 (a - 1)) a c f)<|u1 (not_t d)<|z0) (rfl:res_Sc false=res_Sc false) (by kernel_rfl)
 ·refine gm c_Sc_31 K_Sc_31 (s_Sc_31) (wL rZb p0.packets<|v1 b<|z0) ?_ (by kernel_rfl)
  exact hout (.inr ()) (qj hm).symm
theorem ok_Sc_0 (p0:Ze) (r:Bool) (hm:m_Sc_0 p0=some r):EE c_Sc_0 K_Sc_0 (s_Sc_0 p0) (Post vf_Sc (res_Sc r)):=by
 obtain ⟨a,f,hm⟩:=bind_some hm
 obtain ⟨d,hm⟩|⟨d,hm⟩:=split_ite hm
 ·refine gm c_Sc_15 K_Sc_15 (s_Sc_15 p0 1) (wO (.res (res_Si a))<|wP (ok_Si p0 a f)<|v1 (not_f d)<|z0) ?_ (by kernel_rfl)
  obtain ⟨e,he,hm⟩:=bind_some hm
  refine loop_rule (u:=.c c_Sc_15) (K:=K_Sc_15) (Q:=(Post vf_Sc (res_Sc r))) (b:=lp_Sc_15 p0) (We:=O_Sc_15 (Post vf_Sc (res_Sc r))) (stJ:=fun s=>s_Sc_15 p0 s) (s:=1) (fun s y hb hin hout=>ok_Sc_15 p0 s y hb (Post vf_Sc (res_Sc r)) hin hout) he ?_
  rcases e with e | e
  ·exact congrArg (fun r=>Post vf_Sc (res_Sc r)) (qj hm).symm
  ·show EE c_Sc_31 K_Sc_31 (s_Sc_31) _
   exact ok_Sc_31 r hm
 ·exact ge (wO (.res (res_Si a))<|wP (ok_Si p0 a f)<|u1 (not_t d)<|z0) (congrArg res_Sc (qj hm)) (by kernel_rfl)
theorem ok_Sc (p0:Ze) (r:Bool) (hm:m_Sc p0=some r):Runs ext tbl 48 (as_Sc p0) (res_Sc r):=
 runs_of (vf:=vf_Sc) (by kernel_rfl) rfl (st:=(enter vf_Sc (as_Sc p0)).getD default) (by kernel_rfl) (go_on [] 1000 J0 (ok_Sc_0 p0 r hm) (by kernel_rfl))
theorem ok_Sn_12 (p0:Zc) (f r:Bool) (hm:m_Sn_12 p0 f=some r):EE c_Sn_12 K_Sn_12 (s_Sn_12 p0 f) (Post vf_Sn (res_Sn r)):=by
 obtain ⟨b,hm⟩|⟨b,hm⟩:=split_ite hm
 ·exact ge (u1 b<|z0) (congrArg res_Sn (qj hm)) (by kernel_rfl)
 ·obtain ⟨c,hm⟩|⟨c,hm⟩:=split_ite hm
  ·obtain ⟨a,hm⟩|⟨a,hm⟩:=split_ite hm
   ·exact ge (v1 b<|u1 c<|u4 a<|z0) (congrArg res_Sn (qj hm)) (by kernel_rfl)
   ·exact ge (v1 b<|u1 c<|v4 a<|z0) (congrArg res_Sn (qj hm)) (by kernel_rfl)
  ·obtain ⟨a,hm⟩|⟨a,hm⟩:=split_ite hm
   ·obtain ⟨d,hm⟩|⟨d,hm⟩:=split_ite hm
    ·exact ge (v1 b<|v1 c<|u1 a<|u4 d<|z0) (congrArg res_Sn (qj hm)) (by kernel_rfl)
    ·exact ge (v1 b<|v1 c<|u1 a<|v4 d<|z0) (congrArg res_Sn (qj hm)) (by kernel_rfl)
   ·obtain ⟨d,hm⟩|⟨d,hm⟩:=split_ite hm
    ·obtain ⟨e,hm⟩|⟨e,hm⟩:=split_ite hm
     ·exact ge (v1 b<|v1 c<|v1 a<|u1 d<|u4 e<|z0) (congrArg res_Sn (qj hm)) (by kernel_rfl)
     ·exact ge (v1 b<|v1 c<|v1 a<|u1 d<|v4 e<|z0) (congrArg res_Sn (qj hm)) (by kernel_rfl)
    ·exact ge (v1 b<|v1 c<|v1 a<|v1 d<|z0) (congrArg res_Sn (qj hm)) (by kernel_rfl)
theorem ok_Sn_0 (p0:Zc) (r:Bool) (hm:m_Sn_0 p0=some r):EE c_Sn_0 K_Sn_0 (s_Sn_0 p0) (Post vf_Sn (res_Sn r)):=by
 obtain ⟨a,hm⟩|⟨a,hm⟩:=split_ite hm
 ·exact gw (ok_Sn_12 _ _ r hm) (u1 a<|z0) (by kernel_rfl)
 ·exact gw (ok_Sn_12 _ _ r hm) (v1 a<|z0) (by kernel_rfl)
theorem ok_Sn (p0:Zc) (r:Bool) (hm:m_Sn p0=some r):Runs ext tbl 74 (as_Sn p0) (res_Sn r):=
 runs_of (vf:=vf_Sn) (by kernel_rfl) rfl (st:=(enter vf_Sn (as_Sn p0)).getD default) (by kernel_rfl) (go_on [] 1000 J0 (ok_Sn_0 p0 r hm) (by kernel_rfl))
theorem ok_So_0 (p0:Ze) (p1 r:Int) (hm:m_So_0 p0 p1=some r):EE c_So_0 K_So_0 (s_So_0 p0 p1) (Post vf_So (res_So r)):=by
 obtain ⟨c,a,hm⟩:=bind_some hm
 obtain ⟨d,b,hm⟩:=bind_some hm
 obtain ⟨f,e,hm⟩:=bind_some hm
 exact ge (wO (.row (rZb c))<|wO (.row (rZa d))<|wP (rd_nn a)<|wP (at_row rZb (rd_get a))<|wP (rd_nn b)<|wP (at_row rZa (rd_get b))<|wP (ck_p e)<|z0) (congrArg res_So (qj hm)) (by kernel_rfl)
theorem ok_So (p0:Ze) (p1 r:Int) (hm:m_So p0 p1=some r):Runs ext tbl 75 (as_So p0 p1) (res_So r):=
 runs_of (vf:=vf_So) (by kernel_rfl) rfl (st:=(enter vf_So (as_So p0 p1)).getD default) (by kernel_rfl) (go_on [] 1000 J0 (ok_So_0 p0 p1 r hm) (by kernel_rfl))
def O_Sr_6 (Q:VX→St→Prop) (e:Zi):Prop:=Q=Post vf_Sr (res_Sr e)
theorem ok_Sr_18 (b:Int) (p0:Zi) (c:Int) (d:Bool) (y) (hm:m_Sr_18 b p0 c d=some y) (Q)
  (hin:∀ s,y=.inl s→EE c_Sr_6 K_Sr_6 (s_Sr_6 p0 s.1 s.2) Q) (hout:∀ e,y=.inr e→O_Sr_6 Q e):EE c_Sr_18 K_Sr_18 (s_Sr_18 b p0 c d) Q:=by
 obtain ⟨a,hm⟩|⟨a,hm⟩:=split_ite hm
 ·obtain ⟨g,f,hm⟩:=bind_some hm
  exact gw (hin _ (qj hm).symm) (u1 a<|wO (.row ((rI .i64) g))<|wP (rd_in rfl f)<|wP (at_row (rI .i64) (rd_get0 f))<|wK p0.due.length p0.gone.length p0.drop.length<|wN p0.shows.length<|z0) (by kernel_rfl)
 ·exact gw (hin _ (qj hm).symm) (v1 a<|wK p0.due.length p0.gone.length p0.drop.length<|wN p0.shows.length<|z0) (by kernel_rfl)
theorem ok_Sr_6 (p0:Zi) (i d:Int) (y) (hm:m_Sr_6 p0 i d=some y) (Q)
  (hin:∀ s,y=.inl s→EE c_Sr_6 K_Sr_6 (s_Sr_6 p0 s.1 s.2) Q) (hout:∀ e,y=.inr e→O_Sr_6 Q e):EE c_Sr_6 K_Sr_6 (s_Sr_6 p0 i d) Q:=by
 obtain ⟨g,hm⟩|⟨g,hm⟩:=split_ite hm
 ·obtain ⟨h,f,hm⟩:=bind_some hm
  obtain ⟨a,hm⟩|⟨a,hm⟩:=split_ite hm
  ·exact gw (ok_Sr_18 _ _ _ _ y hm Q hin hout) (u1 g<|wO (.row (rB h))<|wP (rd_in rfl f)<|wP (at_row rB (rd_get0 f))<|v4 (not_f a)<|v4 (not_f a)<|wK p0.due.length p0.gone.length p0.drop.length<|wN p0.shows.length<|z0) (by kernel_rfl)
  ·obtain ⟨c,hm⟩|⟨c,hm⟩:=split_ite hm
   ·exact gw (ok_Sr_18 _ _ _ _ y hm Q hin hout) (u1 g<|wO (.row (rB h))<|wP (rd_in rfl f)<|wP (at_row rB (rd_get0 f))<|u4 (not_t a)<|u2 (not_t a)<|u4 c<|u4 c<|u4 c<|u1 (not_t a)<|u1 c<|u1 (not_t a)<|wK p0.due.length p0.gone.length p0.drop.length<|wN p0.shows.length<|z0) (by kernel_rfl)
   ·obtain ⟨k,j,hm⟩:=bind_some hm
    exact gw (ok_Sr_18 _ _ _ _ y hm Q hin hout) (u1 g<|wO (.row (rB h))<|wP (rd_in rfl f)<|wP (at_row rB (rd_get0 f))<|u4 (not_t a)<|u2 (not_t a)<|v4 c<|v2 c<|wP (rd_in rfl j)<|v1 c<|wO (.row ((rI .i64) k))<|wP (at_row (rI .i64) (rd_get0 j))<|v4 c<|v1 c<|u1 (not_t a)<|v1 c<|u1 (not_t a)<|wK p0.due.length p0.gone.length p0.drop.length<|wN p0.shows.length<|z0) (by kernel_rfl)
 ·have hQ:Q=Post vf_Sr (res_Sr (Zi.mk p0.b p0.due p0.speed p0.wall p0.clock p0.pace p0.playing p0.busy p0.gone p0.left d p0.drop p0.shows)):=hout (Zi.mk p0.b p0.due p0.speed p0.wall p0.clock p0.pace p0.playing p0.busy p0.gone p0.left d p0.drop p0.shows) (qj hm).symm
  subst hQ
  exact ge (v1 g<|wR (rI .i64) p0.due<|wR rB p0.gone<|wR rB p0.drop<|wR rZf p0.shows<|z0) (rfl:res_Sr (Zi.mk p0.b p0.due p0.speed p0.wall p0.clock p0.pace p0.playing p0.busy p0.gone p0.left d p0.drop p0.shows)=res_Sr (Zi.mk p0.b p0.due p0.speed p0.wall p0.clock p0.pace p0.playing p0.busy p0.gone p0.left d p0.drop p0.shows)) (by kernel_rfl)
theorem ok_Sr_0 (p0 r:Zi) (hm:m_Sr_0 p0=some r):EE c_Sr_0 K_Sr_0 (s_Sr_0 p0) (Post vf_Sr (res_Sr r)):=by
 refine gm c_Sr_6 K_Sr_6 (s_Sr_6 p0 0 (-1)) (wK p0.due.length p0.gone.length p0.drop.length<|wN p0.shows.length<|z0) ?_ (by kernel_rfl)
 obtain ⟨e,he,hm⟩:=bind_some hm
 refine loop_rule (u:=.c c_Sr_6) (K:=K_Sr_6) (Q:=(Post vf_Sr (res_Sr r))) (b:=lp_Sr_6 p0) (We:=O_Sr_6 (Post vf_Sr (res_Sr r))) (stJ:=fun s=>s_Sr_6 p0 s.1 s.2) (s:=(0,(-1))) (fun s y hb hin hout=>ok_Sr_6 p0 s.1 s.2 y hb (Post vf_Sr (res_Sr r)) hin hout) he ?_
 exact congrArg (fun r=>Post vf_Sr (res_Sr r)) (qj hm).symm
theorem ok_Sr (p0 r:Zi) (hm:m_Sr p0=some r):Runs ext tbl 76 (as_Sr p0) (res_Sr r):=
 runs_of (vf:=vf_Sr) (by kernel_rfl) rfl (st:=(enter vf_Sr (as_Sr p0)).getD default) (by kernel_rfl) (go_on [zn p0.due.length,zn p0.gone.length,zn p0.drop.length,zn p0.shows.length] 1000 (J (len_map (rI .i64) (rfl:p0.due.length=p0.due.length)) (J (len_map rB (rfl:p0.gone.length=p0.gone.length)) (J (len_map rB (rfl:p0.drop.length=p0.drop.length)) (J (len_map rZf (rfl:p0.shows.length=p0.shows.length)) J0)))) (ok_Sr_0 p0 r hm) (by kernel_rfl))
theorem ok_Sq_0 (p0:Zi) (r:Int×Zi) (hm:m_Sq_0 p0=some r):EE c_Sq_0 K_Sq_0 (s_Sq_0 p0) (Post vf_Sq (res_Sq r)):=by
 obtain ⟨a,hm⟩|⟨a,hm⟩:=split_ite hm
 ·exact ge (u1 a<|wR (rI .i64) p0.due<|wR rB p0.gone<|wR rB p0.drop<|wR rZf p0.shows<|z0) (congrArg res_Sq (qj hm)) (by kernel_rfl)
 ·exact ge (v1 a<|wR (rI .i64) p0.due<|wR rB p0.gone<|wR rB p0.drop<|wR rZf p0.shows<|z0) (congrArg res_Sq (qj hm)) (by kernel_rfl)
theorem ok_Sq (p0:Zi) (r:Int×Zi) (hm:m_Sq p0=some r):Runs ext tbl 124 (as_Sq p0) (res_Sq r):=
 runs_of (vf:=vf_Sq) (by kernel_rfl) rfl (st:=(enter vf_Sq (as_Sq p0)).getD default) (by kernel_rfl) (go_on [zn p0.due.length,zn p0.gone.length,zn p0.drop.length,zn p0.shows.length] 1000 (J (len_map (rI .i64) (rfl:p0.due.length=p0.due.length)) (J (len_map rB (rfl:p0.gone.length=p0.gone.length)) (J (len_map rB (rfl:p0.drop.length=p0.drop.length)) (J (len_map rZf (rfl:p0.shows.length=p0.shows.length)) J0)))) (ok_Sq_0 p0 r hm) (by kernel_rfl))
theorem ok_Sp_0 (p1:Int) (p0:Zi) (r:Int×Zi) (hm:m_Sp_0 p1 p0=some r):EE c_Sp_0 K_Sp_0 (s_Sp_0 p1 p0) (Post vf_Sp (res_Sp r)):=by
 obtain ⟨a,b,hm⟩:=bind_some hm
 obtain ⟨d,c,hm⟩:=bind_some hm
 exact ge (wO (.row (rZb a))<|wP (rd_nn b)<|wP (at_row rZb (rd_get b))<|wL (rI .u8) a.data<|wP (ck_p c)<|wR (rI .i64) p0.due<|wR rB p0.gone<|wR rB p0.drop<|wR rZf p0.shows<|z0) (congrArg res_Sp (qj hm)) (by kernel_rfl)
theorem ok_Sp (p0:Zi) (p1:Int) (r:Int×Zi) (hm:m_Sp p0 p1=some r):Runs ext tbl 125 (as_Sp p0 p1) (res_Sp r):=
 runs_of (vf:=vf_Sp) (by kernel_rfl) rfl (st:=(enter vf_Sp (as_Sp p0 p1)).getD default) (by kernel_rfl) (go_on [zn p0.due.length,zn p0.gone.length,zn p0.drop.length,zn p0.shows.length] 1000 (J (len_map (rI .i64) (rfl:p0.due.length=p0.due.length)) (J (len_map rB (rfl:p0.gone.length=p0.gone.length)) (J (len_map rB (rfl:p0.drop.length=p0.drop.length)) (J (len_map rZf (rfl:p0.shows.length=p0.shows.length)) J0)))) (ok_Sp_0 p1 p0 r hm) (by kernel_rfl))
def O_Ss_64 (Q:VX→St→Prop) (e:(LZ×LZa×Int×Int×Int×Int×Bool×Int×Int×Int×LI×LB×LB×LZc)):Prop:=EE c_Ss_82 K_Ss_82 (s_Ss_82 e.1 e.2.1 e.2.2.1 e.2.2.2.1 e.2.2.2.2.1 e.2.2.2.2.2.1 e.2.2.2.2.2.2.1 e.2.2.2.2.2.2.2.1 e.2.2.2.2.2.2.2.2.1 e.2.2.2.2.2.2.2.2.2.1 e.2.2.2.2.2.2.2.2.2.2.1 e.2.2.2.2.2.2.2.2.2.2.2.1 e.2.2.2.2.2.2.2.2.2.2.2.2.1 e.2.2.2.2.2.2.2.2.2.2.2.2.2) Q
def O_Ss_47 (p0:Zi) (a:Int) (b:LI) (Q:VX→St→Prop) (e:(LB)):Prop:=EE c_Ss_59 K_Ss_59 (s_Ss_59 p0 a b e) Q
def O_Ss_26 (p0:Zi) (a:Int) (Q:VX→St→Prop) (e:(LI)):Prop:=EE c_Ss_42 K_Ss_42 (s_Ss_42 p0 a e) Q
def O_Ss_9 (p0:Zi) (Q:VX→St→Prop) (e:(Int×LI)):Prop:=EE c_Ss_21 K_Ss_21 (s_Ss_21 p0 e.1 e.2) Q
theorem ok_Ss_38 (a:Int) (p0:Zi) (d:Int) (c:Zb) (b:LI) (g:Bool) (y) (hm:m_Ss_38 a p0 d c b g=some y) (Q)
  (hin:∀ s,y=.inl s→EE c_Ss_26 K_Ss_26 (s_Ss_26 p0 d s.1 s.2) Q) (hout:∀ e,y=.inr e→O_Ss_26 p0 d Q e):EE c_Ss_38 K_Ss_38 (s_Ss_38 a p0 d c b g) Q:=by
 obtain ⟨f,hm⟩|⟨f,hm⟩:=split_ite hm
 ·obtain ⟨i,h,hm⟩:=bind_some hm
  exact gw (hin _ (qj hm).symm) (u1 f<|wO (.rows (mi (b.set (0+Int.toNat c.track) a)))<|wO (zn ((b.set (0+Int.toNat c.track) a).length))<|wP (rd_in rfl h)<|wP (put_ob (rI .i64) a 0 (.lit (vI a)) (rd_get0 h) (by kernel_rfl) (by kernel_rfl))<|wP (lens b.length ((b.set (0+Int.toNat c.track) a).length) (set_len rfl))<|wK p0.due.length p0.gone.length p0.drop.length<|wN p0.shows.length<|z0) (by kernel_rfl)
 ·exact gw (hin _ (qj hm).symm) (v1 f<|wK b.length p0.due.length p0.gone.length<|wN p0.drop.length<|wN p0.shows.length<|z0) (by kernel_rfl)
theorem ok_Ss_78 (i:Int) (p0:Zi) (j:LZ) (k:LZa) (l m n o:Int) (p:Bool) (q r t:Int) (c d:LI) (f g:LB) (h:LZc) (v:Bool) (y) (hm:m_Ss_78 i p0 j k l m n o p q r t c d f g h v=some y) (Q)
  (hin:∀ s,y=.inl s→EE c_Ss_64 K_Ss_64 (s_Ss_64 p0 c s.1 s.2.1 s.2.2.1 s.2.2.2.1 s.2.2.2.2.1 s.2.2.2.2.2.1 s.2.2.2.2.2.2.1 s.2.2.2.2.2.2.2.1 s.2.2.2.2.2.2.2.2.1 s.2.2.2.2.2.2.2.2.2.1 s.2.2.2.2.2.2.2.2.2.2.1 s.2.2.2.2.2.2.2.2.2.2.2.1 s.2.2.2.2.2.2.2.2.2.2.2.2.1 s.2.2.2.2.2.2.2.2.2.2.2.2.2.1 s.2.2.2.2.2.2.2.2.2.2.2.2.2.2) Q) (hout:∀ e,y=.inr e→O_Ss_64 Q e):EE c_Ss_78 K_Ss_78 (s_Ss_78 i p0 j k l m n o p q r t c d f g h v) Q:=by
 obtain ⟨u,hm⟩|⟨u,hm⟩:=split_ite hm
 ·obtain ⟨a,w,hm⟩:=bind_some hm
  obtain ⟨b,x,hm⟩:=bind_some hm
  exact gw (hin _ (qj hm).symm) (u1 u<|wR (rI .i64) d<|wR rB f<|wR rB g<|wR rZf h<|wO (.res (res_Sq a))<|wP (ok_Sq (Zi.mk (Ze.mk j k) d l m n o p q f r t g h) a w)<|wL (rI .i64) a.2.due<|wL rB a.2.gone<|wL rB a.2.drop<|wL rZf a.2.shows<|wR (rI .i64) a.2.due<|wR rB a.2.gone<|wR rB a.2.drop<|wR rZf a.2.shows<|wO (.res (res_Sp b))<|wP (ok_Sp a.2 i b x)<|wL (rI .i64) b.2.due<|wL rB b.2.gone<|wL rB b.2.drop<|wL rZf b.2.shows<|wK c.length b.2.due.length b.2.gone.length<|wN b.2.drop.length<|wN b.2.shows.length<|z0) (by kernel_rfl)
 ·exact gw (hin _ (qj hm).symm) (v1 u<|wK c.length d.length f.length<|wN g.length<|wN h.length<|z0) (by kernel_rfl)
theorem ok_Ss_76 (i:Int) (p0:Zi) (j:LZ) (k:LZa) (l m n o:Int) (p:Bool) (q r t:Int) (u:Zb) (b c:LI) (d:LB) (f:LZc) (g:LB) (y) (hm:m_Ss_76 i p0 j k l m n o p q r t u b c d f g=some y) (Q)
  (hin:∀ s,y=.inl s→EE c_Ss_64 K_Ss_64 (s_Ss_64 p0 b s.1 s.2.1 s.2.2.1 s.2.2.2.1 s.2.2.2.2.1 s.2.2.2.2.2.1 s.2.2.2.2.2.2.1 s.2.2.2.2.2.2.2.1 s.2.2.2.2.2.2.2.2.1 s.2.2.2.2.2.2.2.2.2.1 s.2.2.2.2.2.2.2.2.2.2.1 s.2.2.2.2.2.2.2.2.2.2.2.1 s.2.2.2.2.2.2.2.2.2.2.2.2.1 s.2.2.2.2.2.2.2.2.2.2.2.2.2.1 s.2.2.2.2.2.2.2.2.2.2.2.2.2.2) Q) (hout:∀ e,y=.inr e→O_Ss_64 Q e):EE c_Ss_76 K_Ss_76 (s_Ss_76 i p0 j k l m n o p q r t u b c d f g) Q:=by
 obtain ⟨v,h,hm⟩:=bind_some hm
 obtain ⟨a,hm⟩|⟨a,hm⟩:=split_ite hm
 ·obtain ⟨x,w,hm⟩:=bind_some hm
  exact gw (ok_Ss_78 _ _ _ _ _ _ _ _ _ _ _ _ _ _ _ _ _ _ y hm Q hin hout) (wO (.row ((rI .i64) v))<|wP (rd_in rfl h)<|wP (at_row (rI .i64) (rd_get0 h))<|u4 a<|u2 a<|wP (rd_in rfl w)<|u1 a<|wO (.row ((rI .i64) x))<|wP (at_row (rI .i64) (rd_get0 w))<|u4 a<|u2 a<|wK b.length c.length g.length<|wN d.length<|wN f.length<|z0) (by kernel_rfl)
 ·exact gw (ok_Ss_78 _ _ _ _ _ _ _ _ _ _ _ _ _ _ _ _ _ _ y hm Q hin hout) (wO (.row ((rI .i64) v))<|wP (rd_in rfl h)<|wP (at_row (rI .i64) (rd_get0 h))<|v4 a<|v4 a<|v4 a<|v1 a<|wK b.length c.length g.length<|wN d.length<|wN f.length<|z0) (by kernel_rfl)
theorem ok_Ss_82 (f:LZ) (g:LZa) (h i j k:Int) (l:Bool) (m n o:Int) (b:LI) (c d:LB) (e:LZc) (r:Zi) (hm:m_Ss_82 f g h i j k l m n o b c d e=some r):EE c_Ss_82 K_Ss_82 (s_Ss_82 f g h i j k l m n o b c d e) (Post vf_Ss (res_Ss r)):=by
 obtain ⟨a,p,hm⟩:=bind_some hm
 exact ge (wR (rI .i64) b<|wR rB c<|wR rB d<|wR rZf e<|wO (.res (res_Sr a))<|wP (ok_Sr (Zi.mk (Ze.mk f g) b h i j k l m c n o d e) a p)<|wL (rI .i64) a.due<|wL rB a.gone<|wL rB a.drop<|wL rZf a.shows<|wR (rI .i64) a.due<|wR rB a.gone<|wR rB a.drop<|wR rZf a.shows<|z0) (congrArg res_Ss (qj hm)) (by kernel_rfl)
theorem ok_Ss_64 (p0:Zi) (j:LI) (d:Int) (l:LZ) (m:LZa) (n o c p:Int) (q:Bool) (r t u:Int) (f:LI) (a g:LB) (h:LZc) (y) (hm:m_Ss_64 p0 j d l m n o c p q r t u f a g h=some y) (Q)
  (hin:∀ s,y=.inl s→EE c_Ss_64 K_Ss_64 (s_Ss_64 p0 j s.1 s.2.1 s.2.2.1 s.2.2.2.1 s.2.2.2.2.1 s.2.2.2.2.2.1 s.2.2.2.2.2.2.1 s.2.2.2.2.2.2.2.1 s.2.2.2.2.2.2.2.2.1 s.2.2.2.2.2.2.2.2.2.1 s.2.2.2.2.2.2.2.2.2.2.1 s.2.2.2.2.2.2.2.2.2.2.2.1 s.2.2.2.2.2.2.2.2.2.2.2.2.1 s.2.2.2.2.2.2.2.2.2.2.2.2.2.1 s.2.2.2.2.2.2.2.2.2.2.2.2.2.2) Q) (hout:∀ e,y=.inr e→O_Ss_64 Q e):EE c_Ss_64 K_Ss_64 (s_Ss_64 p0 j d l m n o c p q r t u f a g h) Q:=by
 obtain ⟨v,hm⟩|⟨v,hm⟩:=split_ite hm
 ·obtain ⟨z,w,hm⟩:=bind_some hm
  obtain ⟨A,x,hm⟩:=bind_some hm
  obtain ⟨b,hm⟩|⟨b,hm⟩:=split_ite hm
  ·obtain ⟨i,k,hm⟩:=bind_some hm
   exact gw (ok_Ss_76 _ _ _ _ _ _ _ _ _ _ _ _ _ _ _ _ _ _ y hm Q hin hout) (u1 v<|wO (.row (rZb z))<|wO (.row ((rI .i64) A))<|wP (rd_nn w)<|wP (at_row rZb (rd_get w))<|wP (rd_in rfl x)<|wP (at_row (rI .i64) (rd_get0 x))<|u4 b<|u4 b<|u4 b<|u1 b<|wO (.rows (mb (a.set (0+Int.toNat d) true)))<|wP (rd_in rfl k)<|wP (put_ob rB true 0 (.lit (.bool true)) (rd_get0 k) (by kernel_rfl) (by kernel_rfl))<|wN j.length<|wN f.length<|wO (zn ((a.set (0+Int.toNat d) true).length))<|wP (lens a.length ((a.set (0+Int.toNat d) true).length) (set_len rfl))<|wN g.length<|wN h.length<|z0) (by kernel_rfl)
  ·obtain ⟨i,k,hm⟩:=bind_some hm
   obtain ⟨C,B,hm⟩:=bind_some hm
   exact gw (ok_Ss_76 _ _ _ _ _ _ _ _ _ _ _ _ _ _ _ _ _ _ y hm Q hin hout) (u1 v<|wO (.row (rZb z))<|wO (.row ((rI .i64) A))<|wP (rd_nn w)<|wP (at_row rZb (rd_get w))<|wP (rd_in rfl x)<|wP (at_row (rI .i64) (rd_get0 x))<|v4 b<|v2 b<|wP (rd_in rfl k)<|v1 b<|wO (.row ((rI .i64) i))<|wP (at_row (rI .i64) (rd_get0 k))<|v4 b<|v2 b<|wO (.rows (mb (a.set (0+Int.toNat d) (decide (i < c)))))<|wP (rd_in rfl B)<|wP (put_ob rB (decide (i < c)) 0 (.lit (.bool (decide (i < c)))) (rd_get0 B) (by kernel_rfl) (by kernel_rfl))<|wN j.length<|wN f.length<|wO (zn ((a.set (0+Int.toNat d) (decide (i < c))).length))<|wP (lens a.length ((a.set (0+Int.toNat d) (decide (i < c))).length) (set_len rfl))<|wN g.length<|wN h.length<|z0) (by kernel_rfl)
 ·refine gm c_Ss_82 K_Ss_82 (s_Ss_82 l m n o c p q r t u f a g h) (v1 v<|wK f.length a.length g.length<|wN h.length<|z0) ?_ (by kernel_rfl)
  exact hout (l,m,n,o,c,p,q,r,t,u,f,a,g,h) (qj hm).symm
theorem ok_Ss_59 (p0:Zi) (f:Int) (a:LI) (d:LB) (r:Zi) (hm:m_Ss_59 p0 f a d=some r):EE c_Ss_59 K_Ss_59 (s_Ss_59 p0 f a d) (Post vf_Ss (res_Ss r)):=by
 refine gm c_Ss_64 K_Ss_64 (s_Ss_64 p0 a 0 p0.b.tracks p0.b.packets p0.speed p0.wall f p0.pace p0.playing p0.busy p0.left p0.soon p0.due p0.gone d p0.shows) (wL rZb p0.b.packets<|wK a.length p0.due.length p0.gone.length<|wN d.length<|wN p0.shows.length<|z0) ?_ (by kernel_rfl)
 obtain ⟨e,he,hm⟩:=bind_some hm
 refine loop_rule (u:=.c c_Ss_64) (K:=K_Ss_64) (Q:=(Post vf_Ss (res_Ss r))) (b:=lp_Ss_64 p0 a) (We:=O_Ss_64 (Post vf_Ss (res_Ss r))) (stJ:=fun s=>s_Ss_64 p0 a s.1 s.2.1 s.2.2.1 s.2.2.2.1 s.2.2.2.2.1 s.2.2.2.2.2.1 s.2.2.2.2.2.2.1 s.2.2.2.2.2.2.2.1 s.2.2.2.2.2.2.2.2.1 s.2.2.2.2.2.2.2.2.2.1 s.2.2.2.2.2.2.2.2.2.2.1 s.2.2.2.2.2.2.2.2.2.2.2.1 s.2.2.2.2.2.2.2.2.2.2.2.2.1 s.2.2.2.2.2.2.2.2.2.2.2.2.2.1 s.2.2.2.2.2.2.2.2.2.2.2.2.2.2) (s:=(0,p0.b.tracks,p0.b.packets,p0.speed,p0.wall,f,p0.pace,p0.playing,p0.busy,p0.left,p0.soon,p0.due,p0.gone,d,p0.shows)) (fun s y hb hin hout=>ok_Ss_64 p0 a s.1 s.2.1 s.2.2.1 s.2.2.2.1 s.2.2.2.2.1 s.2.2.2.2.2.1 s.2.2.2.2.2.2.1 s.2.2.2.2.2.2.2.1 s.2.2.2.2.2.2.2.2.1 s.2.2.2.2.2.2.2.2.2.1 s.2.2.2.2.2.2.2.2.2.2.1 s.2.2.2.2.2.2.2.2.2.2.2.1 s.2.2.2.2.2.2.2.2.2.2.2.2.1 s.2.2.2.2.2.2.2.2.2.2.2.2.2.1 s.2.2.2.2.2.2.2.2.2.2.2.2.2.2 y hb (Post vf_Ss (res_Ss r)) hin hout) he ?_
 show EE c_Ss_82 K_Ss_82 (s_Ss_82 e.1 e.2.1 e.2.2.1 e.2.2.2.1 e.2.2.2.2.1 e.2.2.2.2.2.1 e.2.2.2.2.2.2.1 e.2.2.2.2.2.2.2.1 e.2.2.2.2.2.2.2.2.1 e.2.2.2.2.2.2.2.2.2.1 e.2.2.2.2.2.2.2.2.2.2.1 e.2.2.2.2.2.2.2.2.2.2.2.1 e.2.2.2.2.2.2.2.2.2.2.2.2.1 e.2.2.2.2.2.2.2.2.2.2.2.2.2) _
 exact ok_Ss_82 e.1 e.2.1 e.2.2.1 e.2.2.2.1 e.2.2.2.2.1 e.2.2.2.2.2.1 e.2.2.2.2.2.2.1 e.2.2.2.2.2.2.2.1 e.2.2.2.2.2.2.2.2.1 e.2.2.2.2.2.2.2.2.2.1 e.2.2.2.2.2.2.2.2.2.2.1 e.2.2.2.2.2.2.2.2.2.2.2.1 e.2.2.2.2.2.2.2.2.2.2.2.2.1 e.2.2.2.2.2.2.2.2.2.2.2.2.2 r hm
theorem ok_Ss_47 (p0:Zi) (c:Int) (b:LI) (d:Int) (a:LB) (y) (hm:m_Ss_47 p0 c b d a=some y) (Q)
  (hin:∀ s,y=.inl s→EE c_Ss_47 K_Ss_47 (s_Ss_47 p0 c b s.1 s.2) Q) (hout:∀ e,y=.inr e→O_Ss_47 p0 c b Q e):EE c_Ss_47 K_Ss_47 (s_Ss_47 p0 c b d a) Q:=by
 obtain ⟨f,hm⟩|⟨f,hm⟩:=split_ite hm
 ·obtain ⟨h,g,hm⟩:=bind_some hm
  exact gw (hin _ (qj hm).symm) (u1 f<|wO (.rows (mb (a.set (0+Int.toNat d) false)))<|wP (rd_in rfl g)<|wP (put_ob rB false 0 (.lit (.bool false)) (rd_get0 g) (by kernel_rfl) (by kernel_rfl))<|wK b.length p0.due.length p0.gone.length<|wO (zn ((a.set (0+Int.toNat d) false).length))<|wP (lens a.length ((a.set (0+Int.toNat d) false).length) (set_len rfl))<|wN p0.shows.length<|z0) (by kernel_rfl)
 ·refine gm c_Ss_59 K_Ss_59 (s_Ss_59 p0 c b a) (v1 f<|wK b.length p0.due.length p0.gone.length<|wN a.length<|wN p0.shows.length<|z0) ?_ (by kernel_rfl)
  exact hout a (qj hm).symm
theorem ok_Ss_42 (p0:Zi) (d:Int) (a:LI) (r:Zi) (hm:m_Ss_42 p0 d a=some r):EE c_Ss_42 K_Ss_42 (s_Ss_42 p0 d a) (Post vf_Ss (res_Ss r)):=by
 refine gm c_Ss_47 K_Ss_47 (s_Ss_47 p0 d a 0 p0.drop) (wK a.length p0.due.length p0.gone.length<|wN p0.drop.length<|wN p0.shows.length<|z0) ?_ (by kernel_rfl)
 obtain ⟨e,he,hm⟩:=bind_some hm
 refine loop_rule (u:=.c c_Ss_47) (K:=K_Ss_47) (Q:=(Post vf_Ss (res_Ss r))) (b:=lp_Ss_47 p0 d a) (We:=O_Ss_47 p0 d a (Post vf_Ss (res_Ss r))) (stJ:=fun s=>s_Ss_47 p0 d a s.1 s.2) (s:=(0,p0.drop)) (fun s y hb hin hout=>ok_Ss_47 p0 d a s.1 s.2 y hb (Post vf_Ss (res_Ss r)) hin hout) he ?_
 show EE c_Ss_59 K_Ss_59 (s_Ss_59 p0 d a e) _
 exact ok_Ss_59 p0 d a e r hm
theorem ok_Ss_26 (p0:Zi) (j n:Int) (f:LI) (y) (hm:m_Ss_26 p0 j n f=some y) (Q)
  (hin:∀ s,y=.inl s→EE c_Ss_26 K_Ss_26 (s_Ss_26 p0 j s.1 s.2) Q) (hout:∀ e,y=.inr e→O_Ss_26 p0 j Q e):EE c_Ss_26 K_Ss_26 (s_Ss_26 p0 j n f) Q:=by
 obtain ⟨i,hm⟩|⟨i,hm⟩:=split_ite hm
 ·obtain ⟨k,g,hm⟩:=bind_some hm
  obtain ⟨h,c,hm⟩:=bind_some hm
  obtain ⟨a,hm⟩|⟨a,hm⟩:=split_ite hm
  ·obtain ⟨m,d,hm⟩:=bind_some hm
   obtain ⟨b,hm⟩|⟨b,hm⟩:=split_ite hm
   ·exact gw (ok_Ss_38 _ _ _ _ _ _ y hm Q hin hout) (u1 i<|wO (.row (rZb k))<|wO (.row ((rI .i64) h))<|wP (rd_nn g)<|wP (at_row rZb (rd_get g))<|wP (rd_in rfl c)<|wP (at_row (rI .i64) (rd_get0 c))<|u4 a<|wP (rd_in rfl d)<|u1 a<|wO (.row ((rI .i64) m))<|wP (at_row (rI .i64) (rd_get0 d))<|u4 a<|u3 a<|u4 b<|u4 b<|u4 b<|u3 b<|wK f.length p0.due.length p0.gone.length<|wN p0.drop.length<|wN p0.shows.length<|z0) (by kernel_rfl)
   ·obtain ⟨l,hm⟩|⟨l,hm⟩:=split_ite hm
    ·exact gw (ok_Ss_38 _ _ _ _ _ _ y hm Q hin hout) (u1 i<|wO (.row (rZb k))<|wO (.row ((rI .i64) h))<|wP (rd_nn g)<|wP (at_row rZb (rd_get g))<|wP (rd_in rfl c)<|wP (at_row (rI .i64) (rd_get0 c))<|u4 a<|wP (rd_in rfl d)<|u1 a<|wO (.row ((rI .i64) m))<|wP (at_row (rI .i64) (rd_get0 d))<|u4 a<|u3 a<|v4 b<|v2 b<|wP (rd_in rfl c)<|v1 b<|wO (.row ((rI .i64) h))<|wP (at_row (rI .i64) (rd_get0 c))<|v4 b<|v2 b<|u2 l<|v1 b<|u1 l<|v1 b<|wK f.length p0.due.length p0.gone.length<|wN p0.drop.length<|wN p0.shows.length<|z0) (by kernel_rfl)
    ·exact gw (ok_Ss_38 _ _ _ _ _ _ y hm Q hin hout) (u1 i<|wO (.row (rZb k))<|wO (.row ((rI .i64) h))<|wP (rd_nn g)<|wP (at_row rZb (rd_get g))<|wP (rd_in rfl c)<|wP (at_row (rI .i64) (rd_get0 c))<|u4 a<|wP (rd_in rfl d)<|u1 a<|wO (.row ((rI .i64) m))<|wP (at_row (rI .i64) (rd_get0 d))<|u4 a<|u3 a<|v4 b<|v2 b<|wP (rd_in rfl c)<|v1 b<|wO (.row ((rI .i64) h))<|wP (at_row (rI .i64) (rd_get0 c))<|v4 b<|v2 b<|v2 l<|v1 b<|v1 l<|v1 b<|wK f.length p0.due.length p0.gone.length<|wN p0.drop.length<|wN p0.shows.length<|z0) (by kernel_rfl)
  ·obtain ⟨d,hm⟩|⟨d,hm⟩:=split_ite hm
   ·exact gw (ok_Ss_38 _ _ _ _ _ _ y hm Q hin hout) (u1 i<|wO (.row (rZb k))<|wO (.row ((rI .i64) h))<|wP (rd_nn g)<|wP (at_row rZb (rd_get g))<|wP (rd_in rfl c)<|wP (at_row (rI .i64) (rd_get0 c))<|v4 a<|v4 a<|v4 a<|v4 eF<|v2 eF<|wP (rd_in rfl c)<|v1 eF<|wO (.row ((rI .i64) h))<|wP (at_row (rI .i64) (rd_get0 c))<|v4 eF<|v2 eF<|u2 d<|v1 eF<|u1 d<|v1 eF<|wK f.length p0.due.length p0.gone.length<|wN p0.drop.length<|wN p0.shows.length<|z0) (by kernel_rfl)
   ·exact gw (ok_Ss_38 _ _ _ _ _ _ y hm Q hin hout) (u1 i<|wO (.row (rZb k))<|wO (.row ((rI .i64) h))<|wP (rd_nn g)<|wP (at_row rZb (rd_get g))<|wP (rd_in rfl c)<|wP (at_row (rI .i64) (rd_get0 c))<|v4 a<|v4 a<|v4 a<|v4 eF<|v2 eF<|wP (rd_in rfl c)<|v1 eF<|wO (.row ((rI .i64) h))<|wP (at_row (rI .i64) (rd_get0 c))<|v4 eF<|v2 eF<|v2 d<|v1 eF<|v1 d<|v1 eF<|wK f.length p0.due.length p0.gone.length<|wN p0.drop.length<|wN p0.shows.length<|z0) (by kernel_rfl)
 ·refine gm c_Ss_42 K_Ss_42 (s_Ss_42 p0 j f) (v1 i<|wK f.length p0.due.length p0.gone.length<|wN p0.drop.length<|wN p0.shows.length<|z0) ?_ (by kernel_rfl)
  exact hout f (qj hm).symm
theorem ok_Ss_21 (p0:Zi) (a:Int) (d:LI) (r:Zi) (hm:m_Ss_21 p0 a d=some r):EE c_Ss_21 K_Ss_21 (s_Ss_21 p0 a d) (Post vf_Ss (res_Ss r)):=by
 refine gm c_Ss_26 K_Ss_26 (s_Ss_26 p0 a 0 d) (wL rZb p0.b.packets<|wK d.length p0.due.length p0.gone.length<|wN p0.drop.length<|wN p0.shows.length<|z0) ?_ (by kernel_rfl)
 obtain ⟨e,he,hm⟩:=bind_some hm
 refine loop_rule (u:=.c c_Ss_26) (K:=K_Ss_26) (Q:=(Post vf_Ss (res_Ss r))) (b:=lp_Ss_26 p0 a) (We:=O_Ss_26 p0 a (Post vf_Ss (res_Ss r))) (stJ:=fun s=>s_Ss_26 p0 a s.1 s.2) (s:=(0,d)) (fun s y hb hin hout=>ok_Ss_26 p0 a s.1 s.2 y hb (Post vf_Ss (res_Ss r)) hin hout) he ?_
 show EE c_Ss_42 K_Ss_42 (s_Ss_42 p0 a e) _
 exact ok_Ss_42 p0 a e r hm
theorem ok_Ss_9 (p0:Zi) (f b c:Int) (a:LI) (y) (hm:m_Ss_9 p0 f b c a=some y) (Q)
  (hin:∀ s,y=.inl s→EE c_Ss_9 K_Ss_9 (s_Ss_9 p0 s.1 s.2.1 s.2.2.1 s.2.2.2) Q) (hout:∀ e,y=.inr e→O_Ss_9 p0 Q e):EE c_Ss_9 K_Ss_9 (s_Ss_9 p0 f b c a) Q:=by
 obtain ⟨d,hm⟩|⟨d,hm⟩:=split_ite hm
 ·obtain ⟨h,g,hm⟩:=bind_some hm
  exact gw (hin _ (qj hm).symm) (u1 d<|wO (.rows (mi (a.set (0+Int.toNat b) (p0.due.length:Int))))<|wO (zn ((a.set (0+Int.toNat b) (p0.due.length:Int)).length))<|wP (rd_in rfl g)<|wP (put_ob (rI .i64) (p0.due.length:Int) 0 (.lit (vI (p0.due.length:Int))) (rd_get0 g) (by kernel_rfl) (by kernel_rfl))<|wP (lens a.length ((a.set (0+Int.toNat b) (p0.due.length:Int)).length) (set_len rfl))<|wK p0.due.length p0.gone.length p0.drop.length<|wN p0.shows.length<|z0) (by kernel_rfl)
 ·refine gm c_Ss_21 K_Ss_21 (s_Ss_21 p0 c a) (v1 d<|wK a.length p0.due.length p0.gone.length<|wN p0.drop.length<|wN p0.shows.length<|z0) ?_ (by kernel_rfl)
  exact hout (c,a) (qj hm).symm
theorem ok_Ss_0 (p1:Int) (p0 r:Zi) (hm:m_Ss_0 p1 p0=some r):EE c_Ss_0 K_Ss_0 (s_Ss_0 p1 p0) (Post vf_Ss (res_Ss r)):=by
 obtain ⟨d,a,hm⟩:=bind_some hm
 refine gm c_Ss_9 K_Ss_9 (s_Ss_9 p0 ((Int.toNat (p0.b.tracks.length:Int)):Int) 0 (w64 (p1*1000)) (List.replicate (Int.toNat (p0.b.tracks.length:Int)) (0:Int))) (wL rZa p0.b.tracks<|wO (.rows (mi (List.replicate (Int.toNat (p0.b.tracks.length:Int)) (0:Int))))<|wO (zn (Int.toNat (p0.b.tracks.length:Int)))<|wO (zn ((List.replicate (Int.toNat (p0.b.tracks.length:Int)) (0:Int)).length))<|wP (ck_p a)<|wP (rep_ob (rI .i64) (Int.toNat (p0.b.tracks.length:Int)) (0:Int) [.lit (vI 0)] (by kernel_rfl))<|wP (len_map (rI .i64) (show (Int.toNat (p0.b.tracks.length:Int))=(List.replicate (Int.toNat (p0.b.tracks.length:Int)) (0:Int)).length from (rep_len (Int.toNat (p0.b.tracks.length:Int)) (0:Int))))<|wP (lens (Int.toNat (p0.b.tracks.length:Int)) ((List.replicate (Int.toNat (p0.b.tracks.length:Int)) (0:Int)).length) (rep_len (Int.toNat (p0.b.tracks.length:Int)) (0:Int)))<|wK p0.due.length p0.gone.length p0.drop.length<|wN p0.shows.length<|z0) ?_ (by kernel_rfl)
 obtain ⟨e,he,hm⟩:=bind_some hm
 refine loop_rule (u:=.c c_Ss_9) (K:=K_Ss_9) (Q:=(Post vf_Ss (res_Ss r))) (b:=lp_Ss_9 p0) (We:=O_Ss_9 p0 (Post vf_Ss (res_Ss r))) (stJ:=fun s=>s_Ss_9 p0 s.1 s.2.1 s.2.2.1 s.2.2.2) (s:=(((Int.toNat (p0.b.tracks.length:Int)):Int),0,(w64 (p1*1000)),(List.replicate (Int.toNat (p0.b.tracks.length:Int)) (0:Int)))) (fun s y hb hin hout=>ok_Ss_9 p0 s.1 s.2.1 s.2.2.1 s.2.2.2 y hb (Post vf_Ss (res_Ss r)) hin hout) he ?_
 show EE c_Ss_21 K_Ss_21 (s_Ss_21 p0 e.1 e.2) _
 exact ok_Ss_21 p0 e.1 e.2 r hm
theorem ok_Ss (p0:Zi) (p1:Int) (r:Zi) (hm:m_Ss p0 p1=some r):Runs ext tbl 77 (as_Ss p0 p1) (res_Ss r):=
 runs_of (vf:=vf_Ss) (by kernel_rfl) rfl (st:=(enter vf_Ss (as_Ss p0 p1)).getD default) (by kernel_rfl) (go_on [zn p0.due.length,zn p0.gone.length,zn p0.drop.length,zn p0.shows.length] 1000 (J (len_map (rI .i64) (rfl:p0.due.length=p0.due.length)) (J (len_map rB (rfl:p0.gone.length=p0.gone.length)) (J (len_map rB (rfl:p0.drop.length=p0.drop.length)) (J (len_map rZf (rfl:p0.shows.length=p0.shows.length)) J0)))) (ok_Ss_0 p1 p0 r hm) (by kernel_rfl))
theorem ok_St_24 (p1:Int) (a:Int×Zi) (d:Zb) (c:LB) (e:Int) (r:Zi) (hm:m_St_24 p1 a d c e=some r):EE c_St_24 K_St_24 (s_St_24 p1 a d c e) (Post vf_St (res_St r)):=by
 obtain ⟨b,f,hm⟩:=bind_some hm
 obtain ⟨h,g,hm⟩:=bind_some hm
 exact ge (wO (.row (rB b))<|wO (.rows (List.map rZf ([(Zf.mk a.2.wall (w64 (Int.tdiv a.2.clock 1000)) p1 b)]:LZc)))<|wO (zn 1)<|wO (.rows (List.map rZf (a.2.shows++([(Zf.mk a.2.wall (w64 (Int.tdiv a.2.clock 1000)) p1 b)]:LZc))))<|wO (zn ((a.2.shows++([(Zf.mk a.2.wall (w64 (Int.tdiv a.2.clock 1000)) p1 b)]:LZc)).length))<|wO (zi a.2.due)<|wO (zb a.2.gone)<|wO (zb c)<|wO (.rows (List.map rZf (a.2.shows++([(Zf.mk a.2.wall (w64 (Int.tdiv a.2.clock 1000)) p1 b)]:LZc))))<|wP (by decide:(1000:Int)≠0)<|wP (rd_in rfl f)<|wP (at_row rB (rd_get0 f))<|wP (Eq.refl (List.map rZf ([(Zf.mk a.2.wall (w64 (Int.tdiv a.2.clock 1000)) p1 b)]:LZc)))<|wP (len_map rZf (show 1=([(Zf.mk a.2.wall (w64 (Int.tdiv a.2.clock 1000)) p1 b)]:LZc).length from rfl))<|wP (all_le rZf ([(Zf.mk a.2.wall (w64 (Int.tdiv a.2.clock 1000)) p1 b)]:LZc) rfl)<|wP (app_ck rZf a.2.shows ([(Zf.mk a.2.wall (w64 (Int.tdiv a.2.clock 1000)) p1 b)]:LZc) rfl rfl g)<|wP (app_tell rZf a.2.shows ([(Zf.mk a.2.wall (w64 (Int.tdiv a.2.clock 1000)) p1 b)]:LZc) rfl rfl)<|wP (len_map rZf (show (a.2.shows++([(Zf.mk a.2.wall (w64 (Int.tdiv a.2.clock 1000)) p1 b)]:LZc)).length=(a.2.shows++([(Zf.mk a.2.wall (w64 (Int.tdiv a.2.clock 1000)) p1 b)]:LZc)).length from rfl))<|wA (rI .i64) a.2.due<|wA rB a.2.gone<|wA rB c<|wP (all_le0 rZf (a.2.shows++([(Zf.mk a.2.wall (w64 (Int.tdiv a.2.clock 1000)) p1 b)]:LZc)) rfl)<|wP (all_t rZf (a.2.shows++([(Zf.mk a.2.wall (w64 (Int.tdiv a.2.clock 1000)) p1 b)]:LZc)) rfl)<|z0) (congrArg res_St (qj hm)) (by kernel_rfl)
theorem ok_St_18 (p1 e:Int) (a:Int×Zi) (f:Zb) (b:LB) (r:Zi) (hm:m_St_18 p1 e a f b=some r):EE c_St_18 K_St_18 (s_St_18 p1 e a f b) (Post vf_St (res_St r)):=by
 obtain ⟨g,c,hm⟩:=bind_some hm
 obtain ⟨d,hm⟩|⟨d,hm⟩:=split_ite hm
 ·exact gw (ok_St_24 _ _ _ _ _ r hm) (wO (.row (rB g))<|wP (rd_in rfl c)<|wP (at_row rB (rd_get0 c))<|v1 (not_f d)<|wK a.2.due.length a.2.gone.length b.length<|wN a.2.shows.length<|z0) (by kernel_rfl)
 ·exact gw (ok_St_24 _ _ _ _ _ r hm) (wO (.row (rB g))<|wP (rd_in rfl c)<|wP (at_row rB (rd_get0 c))<|u1 (not_t d)<|wK a.2.due.length a.2.gone.length b.length<|wN a.2.shows.length<|z0) (by kernel_rfl)
theorem ok_St_15 (p1:Int) (a:Int×Zi) (b:Zb) (d:Int) (e:Bool) (r:Zi) (hm:m_St_15 p1 a b d e=some r):EE c_St_15 K_St_15 (s_St_15 p1 a b d e) (Post vf_St (res_St r)):=by
 obtain ⟨c,hm⟩|⟨c,hm⟩:=split_ite hm
 ·obtain ⟨g,f,hm⟩:=bind_some hm
  exact gw (ok_St_18 _ _ _ _ _ r hm) (u1 c<|wO (.rows (mb (a.2.drop.set (0+Int.toNat b.track) true)))<|wP (rd_in rfl f)<|wP (put_ob rB true 0 (.lit (.bool true)) (rd_get0 f) (by kernel_rfl) (by kernel_rfl))<|wN a.2.due.length<|wN a.2.gone.length<|wO (zn ((a.2.drop.set (0+Int.toNat b.track) true).length))<|wP (lens a.2.drop.length ((a.2.drop.set (0+Int.toNat b.track) true).length) (set_len rfl))<|wN a.2.shows.length<|z0) (by kernel_rfl)
 ·exact gw (ok_St_18 _ _ _ _ _ r hm) (v1 c<|wK a.2.due.length a.2.gone.length a.2.drop.length<|wN a.2.shows.length<|z0) (by kernel_rfl)
theorem ok_St_10 (p1:Int) (j:Za) (p0:Zi) (k:Zb) (d:LB) (r:Zi) (hm:m_St_10 p1 j p0 k d=some r):EE c_St_10 K_St_10 (s_St_10 p1 j p0 k d) (Post vf_St (res_St r)):=by
 obtain ⟨a,g,hm⟩:=bind_some hm
 obtain ⟨c,h,hm⟩:=bind_some hm
 obtain ⟨f,hm⟩|⟨f,hm⟩:=split_ite hm
 ·obtain ⟨e,hm⟩|⟨e,hm⟩:=split_ite hm
  ·exact gw (ok_St_15 _ _ _ _ _ r hm) (wR (rI .i64) p0.due<|wR rB p0.gone<|wR rB d<|wR rZf p0.shows<|wO (.res (res_Sq a))<|wP (ok_Sq (Zi.mk p0.b p0.due p0.speed p0.wall p0.clock p0.pace p0.playing p0.busy p0.gone p0.left p0.soon d p0.shows) a g)<|wL (rI .i64) a.2.due<|wL rB a.2.gone<|wL rB a.2.drop<|wL rZf a.2.shows<|wR (rI .i64) a.2.due<|wR rB a.2.gone<|wR rB a.2.drop<|wR rZf a.2.shows<|wO (.res (res_Sp c))<|wP (ok_Sp a.2 p1 c h)<|wL (rI .i64) c.2.due<|wL rB c.2.gone<|wL rB c.2.drop<|wL rZf c.2.shows<|u3 f<|u4 eT<|v4 (not_f e)<|v4 (not_f e)<|wK c.2.due.length c.2.gone.length c.2.drop.length<|wN c.2.shows.length<|z0) (by kernel_rfl)
  ·exact gw (ok_St_15 _ _ _ _ _ r hm) (wR (rI .i64) p0.due<|wR rB p0.gone<|wR rB d<|wR rZf p0.shows<|wO (.res (res_Sq a))<|wP (ok_Sq (Zi.mk p0.b p0.due p0.speed p0.wall p0.clock p0.pace p0.playing p0.busy p0.gone p0.left p0.soon d p0.shows) a g)<|wL (rI .i64) a.2.due<|wL rB a.2.gone<|wL rB a.2.drop<|wL rZf a.2.shows<|wR (rI .i64) a.2.due<|wR rB a.2.gone<|wR rB a.2.drop<|wR rZf a.2.shows<|wO (.res (res_Sp c))<|wP (ok_Sp a.2 p1 c h)<|wL (rI .i64) c.2.due<|wL rB c.2.gone<|wL rB c.2.drop<|wL rZf c.2.shows<|u3 f<|u4 eT<|u4 (not_t e)<|u4 (not_t e)<|wK c.2.due.length c.2.gone.length c.2.drop.length<|wN c.2.shows.length<|z0) (by kernel_rfl)
 ·obtain ⟨e,hm⟩|⟨e,hm⟩:=split_ite hm
  ·obtain ⟨i,hm⟩|⟨i,hm⟩:=split_ite hm
   ·exact gw (ok_St_15 _ _ _ _ _ r hm) (wR (rI .i64) p0.due<|wR rB p0.gone<|wR rB d<|wR rZf p0.shows<|wO (.res (res_Sq a))<|wP (ok_Sq (Zi.mk p0.b p0.due p0.speed p0.wall p0.clock p0.pace p0.playing p0.busy p0.gone p0.left p0.soon d p0.shows) a g)<|wL (rI .i64) a.2.due<|wL rB a.2.gone<|wL rB a.2.drop<|wL rZf a.2.shows<|wR (rI .i64) a.2.due<|wR rB a.2.gone<|wR rB a.2.drop<|wR rZf a.2.shows<|wO (.res (res_Sp c))<|wP (ok_Sp a.2 p1 c h)<|wL (rI .i64) c.2.due<|wL rB c.2.gone<|wL rB c.2.drop<|wL rZf c.2.shows<|v3 f<|u4 e<|v4 (not_f i)<|v4 (not_f i)<|wK c.2.due.length c.2.gone.length c.2.drop.length<|wN c.2.shows.length<|z0) (by kernel_rfl)
   ·exact gw (ok_St_15 _ _ _ _ _ r hm) (wR (rI .i64) p0.due<|wR rB p0.gone<|wR rB d<|wR rZf p0.shows<|wO (.res (res_Sq a))<|wP (ok_Sq (Zi.mk p0.b p0.due p0.speed p0.wall p0.clock p0.pace p0.playing p0.busy p0.gone p0.left p0.soon d p0.shows) a g)<|wL (rI .i64) a.2.due<|wL rB a.2.gone<|wL rB a.2.drop<|wL rZf a.2.shows<|wR (rI .i64) a.2.due<|wR rB a.2.gone<|wR rB a.2.drop<|wR rZf a.2.shows<|wO (.res (res_Sp c))<|wP (ok_Sp a.2 p1 c h)<|wL (rI .i64) c.2.due<|wL rB c.2.gone<|wL rB c.2.drop<|wL rZf c.2.shows<|v3 f<|u4 e<|u4 (not_t i)<|u4 (not_t i)<|wK c.2.due.length c.2.gone.length c.2.drop.length<|wN c.2.shows.length<|z0) (by kernel_rfl)
  ·exact gw (ok_St_15 _ _ _ _ _ r hm) (wR (rI .i64) p0.due<|wR rB p0.gone<|wR rB d<|wR rZf p0.shows<|wO (.res (res_Sq a))<|wP (ok_Sq (Zi.mk p0.b p0.due p0.speed p0.wall p0.clock p0.pace p0.playing p0.busy p0.gone p0.left p0.soon d p0.shows) a g)<|wL (rI .i64) a.2.due<|wL rB a.2.gone<|wL rB a.2.drop<|wL rZf a.2.shows<|wR (rI .i64) a.2.due<|wR rB a.2.gone<|wR rB a.2.drop<|wR rZf a.2.shows<|wO (.res (res_Sp c))<|wP (ok_Sp a.2 p1 c h)<|wL (rI .i64) c.2.due<|wL rB c.2.gone<|wL rB c.2.drop<|wL rZf c.2.shows<|v3 f<|v4 e<|v4 eF<|v4 eF<|wK c.2.due.length c.2.gone.length c.2.drop.length<|wN c.2.shows.length<|z0) (by kernel_rfl)
theorem ok_St_0 (p1:Int) (p0 r:Zi) (hm:m_St_0 p1 p0=some r):EE c_St_0 K_St_0 (s_St_0 p1 p0) (Post vf_St (res_St r)):=by
 obtain ⟨a,b,hm⟩:=bind_some hm
 obtain ⟨e,c,hm⟩:=bind_some hm
 obtain ⟨d,hm⟩|⟨d,hm⟩:=split_ite hm
 ·obtain ⟨g,f,hm⟩:=bind_some hm
  exact gw (ok_St_10 _ _ _ _ _ r hm) (wO (.row (rZb a))<|wO (.row (rZa e))<|wP (rd_nn b)<|wP (at_row rZb (rd_get b))<|wP (rd_nn c)<|wP (at_row rZa (rd_get c))<|u1 d<|wO (.rows (mb (p0.drop.set (0+Int.toNat a.track) false)))<|wP (rd_in rfl f)<|wP (put_ob rB false 0 (.lit (.bool false)) (rd_get0 f) (by kernel_rfl) (by kernel_rfl))<|wN p0.due.length<|wN p0.gone.length<|wO (zn ((p0.drop.set (0+Int.toNat a.track) false).length))<|wP (lens p0.drop.length ((p0.drop.set (0+Int.toNat a.track) false).length) (set_len rfl))<|wN p0.shows.length<|z0) (by kernel_rfl)
 ·exact gw (ok_St_10 _ _ _ _ _ r hm) (wO (.row (rZb a))<|wO (.row (rZa e))<|wP (rd_nn b)<|wP (at_row rZb (rd_get b))<|wP (rd_nn c)<|wP (at_row rZa (rd_get c))<|v1 d<|wK p0.due.length p0.gone.length p0.drop.length<|wN p0.shows.length<|z0) (by kernel_rfl)
theorem ok_St (p0:Zi) (p1:Int) (r:Zi) (hm:m_St p0 p1=some r):Runs ext tbl 126 (as_St p0 p1) (res_St r):=
 runs_of (vf:=vf_St) (by kernel_rfl) rfl (st:=(enter vf_St (as_St p0 p1)).getD default) (by kernel_rfl) (go_on [zn p0.due.length,zn p0.gone.length,zn p0.drop.length,zn p0.shows.length] 1000 (J (len_map (rI .i64) (rfl:p0.due.length=p0.due.length)) (J (len_map rB (rfl:p0.gone.length=p0.gone.length)) (J (len_map rB (rfl:p0.drop.length=p0.drop.length)) (J (len_map rZf (rfl:p0.shows.length=p0.shows.length)) J0)))) (ok_St_0 p1 p0 r hm) (by kernel_rfl))
def O_Su_21 (Q:VX→St→Prop) (e:(LZ×LZa×Int×Int×Int×Int×Bool×Int×Int×Int×LI×LB×LB×LZc)):Prop:=EE c_Su_39 K_Su_39 (s_Su_39 e.1 e.2.1 e.2.2.1 e.2.2.2.1 e.2.2.2.2.1 e.2.2.2.2.2.1 e.2.2.2.2.2.2.1 e.2.2.2.2.2.2.2.1 e.2.2.2.2.2.2.2.2.1 e.2.2.2.2.2.2.2.2.2.1 e.2.2.2.2.2.2.2.2.2.2.1 e.2.2.2.2.2.2.2.2.2.2.2.1 e.2.2.2.2.2.2.2.2.2.2.2.2.1 e.2.2.2.2.2.2.2.2.2.2.2.2.2) Q
theorem ok_Su_33 (b:Int) (p0:Zi) (h:LZ) (i:LZa) (j k l m:Int) (n:Bool) (o p q:Int) (d:LI) (c f:LB) (g:LZc) (t:Bool) (y) (hm:m_Su_33 b p0 h i j k l m n o p q d c f g t=some y) (Q)
  (hin:∀ s,y=.inl s→EE c_Su_21 K_Su_21 (s_Su_21 p0 s.1 s.2.1 s.2.2.1 s.2.2.2.1 s.2.2.2.2.1 s.2.2.2.2.2.1 s.2.2.2.2.2.2.1 s.2.2.2.2.2.2.2.1 s.2.2.2.2.2.2.2.2.1 s.2.2.2.2.2.2.2.2.2.1 s.2.2.2.2.2.2.2.2.2.2.1 s.2.2.2.2.2.2.2.2.2.2.2.1 s.2.2.2.2.2.2.2.2.2.2.2.2.1 s.2.2.2.2.2.2.2.2.2.2.2.2.2.1 s.2.2.2.2.2.2.2.2.2.2.2.2.2.2) Q) (hout:∀ e,y=.inr e→O_Su_21 Q e):EE c_Su_33 K_Su_33 (s_Su_33 b p0 h i j k l m n o p q d c f g t) Q:=by
 obtain ⟨r,hm⟩|⟨r,hm⟩:=split_ite hm
 ·obtain ⟨w,u,hm⟩:=bind_some hm
  obtain ⟨a,v,hm⟩:=bind_some hm
  exact gw (hin _ (qj hm).symm) (u1 r<|wO (.rows (mb (c.set (0+Int.toNat b) true)))<|wP (rd_in rfl u)<|wP (put_ob rB true 0 (.lit (.bool true)) (rd_get0 u) (by kernel_rfl) (by kernel_rfl))<|wR (rI .i64) d<|wO (.rows (mb (c.set (0+Int.toNat b) true)))<|wP (all_le0 rB (c.set (0+Int.toNat b) true) (set_len rfl))<|wP (all_t rB (c.set (0+Int.toNat b) true) (set_len rfl))<|wR rB f<|wR rZf g<|wO (.res (res_St a))<|wP (ok_St (Zi.mk (Ze.mk h i) d j k l m n o (c.set (0+Int.toNat b) true) p q f g) b a v)<|wL (rI .i64) a.due<|wL rB a.gone<|wL rB a.drop<|wL rZf a.shows<|wK a.due.length a.gone.length a.drop.length<|wN a.shows.length<|z0) (by kernel_rfl)
 ·exact gw (hin _ (qj hm).symm) (v1 r<|wK d.length c.length f.length<|wN g.length<|z0) (by kernel_rfl)
theorem ok_Su_39 (f:LZ) (g:LZa) (h i j k:Int) (l:Bool) (m n o:Int) (b:LI) (c d:LB) (e:LZc) (r:Zi) (hm:m_Su_39 f g h i j k l m n o b c d e=some r):EE c_Su_39 K_Su_39 (s_Su_39 f g h i j k l m n o b c d e) (Post vf_Su (res_Su r)):=by
 obtain ⟨a,p,hm⟩:=bind_some hm
 exact ge (wR (rI .i64) b<|wR rB c<|wR rB d<|wR rZf e<|wO (.res (res_Sr a))<|wP (ok_Sr (Zi.mk (Ze.mk f g) b h i j k l m c n o d e) a p)<|wL (rI .i64) a.due<|wL rB a.gone<|wL rB a.drop<|wL rZf a.shows<|wR (rI .i64) a.due<|wR rB a.gone<|wR rB a.drop<|wR rZf a.shows<|z0) (congrArg res_Su (qj hm)) (by kernel_rfl)
theorem ok_Su_21 (p0:Zi) (t:Int) (g:LZ) (h:LZa) (i j k l:Int) (m:Bool) (n o p:Int) (b:LI) (c d:LB) (f:LZc) (y) (hm:m_Su_21 p0 t g h i j k l m n o p b c d f=some y) (Q)
  (hin:∀ s,y=.inl s→EE c_Su_21 K_Su_21 (s_Su_21 p0 s.1 s.2.1 s.2.2.1 s.2.2.2.1 s.2.2.2.2.1 s.2.2.2.2.2.1 s.2.2.2.2.2.2.1 s.2.2.2.2.2.2.2.1 s.2.2.2.2.2.2.2.2.1 s.2.2.2.2.2.2.2.2.2.1 s.2.2.2.2.2.2.2.2.2.2.1 s.2.2.2.2.2.2.2.2.2.2.2.1 s.2.2.2.2.2.2.2.2.2.2.2.2.1 s.2.2.2.2.2.2.2.2.2.2.2.2.2.1 s.2.2.2.2.2.2.2.2.2.2.2.2.2.2) Q) (hout:∀ e,y=.inr e→O_Su_21 Q e):EE c_Su_21 K_Su_21 (s_Su_21 p0 t g h i j k l m n o p b c d f) Q:=by
 obtain ⟨q,hm⟩|⟨q,hm⟩:=split_ite hm
 ·obtain ⟨u,r,hm⟩:=bind_some hm
  obtain ⟨a,hm⟩|⟨a,hm⟩:=split_ite hm
  ·exact gw (ok_Su_33 _ _ _ _ _ _ _ _ _ _ _ _ _ _ _ _ _ y hm Q hin hout) (u1 q<|wO (.row (rB u))<|wP (rd_in rfl r)<|wP (at_row rB (rd_get0 r))<|v4 (not_f a)<|v4 (not_f a)<|v4 (not_f a)<|v1 (not_f a)<|wK b.length c.length d.length<|wN f.length<|z0) (by kernel_rfl)
  ·obtain ⟨w,v,hm⟩:=bind_some hm
   exact gw (ok_Su_33 _ _ _ _ _ _ _ _ _ _ _ _ _ _ _ _ _ y hm Q hin hout) (u1 q<|wO (.row (rB u))<|wP (rd_in rfl r)<|wP (at_row rB (rd_get0 r))<|u4 (not_t a)<|u2 (not_t a)<|wP (rd_in rfl v)<|u1 (not_t a)<|wO (.row ((rI .i64) w))<|wP (at_row (rI .i64) (rd_get0 v))<|u4 (not_t a)<|u2 (not_t a)<|wK b.length c.length d.length<|wN f.length<|z0) (by kernel_rfl)
 ·refine gm c_Su_39 K_Su_39 (s_Su_39 g h i j k l m n o p b c d f) (v1 q<|wK b.length c.length d.length<|wN f.length<|z0) ?_ (by kernel_rfl)
  exact hout (g,h,i,j,k,l,m,n,o,p,b,c,d,f) (qj hm).symm
theorem ok_Su_0 (p0 r:Zi) (hm:m_Su_0 p0=some r):EE c_Su_0 K_Su_0 (s_Su_0 p0) (Post vf_Su (res_Su r)):=by
 obtain ⟨d,hm⟩|⟨d,hm⟩:=split_ite hm
 ·obtain ⟨a,hm⟩|⟨a,hm⟩:=split_ite hm
  ·exact ge (v1 (not_f d)<|u4 a<|u4 a<|u2 a<|u1 eT<|wR (rI .i64) p0.due<|wR rB p0.gone<|wR rB p0.drop<|wR rZf p0.shows<|z0) (congrArg res_Su (qj hm)) (by kernel_rfl)
  ·obtain ⟨f,hm⟩|⟨f,hm⟩:=split_ite hm
   ·exact ge (v1 (not_f d)<|v4 a<|v4 a<|v2 a<|u1 f<|wR (rI .i64) p0.due<|wR rB p0.gone<|wR rB p0.drop<|wR rZf p0.shows<|z0) (congrArg res_Su (qj hm)) (by kernel_rfl)
   ·refine gm c_Su_21 K_Su_21 (s_Su_21 p0 0 p0.b.tracks p0.b.packets p0.speed (w64 (p0.wall+1)) (w64 (p0.clock+(w64 (10*p0.pace)))) p0.pace p0.playing p0.busy p0.left p0.soon p0.due p0.gone p0.drop p0.shows) (v1 (not_f d)<|v4 a<|v4 a<|v2 a<|v1 f<|wK p0.due.length p0.gone.length p0.drop.length<|wN p0.shows.length<|z0) ?_ (by kernel_rfl)
    obtain ⟨e,he,hm⟩:=bind_some hm
    refine loop_rule (u:=.c c_Su_21) (K:=K_Su_21) (Q:=(Post vf_Su (res_Su r))) (b:=lp_Su_21 p0) (We:=O_Su_21 (Post vf_Su (res_Su r))) (stJ:=fun s=>s_Su_21 p0 s.1 s.2.1 s.2.2.1 s.2.2.2.1 s.2.2.2.2.1 s.2.2.2.2.2.1 s.2.2.2.2.2.2.1 s.2.2.2.2.2.2.2.1 s.2.2.2.2.2.2.2.2.1 s.2.2.2.2.2.2.2.2.2.1 s.2.2.2.2.2.2.2.2.2.2.1 s.2.2.2.2.2.2.2.2.2.2.2.1 s.2.2.2.2.2.2.2.2.2.2.2.2.1 s.2.2.2.2.2.2.2.2.2.2.2.2.2.1 s.2.2.2.2.2.2.2.2.2.2.2.2.2.2) (s:=(0,p0.b.tracks,p0.b.packets,p0.speed,(w64 (p0.wall+1)),(w64 (p0.clock+(w64 (10*p0.pace)))),p0.pace,p0.playing,p0.busy,p0.left,p0.soon,p0.due,p0.gone,p0.drop,p0.shows)) (fun s y hb hin hout=>ok_Su_21 p0 s.1 s.2.1 s.2.2.1 s.2.2.2.1 s.2.2.2.2.1 s.2.2.2.2.2.1 s.2.2.2.2.2.2.1 s.2.2.2.2.2.2.2.1 s.2.2.2.2.2.2.2.2.1 s.2.2.2.2.2.2.2.2.2.1 s.2.2.2.2.2.2.2.2.2.2.1 s.2.2.2.2.2.2.2.2.2.2.2.1 s.2.2.2.2.2.2.2.2.2.2.2.2.1 s.2.2.2.2.2.2.2.2.2.2.2.2.2.1 s.2.2.2.2.2.2.2.2.2.2.2.2.2.2 y hb (Post vf_Su (res_Su r)) hin hout) he ?_
    show EE c_Su_39 K_Su_39 (s_Su_39 e.1 e.2.1 e.2.2.1 e.2.2.2.1 e.2.2.2.2.1 e.2.2.2.2.2.1 e.2.2.2.2.2.2.1 e.2.2.2.2.2.2.2.1 e.2.2.2.2.2.2.2.2.1 e.2.2.2.2.2.2.2.2.2.1 e.2.2.2.2.2.2.2.2.2.2.1 e.2.2.2.2.2.2.2.2.2.2.2.1 e.2.2.2.2.2.2.2.2.2.2.2.2.1 e.2.2.2.2.2.2.2.2.2.2.2.2.2) _
    exact ok_Su_39 e.1 e.2.1 e.2.2.1 e.2.2.2.1 e.2.2.2.2.1 e.2.2.2.2.2.1 e.2.2.2.2.2.2.1 e.2.2.2.2.2.2.2.1 e.2.2.2.2.2.2.2.2.1 e.2.2.2.2.2.2.2.2.2.1 e.2.2.2.2.2.2.2.2.2.2.1 e.2.2.2.2.2.2.2.2.2.2.2.1 e.2.2.2.2.2.2.2.2.2.2.2.2.1 e.2.2.2.2.2.2.2.2.2.2.2.2.2 r hm
 ·exact ge (u1 (not_t d)<|wR (rI .i64) p0.due<|wR rB p0.gone<|wR rB p0.drop<|wR rZf p0.shows<|z0) (congrArg res_Su (qj hm)) (by kernel_rfl)
theorem ok_Su (p0 r:Zi) (hm:m_Su p0=some r):Runs ext tbl 78 (as_Su p0) (res_Su r):=
 runs_of (vf:=vf_Su) (by kernel_rfl) rfl (st:=(enter vf_Su (as_Su p0)).getD default) (by kernel_rfl) (go_on [zn p0.due.length,zn p0.gone.length,zn p0.drop.length,zn p0.shows.length] 1000 (J (len_map (rI .i64) (rfl:p0.due.length=p0.due.length)) (J (len_map rB (rfl:p0.gone.length=p0.gone.length)) (J (len_map rB (rfl:p0.drop.length=p0.drop.length)) (J (len_map rZf (rfl:p0.shows.length=p0.shows.length)) J0)))) (ok_Su_0 p0 r hm) (by kernel_rfl))
def O_Sd_92 (p2:LZb) (a:Int) (Q:VX→St→Prop) (e:(LZ×LZa×Int×Int×Int×Int×Bool×Int×Int×Int×LI×LB×LB×LZc)):Prop:=EE c_Sd_102 K_Sd_102 (s_Sd_102 p2 a e.1 e.2.1 e.2.2.1 e.2.2.2.1 e.2.2.2.2.1 e.2.2.2.2.2.1 e.2.2.2.2.2.2.1 e.2.2.2.2.2.2.2.1 e.2.2.2.2.2.2.2.2.1 e.2.2.2.2.2.2.2.2.2.1 e.2.2.2.2.2.2.2.2.2.2.1 e.2.2.2.2.2.2.2.2.2.2.2.1 e.2.2.2.2.2.2.2.2.2.2.2.2.1 e.2.2.2.2.2.2.2.2.2.2.2.2.2) Q
def O_Sd_59 (Q:VX→St→Prop) (e:(LZ×LZa×Int×Int×Int×Int×Bool×Int×Int×Int×LI×LB×LB×LZc)):Prop:=EE c_Sd_103 K_Sd_103 (s_Sd_103 e.1 e.2.1 e.2.2.1 e.2.2.2.1 e.2.2.2.2.1 e.2.2.2.2.2.1 e.2.2.2.2.2.2.1 e.2.2.2.2.2.2.2.1 e.2.2.2.2.2.2.2.2.1 e.2.2.2.2.2.2.2.2.2.1 e.2.2.2.2.2.2.2.2.2.2.1 e.2.2.2.2.2.2.2.2.2.2.2.1 e.2.2.2.2.2.2.2.2.2.2.2.2.1 e.2.2.2.2.2.2.2.2.2.2.2.2.2) Q
def O_Sd_40 (p2:LZb) (p0:Ze) (p1:Int) (Q:VX→St→Prop) (e:(LI×LB×LB)):Prop:=EE c_Sd_52 K_Sd_52 (s_Sd_52 p2 p0 p1 e.1 e.2.1 e.2.2) Q
def O_Sd_15 (p1:Int) (p2:LZb) (p0:Ze) (Q:VX→St→Prop) (e:(Zg)⊕((Unit))):Prop:=match e with | .inl e=>Q=Post vf_Sd (res_Sd e) | .inr e=>EE c_Sd_33 K_Sd_33 (s_Sd_33 p1 p2 p0) Q
theorem ok_Sd_102 (p2:LZb) (f:Int) (g:LZ) (h:LZa) (i j k l:Int) (m:Bool) (n o p:Int) (a:LI) (b c:LB) (d:LZc) (y) (hm:m_Sd_102 p2 f g h i j k l m n o p a b c d=some y) (Q)
  (hin:∀ s,y=.inl s→EE c_Sd_59 K_Sd_59 (s_Sd_59 p2 s.1 s.2.1 s.2.2.1 s.2.2.2.1 s.2.2.2.2.1 s.2.2.2.2.2.1 s.2.2.2.2.2.2.1 s.2.2.2.2.2.2.2.1 s.2.2.2.2.2.2.2.2.1 s.2.2.2.2.2.2.2.2.2.1 s.2.2.2.2.2.2.2.2.2.2.1 s.2.2.2.2.2.2.2.2.2.2.2.1 s.2.2.2.2.2.2.2.2.2.2.2.2.1 s.2.2.2.2.2.2.2.2.2.2.2.2.2.1 s.2.2.2.2.2.2.2.2.2.2.2.2.2.2) Q) (hout:∀ e,y=.inr e→O_Sd_59 Q e):EE c_Sd_102 K_Sd_102 (s_Sd_102 p2 f g h i j k l m n o p a b c d) Q:=by
 exact gw (hin _ (qj hm).symm) (wO (zn (([]:LZc).length))<|wP (lens (([]:LZc).length) (([]:LZc).length) rfl)<|wK a.length b.length c.length<|wN d.length<|z0) (by kernel_rfl)
end Go.Proofs.V

namespace Go.Proofs.V
open Go
theorem ok_Sd_92 (p2:LZb) (g:Int) (r:Zc) (u:Int) (h:LZ) (i:LZa) (j k l m:Int) (n:Bool) (o p q:Int) (b:LI) (c d:LB) (f:LZc) (y) (hm:m_Sd_92 p2 g r u h i j k l m n o p q b c d f=some y) (Q)
  (hin:∀ s,y=.inl s→EE c_Sd_92 K_Sd_92 (s_Sd_92 p2 g r s.1 s.2.1 s.2.2.1 s.2.2.2.1 s.2.2.2.2.1 s.2.2.2.2.2.1 s.2.2.2.2.2.2.1 s.2.2.2.2.2.2.2.1 s.2.2.2.2.2.2.2.2.1 s.2.2.2.2.2.2.2.2.2.1 s.2.2.2.2.2.2.2.2.2.2.1 s.2.2.2.2.2.2.2.2.2.2.2.1 s.2.2.2.2.2.2.2.2.2.2.2.2.1 s.2.2.2.2.2.2.2.2.2.2.2.2.2.1 s.2.2.2.2.2.2.2.2.2.2.2.2.2.2) Q) (hout:∀ e,y=.inr e→O_Sd_92 p2 g Q e):EE c_Sd_92 K_Sd_92 (s_Sd_92 p2 g r u h i j k l m n o p q b c d f) Q:=by
 obtain ⟨t,hm⟩|⟨t,hm⟩:=split_ite hm
 ·obtain ⟨a,v,hm⟩:=bind_some hm
  exact gw (hin _ (qj hm).symm) (u1 t<|wR (rI .i64) b<|wR rB c<|wR rB d<|wR rZf f<|wO (.res (res_Su a))<|wP (ok_Su (Zi.mk (Ze.mk h i) b j k l m n o c p q d f) a v)<|wL (rI .i64) a.due<|wL rB a.gone<|wL rB a.drop<|wL rZf a.shows<|wO (zn (([]:LZc).length))<|wP (lens (([]:LZc).length) (([]:LZc).length) rfl)<|wK a.due.length a.gone.length a.drop.length<|wN a.shows.length<|z0) (by kernel_rfl)
 ·refine gm c_Sd_102 K_Sd_102 (s_Sd_102 p2 g h i j k l m n o p q b c d f) (v1 t<|wO (zn (([]:LZc).length))<|wP (lens (([]:LZc).length) (([]:LZc).length) rfl)<|wK b.length c.length d.length<|wN f.length<|z0) ?_ (by kernel_rfl)
  exact hout (h,i,j,k,l,m,n,o,p,q,b,c,d,f) (qj hm).symm
theorem ok_Sd_103 (b:LZ) (c:LZa) (d e f g:Int) (h:Bool) (i j k:Int) (l:LI) (m n:LB) (a:LZc) (r:Zg) (hm:m_Sd_103 b c d e f g h i j k l m n a=some r):EE c_Sd_103 K_Sd_103 (s_Sd_103 b c d e f g h i j k l m n a) (Post vf_Sd (res_Sd r)):=by
 exact ge (wP (by decide:(1000:Int)≠0)<|wR rZf a<|z0) (congrArg res_Sd (qj hm)) (by kernel_rfl)
theorem ok_Sd_59 (p2:LZb) (k:Int) (l:LZ) (m:LZa) (n o p q:Int) (r:Bool) (t v w:Int) (a:LI) (d f:LB) (g:LZc) (y) (hm:m_Sd_59 p2 k l m n o p q r t v w a d f g=some y) (Q)
  (hin:∀ s,y=.inl s→EE c_Sd_59 K_Sd_59 (s_Sd_59 p2 s.1 s.2.1 s.2.2.1 s.2.2.2.1 s.2.2.2.2.1 s.2.2.2.2.2.1 s.2.2.2.2.2.2.1 s.2.2.2.2.2.2.2.1 s.2.2.2.2.2.2.2.2.1 s.2.2.2.2.2.2.2.2.2.1 s.2.2.2.2.2.2.2.2.2.2.1 s.2.2.2.2.2.2.2.2.2.2.2.1 s.2.2.2.2.2.2.2.2.2.2.2.2.1 s.2.2.2.2.2.2.2.2.2.2.2.2.2.1 s.2.2.2.2.2.2.2.2.2.2.2.2.2.2) Q) (hout:∀ e,y=.inr e→O_Sd_59 Q e):EE c_Sd_59 K_Sd_59 (s_Sd_59 p2 k l m n o p q r t v w a d f g) Q:=by
 obtain ⟨x,hm⟩|⟨x,hm⟩:=split_ite hm
 ·obtain ⟨h,i,hm⟩:=bind_some hm
  obtain ⟨z,hm⟩|⟨z,hm⟩:=split_ite hm
  ·exact gw (ok_Sd_102 _ _ _ _ _ _ _ _ _ _ _ _ _ _ _ _ y hm Q hin hout) (u1 x<|wO (.row (rZc h))<|wP (rd_nn i)<|wP (at_row rZc (rd_get i))<|u1 z<|wO (zn (([]:LZc).length))<|wP (lens (([]:LZc).length) (([]:LZc).length) rfl)<|wK a.length d.length f.length<|wN g.length<|z0) (by kernel_rfl)
  ·obtain ⟨A,hm⟩|⟨A,hm⟩:=split_ite hm
   ·exact gw (ok_Sd_102 _ _ _ _ _ _ _ _ _ _ _ _ _ _ _ _ y hm Q hin hout) (u1 x<|wO (.row (rZc h))<|wP (rd_nn i)<|wP (at_row rZc (rd_get i))<|v1 z<|u1 A<|wO (zn (([]:LZc).length))<|wP (lens (([]:LZc).length) (([]:LZc).length) rfl)<|wK a.length d.length f.length<|wN g.length<|z0) (by kernel_rfl)
   ·obtain ⟨B,hm⟩|⟨B,hm⟩:=split_ite hm
    ·exact gw (ok_Sd_102 _ _ _ _ _ _ _ _ _ _ _ _ _ _ _ _ y hm Q hin hout) (u1 x<|wO (.row (rZc h))<|wP (rd_nn i)<|wP (at_row rZc (rd_get i))<|v1 z<|v1 A<|u1 B<|wO (zn (([]:LZc).length))<|wP (lens (([]:LZc).length) (([]:LZc).length) rfl)<|wK a.length d.length f.length<|wN g.length<|z0) (by kernel_rfl)
    ·obtain ⟨C,hm⟩|⟨C,hm⟩:=split_ite hm
     ·obtain ⟨j,D,hm⟩:=bind_some hm
      exact gw (ok_Sd_102 _ _ _ _ _ _ _ _ _ _ _ _ _ _ _ _ y hm Q hin hout) (u1 x<|wO (.row (rZc h))<|wP (rd_nn i)<|wP (at_row rZc (rd_get i))<|v1 z<|v1 A<|v1 B<|u1 C<|wR (rI .i64) a<|wR rB d<|wR rB f<|wR rZf g<|wO (.res (res_Ss j))<|wP (ok_Ss (Zi.mk (Ze.mk l m) a n o p q r t d v w f g) h.value j D)<|wL (rI .i64) j.due<|wL rB j.gone<|wL rB j.drop<|wL rZf j.shows<|wO (zn (([]:LZc).length))<|wP (lens (([]:LZc).length) (([]:LZc).length) rfl)<|wK j.due.length j.gone.length j.drop.length<|wN j.shows.length<|z0) (by kernel_rfl)
     ·refine gm c_Sd_92 K_Sd_92 (s_Sd_92 p2 k h 0 l m n o p q r t v w a d f g) (u1 x<|wO (.row (rZc h))<|wP (rd_nn i)<|wP (at_row rZc (rd_get i))<|v1 z<|v1 A<|v1 B<|v1 C<|wO (zn (([]:LZc).length))<|wP (lens (([]:LZc).length) (([]:LZc).length) rfl)<|wK a.length d.length f.length<|wN g.length<|z0) ?_ (by kernel_rfl)
      obtain ⟨e,he,hm⟩:=bind_some hm
      refine loop_rule (u:=.c c_Sd_92) (K:=K_Sd_92) (Q:=Q) (b:=lp_Sd_92 p2 k h) (We:=O_Sd_92 p2 k Q) (stJ:=fun s=>s_Sd_92 p2 k h s.1 s.2.1 s.2.2.1 s.2.2.2.1 s.2.2.2.2.1 s.2.2.2.2.2.1 s.2.2.2.2.2.2.1 s.2.2.2.2.2.2.2.1 s.2.2.2.2.2.2.2.2.1 s.2.2.2.2.2.2.2.2.2.1 s.2.2.2.2.2.2.2.2.2.2.1 s.2.2.2.2.2.2.2.2.2.2.2.1 s.2.2.2.2.2.2.2.2.2.2.2.2.1 s.2.2.2.2.2.2.2.2.2.2.2.2.2.1 s.2.2.2.2.2.2.2.2.2.2.2.2.2.2) (s:=(0,l,m,n,o,p,q,r,t,v,w,a,d,f,g)) (fun s y hb hin hout=>ok_Sd_92 p2 k h s.1 s.2.1 s.2.2.1 s.2.2.2.1 s.2.2.2.2.1 s.2.2.2.2.2.1 s.2.2.2.2.2.2.1 s.2.2.2.2.2.2.2.1 s.2.2.2.2.2.2.2.2.1 s.2.2.2.2.2.2.2.2.2.1 s.2.2.2.2.2.2.2.2.2.2.1 s.2.2.2.2.2.2.2.2.2.2.2.1 s.2.2.2.2.2.2.2.2.2.2.2.2.1 s.2.2.2.2.2.2.2.2.2.2.2.2.2.1 s.2.2.2.2.2.2.2.2.2.2.2.2.2.2 y hb Q hin hout) he ?_
      show EE c_Sd_102 K_Sd_102 (s_Sd_102 p2 k e.1 e.2.1 e.2.2.1 e.2.2.2.1 e.2.2.2.2.1 e.2.2.2.2.2.1 e.2.2.2.2.2.2.1 e.2.2.2.2.2.2.2.1 e.2.2.2.2.2.2.2.2.1 e.2.2.2.2.2.2.2.2.2.1 e.2.2.2.2.2.2.2.2.2.2.1 e.2.2.2.2.2.2.2.2.2.2.2.1 e.2.2.2.2.2.2.2.2.2.2.2.2.1 e.2.2.2.2.2.2.2.2.2.2.2.2.2) _
      exact ok_Sd_102 p2 k e.1 e.2.1 e.2.2.1 e.2.2.2.1 e.2.2.2.2.1 e.2.2.2.2.2.1 e.2.2.2.2.2.2.1 e.2.2.2.2.2.2.2.1 e.2.2.2.2.2.2.2.2.1 e.2.2.2.2.2.2.2.2.2.1 e.2.2.2.2.2.2.2.2.2.2.1 e.2.2.2.2.2.2.2.2.2.2.2.1 e.2.2.2.2.2.2.2.2.2.2.2.2.1 e.2.2.2.2.2.2.2.2.2.2.2.2.2 y hm Q hin hout
 ·refine gm c_Sd_103 K_Sd_103 (s_Sd_103 l m n o p q r t v w a d f g) (v1 x<|wO (zn (([]:LZc).length))<|wP (lens (([]:LZc).length) (([]:LZc).length) rfl)<|wK a.length d.length f.length<|wN g.length<|z0) ?_ (by kernel_rfl)
  exact hout (l,m,n,o,p,q,r,t,v,w,a,d,f,g) (qj hm).symm
theorem ok_Sd_52 (p2:LZb) (p0:Ze) (p1:Int) (d:LI) (f g:LB) (r:Zg) (hm:m_Sd_52 p2 p0 p1 d f g=some r):EE c_Sd_52 K_Sd_52 (s_Sd_52 p2 p0 p1 d f g) (Post vf_Sd (res_Sd r)):=by
 obtain ⟨a,h,hm⟩:=bind_some hm
 refine gm c_Sd_59 K_Sd_59 (s_Sd_59 p2 0 a.b.tracks a.b.packets a.speed a.wall a.clock a.pace a.playing a.busy a.left a.soon a.due a.gone a.drop a.shows) (wR (rI .i64) d<|wR rB f<|wR rB g<|wO (.res (res_Sr a))<|wP (ok_Sr (Zi.mk p0 d p1 0 0 100 false 0 f 0 0 g []) a h)<|wL (rI .i64) a.due<|wL rB a.gone<|wL rB a.drop<|wL rZf a.shows<|wL rZc p2<|wO (zn (([]:LZc).length))<|wP (lens (([]:LZc).length) (([]:LZc).length) rfl)<|wK a.due.length a.gone.length a.drop.length<|wN a.shows.length<|z0) ?_ (by kernel_rfl)
 obtain ⟨e,he,hm⟩:=bind_some hm
 refine loop_rule (u:=.c c_Sd_59) (K:=K_Sd_59) (Q:=(Post vf_Sd (res_Sd r))) (b:=lp_Sd_59 p2) (We:=O_Sd_59 (Post vf_Sd (res_Sd r))) (stJ:=fun s=>s_Sd_59 p2 s.1 s.2.1 s.2.2.1 s.2.2.2.1 s.2.2.2.2.1 s.2.2.2.2.2.1 s.2.2.2.2.2.2.1 s.2.2.2.2.2.2.2.1 s.2.2.2.2.2.2.2.2.1 s.2.2.2.2.2.2.2.2.2.1 s.2.2.2.2.2.2.2.2.2.2.1 s.2.2.2.2.2.2.2.2.2.2.2.1 s.2.2.2.2.2.2.2.2.2.2.2.2.1 s.2.2.2.2.2.2.2.2.2.2.2.2.2.1 s.2.2.2.2.2.2.2.2.2.2.2.2.2.2) (s:=(0,a.b.tracks,a.b.packets,a.speed,a.wall,a.clock,a.pace,a.playing,a.busy,a.left,a.soon,a.due,a.gone,a.drop,a.shows)) (fun s y hb hin hout=>ok_Sd_59 p2 s.1 s.2.1 s.2.2.1 s.2.2.2.1 s.2.2.2.2.1 s.2.2.2.2.2.1 s.2.2.2.2.2.2.1 s.2.2.2.2.2.2.2.1 s.2.2.2.2.2.2.2.2.1 s.2.2.2.2.2.2.2.2.2.1 s.2.2.2.2.2.2.2.2.2.2.1 s.2.2.2.2.2.2.2.2.2.2.2.1 s.2.2.2.2.2.2.2.2.2.2.2.2.1 s.2.2.2.2.2.2.2.2.2.2.2.2.2.1 s.2.2.2.2.2.2.2.2.2.2.2.2.2.2 y hb (Post vf_Sd (res_Sd r)) hin hout) he ?_
 show EE c_Sd_103 K_Sd_103 (s_Sd_103 e.1 e.2.1 e.2.2.1 e.2.2.2.1 e.2.2.2.2.1 e.2.2.2.2.2.1 e.2.2.2.2.2.2.1 e.2.2.2.2.2.2.2.1 e.2.2.2.2.2.2.2.2.1 e.2.2.2.2.2.2.2.2.2.1 e.2.2.2.2.2.2.2.2.2.2.1 e.2.2.2.2.2.2.2.2.2.2.2.1 e.2.2.2.2.2.2.2.2.2.2.2.2.1 e.2.2.2.2.2.2.2.2.2.2.2.2.2) _
 exact ok_Sd_103 e.1 e.2.1 e.2.2.1 e.2.2.2.1 e.2.2.2.2.1 e.2.2.2.2.2.1 e.2.2.2.2.2.2.1 e.2.2.2.2.2.2.2.1 e.2.2.2.2.2.2.2.2.1 e.2.2.2.2.2.2.2.2.2.1 e.2.2.2.2.2.2.2.2.2.2.1 e.2.2.2.2.2.2.2.2.2.2.2.1 e.2.2.2.2.2.2.2.2.2.2.2.2.1 e.2.2.2.2.2.2.2.2.2.2.2.2.2 r hm
theorem ok_Sd_40 (p2:LZb) (p0:Ze) (p1 f:Int) (b:LI) (c d:LB) (y) (hm:m_Sd_40 p2 p0 p1 f b c d=some y) (Q)
  (hin:∀ s,y=.inl s→EE c_Sd_40 K_Sd_40 (s_Sd_40 p2 p0 p1 s.1 s.2.1 s.2.2.1 s.2.2.2) Q) (hout:∀ e,y=.inr e→O_Sd_40 p2 p0 p1 Q e):EE c_Sd_40 K_Sd_40 (s_Sd_40 p2 p0 p1 f b c d) Q:=by
 obtain ⟨g,hm⟩|⟨g,hm⟩:=split_ite hm
 ·obtain ⟨a,h,hm⟩:=bind_some hm
  obtain ⟨j,i,hm⟩:=bind_some hm
  exact gw (hin _ (qj hm).symm) (u1 g<|wO (.res (res_So a))<|wO (.rows (mi ([a]:LI)))<|wO (zn 1)<|wO (.rows (mi (b++([a]:LI))))<|wO (zn ((b++([a]:LI)).length))<|wO (zn (([]:LZc).length))<|wO (zn ((b++([a]:LI)).length))<|wO (zn c.length)<|wO (zn d.length)<|wP (ok_So p0 f a h)<|wP (Eq.refl (mi ([a]:LI)))<|wP (len_map (rI .i64) (show 1=([a]:LI).length from rfl))<|wP (all_le (rI .i64) ([a]:LI) rfl)<|wP (app_ck (rI .i64) b ([a]:LI) rfl rfl i)<|wP (app_tell (rI .i64) b ([a]:LI) rfl rfl)<|wP (len_map (rI .i64) (show (b++([a]:LI)).length=(b++([a]:LI)).length from rfl))<|wP (lens (([]:LZc).length) (([]:LZc).length) rfl)<|wP (lens ((b++([a]:LI)).length) ((b++([a]:LI)).length) rfl)<|wP (ln c.length)<|wP (ln d.length)<|z0) (by kernel_rfl)
 ·refine gm c_Sd_52 K_Sd_52 (s_Sd_52 p2 p0 p1 b c d) (v1 g<|wO (zn (([]:LZc).length))<|wP (lens (([]:LZc).length) (([]:LZc).length) rfl)<|wK b.length c.length d.length<|z0) ?_ (by kernel_rfl)
  exact hout (b,c,d) (qj hm).symm
theorem ok_Sd_33 (p1:Int) (p2:LZb) (p0:Ze) (r:Zg) (hm:m_Sd_33 p1 p2 p0=some r):EE c_Sd_33 K_Sd_33 (s_Sd_33 p1 p2 p0) (Post vf_Sd (res_Sd r)):=by
 obtain ⟨f,a,hm⟩:=bind_some hm
 obtain ⟨g,d,hm⟩:=bind_some hm
 refine gm c_Sd_40 K_Sd_40 (s_Sd_40 p2 p0 p1 0 ([]:LI) (List.replicate (Int.toNat (p0.packets.length:Int)) (false:Bool)) (List.replicate (Int.toNat (p0.tracks.length:Int)) (false:Bool))) (wL rZb p0.packets<|wL rZa p0.tracks<|wO (.rows (mb (List.replicate (Int.toNat (p0.packets.length:Int)) (false:Bool))))<|wO (zn (Int.toNat (p0.packets.length:Int)))<|wO (.rows (mb (List.replicate (Int.toNat (p0.tracks.length:Int)) (false:Bool))))<|wO (zn (Int.toNat (p0.tracks.length:Int)))<|wO (zn p0.packets.length)<|wO (zn (([]:LZc).length))<|wO (zn (([]:LI).length))<|wO (zn ((List.replicate (Int.toNat (p0.packets.length:Int)) (false:Bool)).length))<|wO (zn ((List.replicate (Int.toNat (p0.tracks.length:Int)) (false:Bool)).length))<|wP (ck_p a)<|wP (rep_ob rB (Int.toNat (p0.packets.length:Int)) (false:Bool) [.lit (.bool false)] (by kernel_rfl))<|wP (len_map rB (show (Int.toNat (p0.packets.length:Int))=(List.replicate (Int.toNat (p0.packets.length:Int)) (false:Bool)).length from (rep_len (Int.toNat (p0.packets.length:Int)) (false:Bool))))<|wP (ck_p d)<|wP (rep_ob rB (Int.toNat (p0.tracks.length:Int)) (false:Bool) [.lit (.bool false)] (by kernel_rfl))<|wP (len_map rB (show (Int.toNat (p0.tracks.length:Int))=(List.replicate (Int.toNat (p0.tracks.length:Int)) (false:Bool)).length from (rep_len (Int.toNat (p0.tracks.length:Int)) (false:Bool))))<|wP (lm rZb p0.packets)<|wP (lens (([]:LZc).length) (([]:LZc).length) rfl)<|wP (lens 0 (([]:LI).length) rfl)<|wP (lens (Int.toNat (p0.packets.length:Int)) ((List.replicate (Int.toNat (p0.packets.length:Int)) (false:Bool)).length) (rep_len (Int.toNat (p0.packets.length:Int)) (false:Bool)))<|wP (lens (Int.toNat (p0.tracks.length:Int)) ((List.replicate (Int.toNat (p0.tracks.length:Int)) (false:Bool)).length) (rep_len (Int.toNat (p0.tracks.length:Int)) (false:Bool)))<|z0) ?_ (by kernel_rfl)
 obtain ⟨e,he,hm⟩:=bind_some hm
 refine loop_rule (u:=.c c_Sd_40) (K:=K_Sd_40) (Q:=(Post vf_Sd (res_Sd r))) (b:=lp_Sd_40 p2 p0 p1) (We:=O_Sd_40 p2 p0 p1 (Post vf_Sd (res_Sd r))) (stJ:=fun s=>s_Sd_40 p2 p0 p1 s.1 s.2.1 s.2.2.1 s.2.2.2) (s:=(0,([]:LI),(List.replicate (Int.toNat (p0.packets.length:Int)) (false:Bool)),(List.replicate (Int.toNat (p0.tracks.length:Int)) (false:Bool)))) (fun s y hb hin hout=>ok_Sd_40 p2 p0 p1 s.1 s.2.1 s.2.2.1 s.2.2.2 y hb (Post vf_Sd (res_Sd r)) hin hout) he ?_
 show EE c_Sd_52 K_Sd_52 (s_Sd_52 p2 p0 p1 e.1 e.2.1 e.2.2) _
 exact ok_Sd_52 p2 p0 p1 e.1 e.2.1 e.2.2 r hm
theorem ok_Sd_15 (p1:Int) (p2:LZb) (p0:Ze) (g:Int) (y) (hm:m_Sd_15 p1 p2 p0 g=some y) (Q)
  (hin:∀ s,y=.inl s→EE c_Sd_15 K_Sd_15 (s_Sd_15 p1 p2 p0 s) Q) (hout:∀ e,y=.inr e→O_Sd_15 p1 p2 p0 Q e):EE c_Sd_15 K_Sd_15 (s_Sd_15 p1 p2 p0 g) Q:=by
 obtain ⟨a,hm⟩|⟨a,hm⟩:=split_ite hm
 ·obtain ⟨b,c,hm⟩:=bind_some hm
  obtain ⟨d,h,hm⟩:=bind_some hm
  obtain ⟨f,hm⟩|⟨f,hm⟩:=split_ite hm
  ·exact gw (hin _ (qj hm).symm) (u1 a<|wO (.row (rZc b))<|wO (.res (res_Sn d))<|wP (rd_nn c)<|wP (at_row rZc (rd_get c))<|wP (ok_Sn b d h)<|v1 (not_f f)<|wO (zn (([]:LZc).length))<|wP (lens (([]:LZc).length) (([]:LZc).length) rfl)<|z0) (by kernel_rfl)
  ·have hQ:Q=Post vf_Sd (res_Sd (Zg.mk 1 ([]:LZc) 0 0)):=hout (.inl (Zg.mk 1 ([]:LZc) 0 0)) (qj hm).symm
   subst hQ
   exact ge (u1 a<|wO (.row (rZc b))<|wO (.res (res_Sn d))<|wP (rd_nn c)<|wP (at_row rZc (rd_get c))<|wP (ok_Sn b d h)<|u1 (not_t f)<|wO (.rows (List.map rZf ([]:LZc)))<|wP (all_le0 rZf ([]:LZc) rfl)<|wP (all_t rZf ([]:LZc) rfl)<|z0) (rfl:res_Sd (Zg.mk 1 ([]:LZc) 0 0)=res_Sd (Zg.mk 1 ([]:LZc) 0 0)) (by kernel_rfl)
 ·refine gm c_Sd_33 K_Sd_33 (s_Sd_33 p1 p2 p0) (v1 a<|wO (zn (([]:LZc).length))<|wP (lens (([]:LZc).length) (([]:LZc).length) rfl)<|z0) ?_ (by kernel_rfl)
  exact hout (.inr ()) (qj hm).symm
theorem ok_Sd_5 (p1:Int) (p2:LZb) (p0:Ze) (d:Bool) (r:Zg) (hm:m_Sd_5 p1 p2 p0 d=some r):EE c_Sd_5 K_Sd_5 (s_Sd_5 p1 p2 p0 d) (Post vf_Sd (res_Sd r)):=by
 obtain ⟨a,hm⟩|⟨a,hm⟩:=split_ite hm
 ·exact ge (u1 a<|wO (.rows (List.map rZf ([]:LZc)))<|wP (all_le0 rZf ([]:LZc) rfl)<|wP (all_t rZf ([]:LZc) rfl)<|z0) (congrArg res_Sd (qj hm)) (by kernel_rfl)
 ·refine gm c_Sd_15 K_Sd_15 (s_Sd_15 p1 p2 p0 0) (v1 a<|wL rZc p2<|wO (zn (([]:LZc).length))<|wP (lens (([]:LZc).length) (([]:LZc).length) rfl)<|z0) ?_ (by kernel_rfl)
  obtain ⟨e,he,hm⟩:=bind_some hm
  refine loop_rule (u:=.c c_Sd_15) (K:=K_Sd_15) (Q:=(Post vf_Sd (res_Sd r))) (b:=lp_Sd_15 p1 p2 p0) (We:=O_Sd_15 p1 p2 p0 (Post vf_Sd (res_Sd r))) (stJ:=fun s=>s_Sd_15 p1 p2 p0 s) (s:=0) (fun s y hb hin hout=>ok_Sd_15 p1 p2 p0 s y hb (Post vf_Sd (res_Sd r)) hin hout) he ?_
  rcases e with e | e
  ·exact congrArg (fun r=>Post vf_Sd (res_Sd r)) (qj hm).symm
  ·show EE c_Sd_33 K_Sd_33 (s_Sd_33 p1 p2 p0) _
   exact ok_Sd_33 p1 p2 p0 r hm
theorem ok_Sd_0 (p0:Ze) (p1:Int) (p2:LZb) (r:Zg) (hm:m_Sd_0 p0 p1 p2=some r):EE c_Sd_0 K_Sd_0 (s_Sd_0 p0 p1 p2) (Post vf_Sd (res_Sd r)):=by
 obtain ⟨a,c,hm⟩:=bind_some hm
 obtain ⟨b,hm⟩|⟨b,hm⟩:=split_ite hm
 ·obtain ⟨d,hm⟩|⟨d,hm⟩:=split_ite hm
  ·exact gw (ok_Sd_5 _ _ _ _ r hm) (wO (.res (res_Sc a))<|wP (ok_Sc p0 a c)<|v3 (not_f b)<|u3 d<|u4 eT<|wO (zn (([]:LZc).length))<|wP (lens 0 (([]:LZc).length) rfl)<|z0) (by kernel_rfl)
  ·obtain ⟨e,hm⟩|⟨e,hm⟩:=split_ite hm
   ·exact gw (ok_Sd_5 _ _ _ _ r hm) (wO (.res (res_Sc a))<|wP (ok_Sc p0 a c)<|v3 (not_f b)<|v3 d<|u4 e<|wO (zn (([]:LZc).length))<|wP (lens 0 (([]:LZc).length) rfl)<|z0) (by kernel_rfl)
   ·exact gw (ok_Sd_5 _ _ _ _ r hm) (wO (.res (res_Sc a))<|wP (ok_Sc p0 a c)<|v3 (not_f b)<|v3 d<|v2 e<|wL rZc p2<|v2 e<|wO (zn (([]:LZc).length))<|wP (lens 0 (([]:LZc).length) rfl)<|z0) (by kernel_rfl)
 ·exact gw (ok_Sd_5 _ _ _ _ r hm) (wO (.res (res_Sc a))<|wP (ok_Sc p0 a c)<|u3 (not_t b)<|u4 eT<|u3 eT<|wO (zn (([]:LZc).length))<|wP (lens 0 (([]:LZc).length) rfl)<|z0) (by kernel_rfl)
theorem ok_Sd (p0:Ze) (p1:Int) (p2:LZb) (r:Zg) (hm:m_Sd p0 p1 p2=some r):Runs ext tbl 26 (as_Sd p0 p1 p2) (res_Sd r):=
 runs_of (vf:=vf_Sd) (by kernel_rfl) rfl (st:=(enter vf_Sd (as_Sd p0 p1 p2)).getD default) (by kernel_rfl) (go_on [] 1000 J0 (ok_Sd_0 p0 p1 p2 r hm) (by kernel_rfl))
theorem ok_Sb_0 (p0:Ze) (p1 r:Int) (hm:m_Sb_0 p0 p1=some r):EE c_Sb_0 K_Sb_0 (s_Sb_0 p0 p1) (Post vf_Sb (res_Sb r)):=by
 obtain ⟨a,d,hm⟩:=bind_some hm
 obtain ⟨c,hm⟩|⟨c,hm⟩:=split_ite hm
 ·obtain ⟨b,hm⟩|⟨b,hm⟩:=split_ite hm
  ·exact ge (wO (.res (res_Sc a))<|wP (ok_Sc p0 a d)<|v3 (not_f c)<|u4 b<|u2 b<|u1 eT<|z0) (congrArg res_Sb (qj hm)) (by kernel_rfl)
  ·obtain ⟨e,hm⟩|⟨e,hm⟩:=split_ite hm
   ·exact ge (wO (.res (res_Sc a))<|wP (ok_Sc p0 a d)<|v3 (not_f c)<|v4 b<|wL rZb p0.packets<|v2 b<|u1 e<|z0) (congrArg res_Sb (qj hm)) (by kernel_rfl)
   ·obtain ⟨f,g,hm⟩:=bind_some hm
    exact ge (wO (.res (res_Sc a))<|wP (ok_Sc p0 a d)<|v3 (not_f c)<|v4 b<|wL rZb p0.packets<|v2 b<|v1 e<|wO (.res (res_So f))<|wP (ok_So p0 p1 f g)<|z0) (congrArg res_Sb (qj hm)) (by kernel_rfl)
 ·exact ge (wO (.res (res_Sc a))<|wP (ok_Sc p0 a d)<|u3 (not_t c)<|u4 eT<|u3 eT<|z0) (congrArg res_Sb (qj hm)) (by kernel_rfl)
theorem ok_Sb (p0:Ze) (p1 r:Int) (hm:m_Sb p0 p1=some r):Runs ext tbl 27 (as_Sb p0 p1) (res_Sb r):=
 runs_of (vf:=vf_Sb) (by kernel_rfl) rfl (st:=(enter vf_Sb (as_Sb p0 p1)).getD default) (by kernel_rfl) (go_on [] 1000 J0 (ok_Sb_0 p0 p1 r hm) (by kernel_rfl))
def O_laws_FnPlayer_62 (a:Int) (b:Zg) (Q:VX→St→Prop) (e:(Bool)⊕((Unit))):Prop:=match e with | .inl e=>Q=Post vf_laws_FnPlayer (res_laws_FnPlayer e) | .inr e=>EE c_laws_FnPlayer_92 K_laws_FnPlayer_92 (s_laws_FnPlayer_92 a b) Q
def O_laws_FnPlayer_39 (a b:Zg) (c:Ze×Int×LZb) (Q:VX→St→Prop) (e:(Int)):Prop:=EE c_laws_FnPlayer_55 K_laws_FnPlayer_55 (s_laws_FnPlayer_55 a b c e) Q
theorem ok_laws_FnPlayer_92 (a:Int) (b:Zg) (r:Bool) (hm:m_laws_FnPlayer_92 a b=some r):EE c_laws_FnPlayer_92 K_laws_FnPlayer_92 (s_laws_FnPlayer_92 a b) (Post vf_laws_FnPlayer (res_laws_FnPlayer r)):=by
 exact ge (z0) (congrArg res_laws_FnPlayer (qj hm)) (by kernel_rfl)
theorem ok_laws_FnPlayer_62 (x:Int) (k v:Zg) (a:Ze×Int×LZb) (B C:Int) (y) (hm:m_laws_FnPlayer_62 x k v a B C=some y) (Q)
  (hin:∀ s,y=.inl s→EE c_laws_FnPlayer_62 K_laws_FnPlayer_62 (s_laws_FnPlayer_62 x k v a s.1 s.2) Q) (hout:∀ e,y=.inr e→O_laws_FnPlayer_62 x k Q e):EE c_laws_FnPlayer_62 K_laws_FnPlayer_62 (s_laws_FnPlayer_62 x k v a B C) Q:=by
 obtain ⟨l,hm⟩|⟨l,hm⟩:=split_ite hm
 ·obtain ⟨j,f,hm⟩:=bind_some hm
  obtain ⟨o,g,hm⟩:=bind_some hm
  obtain ⟨d,hm⟩|⟨d,hm⟩:=split_ite hm
  ·obtain ⟨p,hm⟩|⟨p,hm⟩:=split_ite hm
   ·have hQ:Q=Post vf_laws_FnPlayer (res_laws_FnPlayer false):=hout (.inl false) (qj hm).symm
    subst hQ
    exact ge (u1 l<|wO (.row (rZf j))<|wO (.row (rZf o))<|wP (rd_in rfl f)<|wP (at_row rZf (rd_get0 f))<|wP (rd_in rfl g)<|wP (at_row rZf (rd_get0 g))<|v4 (not_f d)<|v1 (not_f d)<|u4 p<|u4 eT<|u4 eT<|u4 eT<|u4 eT<|u1 eT<|z0) (rfl:res_laws_FnPlayer false=res_laws_FnPlayer false) (by kernel_rfl)
   ·obtain ⟨i,hm⟩|⟨i,hm⟩:=split_ite hm
    ·have hQ:Q=Post vf_laws_FnPlayer (res_laws_FnPlayer false):=hout (.inl false) (qj hm).symm
     subst hQ
     exact ge (u1 l<|wO (.row (rZf j))<|wO (.row (rZf o))<|wP (rd_in rfl f)<|wP (at_row rZf (rd_get0 f))<|wP (rd_in rfl g)<|wP (at_row rZf (rd_get0 g))<|v4 (not_f d)<|v1 (not_f d)<|v4 p<|u4 i<|u3 i<|u4 eT<|u4 eT<|u2 eT<|z0) (rfl:res_laws_FnPlayer false=res_laws_FnPlayer false) (by kernel_rfl)
    ·obtain ⟨c,hm⟩|⟨c,hm⟩:=split_ite hm
     ·have hQ:Q=Post vf_laws_FnPlayer (res_laws_FnPlayer false):=hout (.inl false) (qj hm).symm
      subst hQ
      exact ge (u1 l<|wO (.row (rZf j))<|wO (.row (rZf o))<|wP (rd_in rfl f)<|wP (at_row rZf (rd_get0 f))<|wP (rd_in rfl g)<|wP (at_row rZf (rd_get0 g))<|v4 (not_f d)<|v1 (not_f d)<|v4 p<|v4 i<|v3 i<|u4 c<|u4 c<|u1 c<|u1 eT<|z0) (rfl:res_laws_FnPlayer false=res_laws_FnPlayer false) (by kernel_rfl)
     ·obtain ⟨m,w,hm⟩:=bind_some hm
      obtain ⟨t,hm⟩|⟨t,hm⟩:=split_ite hm
      ·have hQ:Q=Post vf_laws_FnPlayer (res_laws_FnPlayer false):=hout (.inl false) (qj hm).symm
       subst hQ
       exact ge (u1 l<|wO (.row (rZf j))<|wO (.row (rZf o))<|wP (rd_in rfl f)<|wP (at_row rZf (rd_get0 f))<|wP (rd_in rfl g)<|wP (at_row rZf (rd_get0 g))<|v4 (not_f d)<|v1 (not_f d)<|v4 p<|v4 i<|v3 i<|v4 c<|wO (.rows (List.map rZa a.1.tracks))<|wO (.rows (List.map rZb a.1.packets))<|wO (.res (res_Sb m))<|wP (all_le rZa a.1.tracks rfl)<|wP (all_dt rZa a.1.tracks rfl)<|wP (all_le rZb a.1.packets rfl)<|wP (all_dt rZb a.1.packets rfl)<|wP (ok_Sb a.1 j.packet m w)<|v1 c<|wP (by decide:(1000:Int)≠0)<|v4 c<|u1 t<|z0) (rfl:res_laws_FnPlayer false=res_laws_FnPlayer false) (by kernel_rfl)
      ·obtain ⟨r,h,hm⟩:=bind_some hm
       obtain ⟨z,q,hm⟩:=bind_some hm
       obtain ⟨b,hm⟩|⟨b,hm⟩:=split_ite hm
       ·obtain ⟨n,hm⟩|⟨n,hm⟩:=split_ite hm
        ·have hQ:Q=Post vf_laws_FnPlayer (res_laws_FnPlayer false):=hout (.inl false) (qj hm).symm
         subst hQ
         exact ge (u1 l<|wO (.row (rZf j))<|wO (.row (rZf o))<|wP (rd_in rfl f)<|wP (at_row rZf (rd_get0 f))<|wP (rd_in rfl g)<|wP (at_row rZf (rd_get0 g))<|v4 (not_f d)<|v1 (not_f d)<|v4 p<|v4 i<|v3 i<|v4 c<|wO (.rows (List.map rZa a.1.tracks))<|wO (.rows (List.map rZb a.1.packets))<|wO (.res (res_Sb m))<|wP (all_le rZa a.1.tracks rfl)<|wP (all_dt rZa a.1.tracks rfl)<|wP (all_le rZb a.1.packets rfl)<|wP (all_dt rZb a.1.packets rfl)<|wP (ok_Sb a.1 j.packet m w)<|v1 c<|wP (by decide:(1000:Int)≠0)<|v4 c<|v1 t<|wO (.row (rZb r))<|wO (.row (rZa z))<|wP (rd_in rfl h)<|wP (at_row rZb (rd_get0 h))<|wP (rd_in rfl q)<|wP (at_row rZa (rd_get0 q))<|u4 b<|u1 b<|wP (rd_in rfl h)<|u2 b<|wO (.row (rZb r))<|wP (at_row rZb (rd_get0 h))<|u1 b<|u4 n<|u1 b<|u1 n<|u1 b<|u1 eT<|z0) (rfl:res_laws_FnPlayer false=res_laws_FnPlayer false) (by kernel_rfl)
        ·obtain ⟨u,hm⟩|⟨u,hm⟩:=split_ite hm
         ·obtain ⟨A,hm⟩|⟨A,hm⟩:=split_ite hm
          ·have hQ:Q=Post vf_laws_FnPlayer (res_laws_FnPlayer false):=hout (.inl false) (qj hm).symm
           subst hQ
           exact ge (u1 l<|wO (.row (rZf j))<|wO (.row (rZf o))<|wP (rd_in rfl f)<|wP (at_row rZf (rd_get0 f))<|wP (rd_in rfl g)<|wP (at_row rZf (rd_get0 g))<|v4 (not_f d)<|v1 (not_f d)<|v4 p<|v4 i<|v3 i<|v4 c<|wO (.rows (List.map rZa a.1.tracks))<|wO (.rows (List.map rZb a.1.packets))<|wO (.res (res_Sb m))<|wP (all_le rZa a.1.tracks rfl)<|wP (all_dt rZa a.1.tracks rfl)<|wP (all_le rZb a.1.packets rfl)<|wP (all_dt rZb a.1.packets rfl)<|wP (ok_Sb a.1 j.packet m w)<|v1 c<|wP (by decide:(1000:Int)≠0)<|v4 c<|v1 t<|wO (.row (rZb r))<|wO (.row (rZa z))<|wP (rd_in rfl h)<|wP (at_row rZb (rd_get0 h))<|wP (rd_in rfl q)<|wP (at_row rZa (rd_get0 q))<|u4 b<|u1 b<|wP (rd_in rfl h)<|u2 b<|wO (.row (rZb r))<|wP (at_row rZb (rd_get0 h))<|u1 b<|v3 n<|u2 u<|v1 n<|u1 u<|u1 b<|v1 n<|u1 b<|u1 A<|z0) (rfl:res_laws_FnPlayer false=res_laws_FnPlayer false) (by kernel_rfl)
          ·exact gw (hin _ (qj hm).symm) (u1 l<|wO (.row (rZf j))<|wO (.row (rZf o))<|wP (rd_in rfl f)<|wP (at_row rZf (rd_get0 f))<|wP (rd_in rfl g)<|wP (at_row rZf (rd_get0 g))<|v4 (not_f d)<|v1 (not_f d)<|v4 p<|v4 i<|v3 i<|v4 c<|wO (.rows (List.map rZa a.1.tracks))<|wO (.rows (List.map rZb a.1.packets))<|wO (.res (res_Sb m))<|wP (all_le rZa a.1.tracks rfl)<|wP (all_dt rZa a.1.tracks rfl)<|wP (all_le rZb a.1.packets rfl)<|wP (all_dt rZb a.1.packets rfl)<|wP (ok_Sb a.1 j.packet m w)<|v1 c<|wP (by decide:(1000:Int)≠0)<|v4 c<|v1 t<|wO (.row (rZb r))<|wO (.row (rZa z))<|wP (rd_in rfl h)<|wP (at_row rZb (rd_get0 h))<|wP (rd_in rfl q)<|wP (at_row rZa (rd_get0 q))<|u4 b<|u1 b<|wP (rd_in rfl h)<|u2 b<|wO (.row (rZb r))<|wP (at_row rZb (rd_get0 h))<|u1 b<|v3 n<|u2 u<|v1 n<|u1 u<|u1 b<|v1 n<|u1 b<|v1 A<|wK k.shows.length a.1.tracks.length a.1.packets.length<|wN k.shows.length<|wN v.shows.length<|z0) (by kernel_rfl)
         ·exact gw (hin _ (qj hm).symm) (u1 l<|wO (.row (rZf j))<|wO (.row (rZf o))<|wP (rd_in rfl f)<|wP (at_row rZf (rd_get0 f))<|wP (rd_in rfl g)<|wP (at_row rZf (rd_get0 g))<|v4 (not_f d)<|v1 (not_f d)<|v4 p<|v4 i<|v3 i<|v4 c<|wO (.rows (List.map rZa a.1.tracks))<|wO (.rows (List.map rZb a.1.packets))<|wO (.res (res_Sb m))<|wP (all_le rZa a.1.tracks rfl)<|wP (all_dt rZa a.1.tracks rfl)<|wP (all_le rZb a.1.packets rfl)<|wP (all_dt rZb a.1.packets rfl)<|wP (ok_Sb a.1 j.packet m w)<|v1 c<|wP (by decide:(1000:Int)≠0)<|v4 c<|v1 t<|wO (.row (rZb r))<|wO (.row (rZa z))<|wP (rd_in rfl h)<|wP (at_row rZb (rd_get0 h))<|wP (rd_in rfl q)<|wP (at_row rZa (rd_get0 q))<|u4 b<|u1 b<|wP (rd_in rfl h)<|u2 b<|wO (.row (rZb r))<|wP (at_row rZb (rd_get0 h))<|u1 b<|v3 n<|v2 u<|v1 n<|v1 u<|u1 b<|v1 n<|u1 b<|v1 eF<|wK k.shows.length a.1.tracks.length a.1.packets.length<|wN k.shows.length<|wN v.shows.length<|z0) (by kernel_rfl)
       ·exact gw (hin _ (qj hm).symm) (u1 l<|wO (.row (rZf j))<|wO (.row (rZf o))<|wP (rd_in rfl f)<|wP (at_row rZf (rd_get0 f))<|wP (rd_in rfl g)<|wP (at_row rZf (rd_get0 g))<|v4 (not_f d)<|v1 (not_f d)<|v4 p<|v4 i<|v3 i<|v4 c<|wO (.rows (List.map rZa a.1.tracks))<|wO (.rows (List.map rZb a.1.packets))<|wO (.res (res_Sb m))<|wP (all_le rZa a.1.tracks rfl)<|wP (all_dt rZa a.1.tracks rfl)<|wP (all_le rZb a.1.packets rfl)<|wP (all_dt rZb a.1.packets rfl)<|wP (ok_Sb a.1 j.packet m w)<|v1 c<|wP (by decide:(1000:Int)≠0)<|v4 c<|v1 t<|wO (.row (rZb r))<|wO (.row (rZa z))<|wP (rd_in rfl h)<|wP (at_row rZb (rd_get0 h))<|wP (rd_in rfl q)<|wP (at_row rZa (rd_get0 q))<|v4 b<|v4 b<|v2 b<|v1 eF<|wK k.shows.length a.1.tracks.length a.1.packets.length<|wN k.shows.length<|wN v.shows.length<|z0) (by kernel_rfl)
  ·have hQ:Q=Post vf_laws_FnPlayer (res_laws_FnPlayer false):=hout (.inl false) (qj hm).symm
   subst hQ
   exact ge (u1 l<|wO (.row (rZf j))<|wO (.row (rZf o))<|wP (rd_in rfl f)<|wP (at_row rZf (rd_get0 f))<|wP (rd_in rfl g)<|wP (at_row rZf (rd_get0 g))<|u4 (not_t d)<|u1 (not_t d)<|u4 eT<|u4 eT<|u4 eT<|u4 eT<|u4 eT<|u1 eT<|z0) (rfl:res_laws_FnPlayer false=res_laws_FnPlayer false) (by kernel_rfl)
 ·refine gm c_laws_FnPlayer_92 K_laws_FnPlayer_92 (s_laws_FnPlayer_92 x k) (v1 l<|wN k.shows.length<|z0) ?_ (by kernel_rfl)
  exact hout (.inr ()) (qj hm).symm
theorem ok_laws_FnPlayer_55 (a g:Zg) (f:Ze×Int×LZb) (d:Int) (r:Bool) (hm:m_laws_FnPlayer_55 a g f d=some r):EE c_laws_FnPlayer_55 K_laws_FnPlayer_55 (s_laws_FnPlayer_55 a g f d) (Post vf_laws_FnPlayer (res_laws_FnPlayer r)):=by
 refine gm c_laws_FnPlayer_62 K_laws_FnPlayer_62 (s_laws_FnPlayer_62 d a g f 0 0) (wK a.shows.length f.1.tracks.length f.1.packets.length<|wN a.shows.length<|wN g.shows.length<|z0) ?_ (by kernel_rfl)
 obtain ⟨e,he,hm⟩:=bind_some hm
 refine loop_rule (u:=.c c_laws_FnPlayer_62) (K:=K_laws_FnPlayer_62) (Q:=(Post vf_laws_FnPlayer (res_laws_FnPlayer r))) (b:=lp_laws_FnPlayer_62 d a g f) (We:=O_laws_FnPlayer_62 d a (Post vf_laws_FnPlayer (res_laws_FnPlayer r))) (stJ:=fun s=>s_laws_FnPlayer_62 d a g f s.1 s.2) (s:=(0,0)) (fun s y hb hin hout=>ok_laws_FnPlayer_62 d a g f s.1 s.2 y hb (Post vf_laws_FnPlayer (res_laws_FnPlayer r)) hin hout) he ?_
 rcases e with e | e
 ·exact congrArg (fun r=>Post vf_laws_FnPlayer (res_laws_FnPlayer r)) (qj hm).symm
 ·show EE c_laws_FnPlayer_92 K_laws_FnPlayer_92 (s_laws_FnPlayer_92 d a) _
  exact ok_laws_FnPlayer_92 d a r hm
theorem ok_laws_FnPlayer_39 (a:Ze×Int×LZb) (b c:Zg) (d i:Int) (y) (hm:m_laws_FnPlayer_39 a b c d i=some y) (Q)
  (hin:∀ s,y=.inl s→EE c_laws_FnPlayer_39 K_laws_FnPlayer_39 (s_laws_FnPlayer_39 a b c s.1 s.2) Q) (hout:∀ e,y=.inr e→O_laws_FnPlayer_39 b c a Q e):EE c_laws_FnPlayer_39 K_laws_FnPlayer_39 (s_laws_FnPlayer_39 a b c d i) Q:=by
 obtain ⟨f,hm⟩|⟨f,hm⟩:=split_ite hm
 ·obtain ⟨j,g,hm⟩:=bind_some hm
  obtain ⟨h,hm⟩|⟨h,hm⟩:=split_ite hm
  ·exact gw (hin _ (qj hm).symm) (u1 f<|wO (.row (rZc j))<|wP (rd_in rfl g)<|wP (at_row rZc (rd_get0 g))<|u1 h<|wK a.2.2.length a.1.tracks.length a.1.packets.length<|wN b.shows.length<|wN c.shows.length<|z0) (by kernel_rfl)
  ·exact gw (hin _ (qj hm).symm) (u1 f<|wO (.row (rZc j))<|wP (rd_in rfl g)<|wP (at_row rZc (rd_get0 g))<|v1 h<|wK a.2.2.length a.1.tracks.length a.1.packets.length<|wN b.shows.length<|wN c.shows.length<|z0) (by kernel_rfl)
 ·refine gm c_laws_FnPlayer_55 K_laws_FnPlayer_55 (s_laws_FnPlayer_55 b c a d) (v1 f<|wK a.1.tracks.length a.1.packets.length b.shows.length<|wN c.shows.length<|z0) ?_ (by kernel_rfl)
  exact hout d (qj hm).symm
theorem ok_laws_FnPlayer_0 (p0:LI) (r:Bool) (hm:m_laws_FnPlayer_0 p0=some r):EE c_laws_FnPlayer_0 K_laws_FnPlayer_0 (s_laws_FnPlayer_0 p0) (Post vf_laws_FnPlayer (res_laws_FnPlayer r)):=by
 obtain ⟨j,hm⟩|⟨j,hm⟩:=split_ite hm
 ·exact ge (wL (rI .u8) p0<|u1 j<|z0) (congrArg res_laws_FnPlayer (qj hm)) (by kernel_rfl)
 ·obtain ⟨a,k,hm⟩:=bind_some hm
  obtain ⟨f,l,hm⟩:=bind_some hm
  obtain ⟨g,m,hm⟩:=bind_some hm
  obtain ⟨d,hm⟩|⟨d,hm⟩:=split_ite hm
  ·exact ge (wL (rI .u8) p0<|v1 j<|wO (.res (res_Sa a))<|wP (ok_Sa p0 a k)<|ta2 a.1.tracks a.1.packets a.2.2<|wO (.rows (List.map rZa a.1.tracks))<|wO (.rows (List.map rZb a.1.packets))<|wO (.rows (List.map rZc a.2.2))<|wO (.res (res_Ib f))<|wO (zn f.shows.length)<|wO (.rows (List.map rZa a.1.tracks))<|wO (.rows (List.map rZb a.1.packets))<|wO (.rows (List.map rZc a.2.2))<|wO (.res (res_Sd g))<|wO (zn g.shows.length)<|wO zT<|wO zT<|wO zT<|wO zT<|wO zT<|wO zT<|wO zT<|wO zT<|wO zT<|wO zT<|wO zT<|wO zT<|wO zT<|wO zT<|wO zT<|wO zT<|wO zT<|wO zT<|wO zT<|wO zT<|wO zT<|wP (all_le rZa a.1.tracks rfl)<|wP (all_dt rZa a.1.tracks rfl)<|wP (all_le rZb a.1.packets rfl)<|wP (all_dt rZb a.1.packets rfl)<|wP (all_le rZc a.2.2 rfl)<|wP (all_dt rZc a.2.2 rfl)<|wP (ok_Ib a.1 a.2.1 a.2.2 f l)<|wP (lm rZf f.shows)<|wP (all_le rZa a.1.tracks rfl)<|wP (all_dt rZa a.1.tracks rfl)<|wP (all_le rZb a.1.packets rfl)<|wP (all_dt rZb a.1.packets rfl)<|wP (all_le rZc a.2.2 rfl)<|wP (all_dt rZc a.2.2 rfl)<|wP (ok_Sd a.1 a.2.1 a.2.2 g m)<|wP (lm rZf g.shows)<|wP d<|wP d<|wP d<|wP d<|wP d<|wP d<|wP eT<|wP eT<|wP eT<|wP eT<|wP eT<|wP eT<|wP eT<|wP eT<|wP eT<|wP eT<|wP eT<|wP eT<|wP eT<|wP eT<|wP eT<|z0) (congrArg res_laws_FnPlayer (qj hm)) (by kernel_rfl)
  ·obtain ⟨i,hm⟩|⟨i,hm⟩:=split_ite hm
   ·exact ge (wL (rI .u8) p0<|v1 j<|wO (.res (res_Sa a))<|wP (ok_Sa p0 a k)<|ta2 a.1.tracks a.1.packets a.2.2<|wO (.rows (List.map rZa a.1.tracks))<|wO (.rows (List.map rZb a.1.packets))<|wO (.rows (List.map rZc a.2.2))<|wO (.res (res_Ib f))<|wO (zn f.shows.length)<|wO (.rows (List.map rZa a.1.tracks))<|wO (.rows (List.map rZb a.1.packets))<|wO (.rows (List.map rZc a.2.2))<|wO (.res (res_Sd g))<|wO (zn g.shows.length)<|wO zF<|wO zF<|wO zF<|wO zF<|wO zF<|wO zF<|wO zT<|wO zT<|wO zT<|wO zT<|wO zT<|wO zT<|wO zT<|wO zT<|wO zT<|wO zT<|wO zT<|wO zT<|wO zT<|wO zT<|wO zT<|wP (all_le rZa a.1.tracks rfl)<|wP (all_dt rZa a.1.tracks rfl)<|wP (all_le rZb a.1.packets rfl)<|wP (all_dt rZb a.1.packets rfl)<|wP (all_le rZc a.2.2 rfl)<|wP (all_dt rZc a.2.2 rfl)<|wP (ok_Ib a.1 a.2.1 a.2.2 f l)<|wP (lm rZf f.shows)<|wP (all_le rZa a.1.tracks rfl)<|wP (all_dt rZa a.1.tracks rfl)<|wP (all_le rZb a.1.packets rfl)<|wP (all_dt rZb a.1.packets rfl)<|wP (all_le rZc a.2.2 rfl)<|wP (all_dt rZc a.2.2 rfl)<|wP (ok_Sd a.1 a.2.1 a.2.2 g m)<|wP (lm rZf g.shows)<|wP d<|wP d<|wP d<|wP d<|wP d<|wP d<|wP i<|wP i<|wP i<|wP i<|wP i<|wP i<|wP eT<|wP eT<|wP eT<|wP eT<|wP eT<|wP eT<|wP eT<|wP eT<|wP eT<|z0) (congrArg res_laws_FnPlayer (qj hm)) (by kernel_rfl)
   ·obtain ⟨h,hm⟩|⟨h,hm⟩:=split_ite hm
    ·exact ge (wL (rI .u8) p0<|v1 j<|wO (.res (res_Sa a))<|wP (ok_Sa p0 a k)<|ta2 a.1.tracks a.1.packets a.2.2<|wO (.rows (List.map rZa a.1.tracks))<|wO (.rows (List.map rZb a.1.packets))<|wO (.rows (List.map rZc a.2.2))<|wO (.res (res_Ib f))<|wO (zn f.shows.length)<|wO (.rows (List.map rZa a.1.tracks))<|wO (.rows (List.map rZb a.1.packets))<|wO (.rows (List.map rZc a.2.2))<|wO (.res (res_Sd g))<|wO (zn g.shows.length)<|wO zF<|wO zF<|wO zF<|wO zF<|wO zF<|wO zF<|wO zF<|wO zF<|wO zF<|wO zF<|wO zF<|wO zF<|wO zT<|wO zT<|wO zT<|wO zT<|wO zT<|wO zT<|wO zT<|wO zT<|wO zT<|wP (all_le rZa a.1.tracks rfl)<|wP (all_dt rZa a.1.tracks rfl)<|wP (all_le rZb a.1.packets rfl)<|wP (all_dt rZb a.1.packets rfl)<|wP (all_le rZc a.2.2 rfl)<|wP (all_dt rZc a.2.2 rfl)<|wP (ok_Ib a.1 a.2.1 a.2.2 f l)<|wP (lm rZf f.shows)<|wP (all_le rZa a.1.tracks rfl)<|wP (all_dt rZa a.1.tracks rfl)<|wP (all_le rZb a.1.packets rfl)<|wP (all_dt rZb a.1.packets rfl)<|wP (all_le rZc a.2.2 rfl)<|wP (all_dt rZc a.2.2 rfl)<|wP (ok_Sd a.1 a.2.1 a.2.2 g m)<|wP (lm rZf g.shows)<|wP d<|wP d<|wP d<|wP d<|wP d<|wP d<|wP i<|wP i<|wP i<|wP i<|wP i<|wP i<|wP h<|wP h<|wP h<|wP h<|wP h<|wP h<|wP h<|wP h<|wP eT<|z0) (congrArg res_laws_FnPlayer (qj hm)) (by kernel_rfl)
    ·obtain ⟨n,hm⟩|⟨n,hm⟩:=split_ite hm
     ·exact ge (wL (rI .u8) p0<|v1 j<|wO (.res (res_Sa a))<|wP (ok_Sa p0 a k)<|ta2 a.1.tracks a.1.packets a.2.2<|wO (.rows (List.map rZa a.1.tracks))<|wO (.rows (List.map rZb a.1.packets))<|wO (.rows (List.map rZc a.2.2))<|wO (.res (res_Ib f))<|wO (zn f.shows.length)<|wO (.rows (List.map rZa a.1.tracks))<|wO (.rows (List.map rZb a.1.packets))<|wO (.rows (List.map rZc a.2.2))<|wO (.res (res_Sd g))<|wO (zn g.shows.length)<|wO zF<|wO zF<|wO zF<|wO zF<|wO zF<|wO zF<|wO zF<|wO zF<|wO zF<|wO zF<|wO zF<|wO zF<|wO zF<|wO zF<|wO zF<|wO zF<|wO zF<|wO zF<|wO zF<|wO zF<|wO zT<|wP (all_le rZa a.1.tracks rfl)<|wP (all_dt rZa a.1.tracks rfl)<|wP (all_le rZb a.1.packets rfl)<|wP (all_dt rZb a.1.packets rfl)<|wP (all_le rZc a.2.2 rfl)<|wP (all_dt rZc a.2.2 rfl)<|wP (ok_Ib a.1 a.2.1 a.2.2 f l)<|wP (lm rZf f.shows)<|wP (all_le rZa a.1.tracks rfl)<|wP (all_dt rZa a.1.tracks rfl)<|wP (all_le rZb a.1.packets rfl)<|wP (all_dt rZb a.1.packets rfl)<|wP (all_le rZc a.2.2 rfl)<|wP (all_dt rZc a.2.2 rfl)<|wP (ok_Sd a.1 a.2.1 a.2.2 g m)<|wP (lm rZf g.shows)<|wP d<|wP d<|wP d<|wP d<|wP d<|wP d<|wP i<|wP i<|wP i<|wP i<|wP i<|wP i<|wP h<|wP h<|wP h<|wP h<|wP h<|wP h<|wP h<|wP h<|wP n<|z0) (congrArg res_laws_FnPlayer (qj hm)) (by kernel_rfl)
     ·obtain ⟨o,hm⟩|⟨o,hm⟩:=split_ite hm
      ·exact ge (wL (rI .u8) p0<|v1 j<|wO (.res (res_Sa a))<|wP (ok_Sa p0 a k)<|ta2 a.1.tracks a.1.packets a.2.2<|wO (.rows (List.map rZa a.1.tracks))<|wO (.rows (List.map rZb a.1.packets))<|wO (.rows (List.map rZc a.2.2))<|wO (.res (res_Ib f))<|wO (zn f.shows.length)<|wO (.rows (List.map rZa a.1.tracks))<|wO (.rows (List.map rZb a.1.packets))<|wO (.rows (List.map rZc a.2.2))<|wO (.res (res_Sd g))<|wO (zn g.shows.length)<|wO zF<|wO zF<|wO zF<|wO zF<|wO zF<|wO zF<|wO zF<|wO zF<|wO zF<|wO zF<|wO zF<|wO zF<|wO zF<|wO zF<|wO zF<|wO zF<|wO zF<|wO zF<|wO zF<|wO zF<|wO zF<|wO zT<|wP (all_le rZa a.1.tracks rfl)<|wP (all_dt rZa a.1.tracks rfl)<|wP (all_le rZb a.1.packets rfl)<|wP (all_dt rZb a.1.packets rfl)<|wP (all_le rZc a.2.2 rfl)<|wP (all_dt rZc a.2.2 rfl)<|wP (ok_Ib a.1 a.2.1 a.2.2 f l)<|wP (lm rZf f.shows)<|wP (all_le rZa a.1.tracks rfl)<|wP (all_dt rZa a.1.tracks rfl)<|wP (all_le rZb a.1.packets rfl)<|wP (all_dt rZb a.1.packets rfl)<|wP (all_le rZc a.2.2 rfl)<|wP (all_dt rZc a.2.2 rfl)<|wP (ok_Sd a.1 a.2.1 a.2.2 g m)<|wP (lm rZf g.shows)<|wP d<|wP d<|wP d<|wP d<|wP d<|wP d<|wP i<|wP i<|wP i<|wP i<|wP i<|wP i<|wP h<|wP h<|wP h<|wP h<|wP h<|wP h<|wP h<|wP h<|wP n<|wP o<|z0) (congrArg res_laws_FnPlayer (qj hm)) (by kernel_rfl)
      ·refine gm c_laws_FnPlayer_39 K_laws_FnPlayer_39 (s_laws_FnPlayer_39 a f g 0 0) (wL (rI .u8) p0<|v1 j<|wO (.res (res_Sa a))<|wP (ok_Sa p0 a k)<|ta2 a.1.tracks a.1.packets a.2.2<|wO (.rows (List.map rZa a.1.tracks))<|wO (.rows (List.map rZb a.1.packets))<|wO (.rows (List.map rZc a.2.2))<|wO (.res (res_Ib f))<|wO (zn f.shows.length)<|wO (.rows (List.map rZa a.1.tracks))<|wO (.rows (List.map rZb a.1.packets))<|wO (.rows (List.map rZc a.2.2))<|wO (.res (res_Sd g))<|wO (zn g.shows.length)<|wO zF<|wO zF<|wO zF<|wO zF<|wO zF<|wO zF<|wO zF<|wO zF<|wO zF<|wO zF<|wO zF<|wO zF<|wO zF<|wO zF<|wO zF<|wO zF<|wO zF<|wO zF<|wO zF<|wO zF<|wO zF<|wO zF<|wO (zn a.2.2.length)<|wO (zn a.1.tracks.length)<|wO (zn a.1.packets.length)<|wO (zn f.shows.length)<|wO (zn g.shows.length)<|wP (all_le rZa a.1.tracks rfl)<|wP (all_dt rZa a.1.tracks rfl)<|wP (all_le rZb a.1.packets rfl)<|wP (all_dt rZb a.1.packets rfl)<|wP (all_le rZc a.2.2 rfl)<|wP (all_dt rZc a.2.2 rfl)<|wP (ok_Ib a.1 a.2.1 a.2.2 f l)<|wP (lm rZf f.shows)<|wP (all_le rZa a.1.tracks rfl)<|wP (all_dt rZa a.1.tracks rfl)<|wP (all_le rZb a.1.packets rfl)<|wP (all_dt rZb a.1.packets rfl)<|wP (all_le rZc a.2.2 rfl)<|wP (all_dt rZc a.2.2 rfl)<|wP (ok_Sd a.1 a.2.1 a.2.2 g m)<|wP (lm rZf g.shows)<|wP d<|wP d<|wP d<|wP d<|wP d<|wP d<|wP i<|wP i<|wP i<|wP i<|wP i<|wP i<|wP h<|wP h<|wP h<|wP h<|wP h<|wP h<|wP h<|wP h<|wP n<|wP o<|wP (ln a.2.2.length)<|wP (ln a.1.tracks.length)<|wP (ln a.1.packets.length)<|wP (ln f.shows.length)<|wP (ln g.shows.length)<|z0) ?_ (by kernel_rfl)
       obtain ⟨e,he,hm⟩:=bind_some hm
       refine loop_rule (u:=.c c_laws_FnPlayer_39) (K:=K_laws_FnPlayer_39) (Q:=(Post vf_laws_FnPlayer (res_laws_FnPlayer r))) (b:=lp_laws_FnPlayer_39 a f g) (We:=O_laws_FnPlayer_39 f g a (Post vf_laws_FnPlayer (res_laws_FnPlayer r))) (stJ:=fun s=>s_laws_FnPlayer_39 a f g s.1 s.2) (s:=(0,0)) (fun s y hb hin hout=>ok_laws_FnPlayer_39 a f g s.1 s.2 y hb (Post vf_laws_FnPlayer (res_laws_FnPlayer r)) hin hout) he ?_
       show EE c_laws_FnPlayer_55 K_laws_FnPlayer_55 (s_laws_FnPlayer_55 f g a e) _
       exact ok_laws_FnPlayer_55 f g a e r hm
theorem ok_laws_FnPlayer (p0:LI) (r:Bool) (hm:m_laws_FnPlayer p0=some r):Runs ext tbl 5 (as_laws_FnPlayer p0) (res_laws_FnPlayer r):=
 runs_of (vf:=vf_laws_FnPlayer) (by kernel_rfl) rfl (st:=(enter vf_laws_FnPlayer (as_laws_FnPlayer p0)).getD default) (by kernel_rfl) (go_on [] 1000 J0 (ok_laws_FnPlayer_0 p0 r hm) (by kernel_rfl))
end Go.Proofs.V

namespace Go.Proofs.V
open Go
theorem all_fi:∀ x ∈ tblL,x.2.given=false→funcIs Go.Proofs.Try.prog tbl x.1 x.2=true:=by
 simp only [tblL,List.forall_mem_cons]
 exact ⟨(fun _=>fi_Sz),(fun _=>fi_Sbb),(fun _=>fi_Sbc),(fun _=>fi_Sba),(fun _=>fi_Sx),(fun _=>fi_Sh),(fun _=>fi_Sf),(fun _=>fi_Sm),(fun _=>fi_Sw),(fun _=>fi_Sbd),(fun _=>fi_Sg),(fun _=>fi_Sy),(fun _=>fi_Sv),(fun _=>fi_Sa),(fun _=>fi_Il),(fun _=>fi_Ik),(fun _=>fi_Ij),(fun _=>fi_If),(fun _=>fi_Ia),(fun _=>fi_Id),(fun _=>fi_Ic),(fun _=>fi_Ie),(fun _=>fi_Ig),(fun _=>fi_Ih),(fun _=>fi_Ii),(fun _=>fi_Ib),(fun _=>fi_Se),(fun _=>fi_Sk),(fun _=>fi_Sl),(fun _=>fi_Sj),(fun _=>fi_Si),(fun _=>fi_Sc),(fun _=>fi_Sn),(fun _=>fi_So),(fun _=>fi_Sr),(fun _=>fi_Sq),(fun _=>fi_Sp),(fun _=>fi_Ss),(fun _=>fi_St),(fun _=>fi_Su),(fun _=>fi_Sd),(fun _=>fi_Sb),(fun _=>fi_laws_FnPlayer),fun _ h=>by cases h⟩
theorem all_given:∀ x ∈ tblL,x.2.given=true→∀ ars res st0,enter x.2 ars=some st0→ext x.1 ars=some res→callable Go.Proofs.Try.prog x.1=true∧Does gI Go.Proofs.Try.prog x.1 x.2 st0 res:=by
 simp only [tblL,List.forall_mem_cons]
 exact ⟨(fun h=>by cases h),(fun h=>by cases h),(fun h=>by cases h),(fun h=>by cases h),(fun h=>by cases h),(fun h=>by cases h),(fun h=>by cases h),(fun h=>by cases h),(fun h=>by cases h),(fun h=>by cases h),(fun h=>by cases h),(fun h=>by cases h),(fun h=>by cases h),(fun h=>by cases h),(fun h=>by cases h),(fun h=>by cases h),(fun h=>by cases h),(fun h=>by cases h),(fun h=>by cases h),(fun h=>by cases h),(fun h=>by cases h),(fun h=>by cases h),(fun h=>by cases h),(fun h=>by cases h),(fun h=>by cases h),(fun h=>by cases h),(fun h=>by cases h),(fun h=>by cases h),(fun h=>by cases h),(fun h=>by cases h),(fun h=>by cases h),(fun h=>by cases h),(fun h=>by cases h),(fun h=>by cases h),(fun h=>by cases h),(fun h=>by cases h),(fun h=>by cases h),(fun h=>by cases h),(fun h=>by cases h),(fun h=>by cases h),(fun h=>by cases h),(fun h=>by cases h),(fun h=>by cases h),fun _ h=>by cases h⟩
theorem sound:∀ n,FSound gI Go.Proofs.Try.prog tbl (vrun ext tbl n):=table_sound (fun _=>rfl) ext all_given all_fi
def lawPs:List (Bool×List Ty):=[(false,[.sl [.int .u8]])]
theorem pure_law:LawPure ext tbl 5 lawPs:=by
 intro tss hl hw
 match tss,hl with
 | [t0],_=>
  obtain ⟨x0,rfl,w0⟩ :=(dec_sl (dec_int .u8)) t0 (hw 0 _ t0 rfl rfl)
  exact ok_laws_FnPlayer x0 true (final_FnPlayer x0 w0)
end Go.Proofs.V
