import Derived.Test.YtcppkjgbnhcikaaFnExactReadIndexV4
set_option linter.unusedVariables false
set_option maxRecDepth 100000
namespace Go.Proofs.V
open Go
theorem ok_St_17 (p0:Zd) (d b:Int) (a:LI) (y) (hm:m_St_17 p0 d b a=some y) (Q)
  (hin:∀ s,y=.inl s→EE c_St_17 K_St_17 (s_St_17 p0 s.1 s.2.1 s.2.2) Q) (hout:∀ e,y=.inr e→O_St_17 p0 Q e):EE c_St_17 K_St_17 (s_St_17 p0 d b a) Q:=by
 obtain ⟨c,hm⟩|⟨c,hm⟩:=split_ite hm
 ·obtain ⟨g,f,hm⟩:=bind_some hm
  exact gw (hin _ (qj hm).symm) (u1 c<|wO (.rows (mi (a.set (0+Int.toNat b) (-1))))<|wO (zn ((a.set (0+Int.toNat b) (-1)).length))<|wP (rd_in rfl f)<|wP (put_ob (rI .i64) (-1) 0 (.lit (vI (-1))) (rd_get0 f) (by kernel_rfl) (by kernel_rfl))<|wP (lens a.length ((a.set (0+Int.toNat b) (-1)).length) (set_len rfl))<|z0) (by kernel_rfl)
 ·refine gm c_St_29 K_St_29 (s_St_29 p0 a) (v1 c<|wN a.length<|z0) ?_ (by kernel_rfl)
  exact hout a (qj hm).symm
theorem ok_St_0 (p0:Zd) (r:Bool) (hm:m_St_0 p0=some r):EE c_St_0 K_St_0 (s_St_0 p0) (Post vf_St (res_St r)):=by
 obtain ⟨d,f,hm⟩:=bind_some hm
 obtain ⟨a,hm⟩|⟨a,hm⟩:=split_ite hm
 ·obtain ⟨g,hm⟩|⟨g,hm⟩:=split_ite hm
  ·exact ge (wO (.res (res_Sw d))<|wP (ok_Sw p0.tracks d f)<|v3 (not_f a)<|wL rZc p0.packets<|v2 (not_f a)<|u1 g<|z0) (congrArg res_St (qj hm)) (by kernel_rfl)
  ·obtain ⟨i,h,hm⟩:=bind_some hm
   refine gm c_St_17 K_St_17 (s_St_17 p0 ((Int.toNat (p0.tracks.length:Int)):Int) 0 (List.replicate (Int.toNat (p0.tracks.length:Int)) (0:Int))) (wO (.res (res_Sw d))<|wP (ok_Sw p0.tracks d f)<|v3 (not_f a)<|wL rZc p0.packets<|v2 (not_f a)<|v1 g<|wL rZb p0.tracks<|wO (.rows (mi (List.replicate (Int.toNat (p0.tracks.length:Int)) (0:Int))))<|wO (zn (Int.toNat (p0.tracks.length:Int)))<|wO (zn ((List.replicate (Int.toNat (p0.tracks.length:Int)) (0:Int)).length))<|wP (ck_p h)<|wP (rep_ob (rI .i64) (Int.toNat (p0.tracks.length:Int)) (0:Int) [.lit (vI 0)] (by kernel_rfl))<|wP (len_map (rI .i64) (show (Int.toNat (p0.tracks.length:Int))=(List.replicate (Int.toNat (p0.tracks.length:Int)) (0:Int)).length from (rep_len (Int.toNat (p0.tracks.length:Int)) (0:Int))))<|wP (lens (Int.toNat (p0.tracks.length:Int)) ((List.replicate (Int.toNat (p0.tracks.length:Int)) (0:Int)).length) (rep_len (Int.toNat (p0.tracks.length:Int)) (0:Int)))<|z0) ?_ (by kernel_rfl)
   obtain ⟨e,he,hm⟩:=bind_some hm
   refine loop_rule (u:=.c c_St_17) (K:=K_St_17) (Q:=(Post vf_St (res_St r))) (b:=lp_St_17 p0) (We:=O_St_17 p0 (Post vf_St (res_St r))) (stJ:=fun s=>s_St_17 p0 s.1 s.2.1 s.2.2) (s:=(((Int.toNat (p0.tracks.length:Int)):Int),0,(List.replicate (Int.toNat (p0.tracks.length:Int)) (0:Int)))) (fun s y hb hin hout=>ok_St_17 p0 s.1 s.2.1 s.2.2 y hb (Post vf_St (res_St r)) hin hout) he ?_
   show EE c_St_29 K_St_29 (s_St_29 p0 e) _
   exact ok_St_29 p0 e r hm
 ·exact ge (wO (.res (res_Sw d))<|wP (ok_Sw p0.tracks d f)<|u4 (not_t a)<|u1 (not_t a)<|u1 eT<|z0) (congrArg res_St (qj hm)) (by kernel_rfl)
theorem ok_St (p0:Zd) (r:Bool) (hm:m_St p0=some r):Runs ext tbl 103 (as_St p0) (res_St r):=
 runs_of (vf:=vf_St) (by kernel_rfl) rfl (st:=(enter vf_St (as_St p0)).getD default) (by kernel_rfl) (go_on [] 1000 J0 (ok_St_0 p0 r hm) (by kernel_rfl))
theorem ok_Sf_0 (p0:Zd) (p1 p2:Int) (r:Bool) (hm:m_Sf_0 p0 p1 p2=some r):EE c_Sf_0 K_Sf_0 (s_Sf_0 p0 p1 p2) (Post vf_Sf (res_Sf r)):=by
 obtain ⟨f,a,hm⟩:=bind_some hm
 obtain ⟨g,b,hm⟩:=bind_some hm
 obtain ⟨h,c,hm⟩:=bind_some hm
 obtain ⟨i,d,hm⟩:=bind_some hm
 obtain ⟨e,hm⟩|⟨e,hm⟩:=split_ite hm
 ·exact ge (wO (.row (rZc f))<|wO (.row (rZc g))<|wO (.row (rZb h))<|wO (.row (rZb i))<|wO zT<|wP (rd_nn a)<|wP (at_row rZc (rd_get a))<|wP (rd_nn b)<|wP (at_row rZc (rd_get b))<|wP (rd_nn c)<|wP (at_row rZb (rd_get c))<|wP (rd_nn d)<|wP (at_row rZb (rd_get d))<|wP e<|z0) (congrArg res_Sf (qj hm)) (by kernel_rfl)
 ·obtain ⟨j,hm⟩|⟨j,hm⟩:=split_ite hm
  ·exact ge (wO (.row (rZc f))<|wO (.row (rZc g))<|wO (.row (rZb h))<|wO (.row (rZb i))<|wO zF<|wO zT<|wP (rd_nn a)<|wP (at_row rZc (rd_get a))<|wP (rd_nn b)<|wP (at_row rZc (rd_get b))<|wP (rd_nn c)<|wP (at_row rZb (rd_get c))<|wP (rd_nn d)<|wP (at_row rZb (rd_get d))<|wP e<|wP j<|z0) (congrArg res_Sf (qj hm)) (by kernel_rfl)
  ·exact ge (wO (.row (rZc f))<|wO (.row (rZc g))<|wO (.row (rZb h))<|wO (.row (rZb i))<|wO zF<|wO zF<|wP (rd_nn a)<|wP (at_row rZc (rd_get a))<|wP (rd_nn b)<|wP (at_row rZc (rd_get b))<|wP (rd_nn c)<|wP (at_row rZb (rd_get c))<|wP (rd_nn d)<|wP (at_row rZb (rd_get d))<|wP e<|wP j<|z0) (congrArg res_Sf (qj hm)) (by kernel_rfl)
theorem ok_Sf (p0:Zd) (p1 p2:Int) (r:Bool) (hm:m_Sf p0 p1 p2=some r):Runs ext tbl 104 (as_Sf p0 p1 p2) (res_Sf r):=
 runs_of (vf:=vf_Sf) (by kernel_rfl) rfl (st:=(enter vf_Sf (as_Sf p0 p1 p2)).getD default) (by kernel_rfl) (go_on [] 1000 J0 (ok_Sf_0 p0 p1 p2 r hm) (by kernel_rfl))
def O_Sc_15 (Q:VX→St→Prop) (e:(Bool)⊕((Unit))):Prop:=match e with | .inl e=>Q=Post vf_Sc (res_Sc e) | .inr e=>EE c_Sc_31 K_Sc_31 (s_Sc_31) Q
theorem ok_Sc_31 (r:Bool) (hm:m_Sc_31=some r):EE c_Sc_31 K_Sc_31 (s_Sc_31) (Post vf_Sc (res_Sc r)):=by
 exact ge (z0) (congrArg res_Sc (qj hm)) (by kernel_rfl)
theorem ok_Sc_15 (p0:Zd) (a:Int) (y) (hm:m_Sc_15 p0 a=some y) (Q)
  (hin:∀ s,y=.inl s→EE c_Sc_15 K_Sc_15 (s_Sc_15 p0 s) Q) (hout:∀ e,y=.inr e→O_Sc_15 Q e):EE c_Sc_15 K_Sc_15 (s_Sc_15 p0 a) Q:=by
 obtain ⟨b,hm⟩|⟨b,hm⟩:=split_ite hm
 ·obtain ⟨c,f,hm⟩:=bind_some hm
  obtain ⟨d,hm⟩|⟨d,hm⟩:=split_ite hm
  ·exact gw (hin _ (qj hm).symm) (wL rZc p0.packets<|u1 b<|wO (.res (res_Sf c))<|wP (ok_Sf p0 (w64 (a - 1)) a c f)<|v1 (not_f d)<|z0) (by kernel_rfl)
  ·have hQ:Q=Post vf_Sc (res_Sc false):=hout (.inl false) (qj hm).symm
   subst hQ
   exact ge (wL rZc p0.packets<|u1 b<|wO (.res (res_Sf c))<|wP (ok_Sf p0 (w64 (a - 1)) a c f)<|u1 (not_t d)<|z0) (rfl:res_Sc false=res_Sc false) (by kernel_rfl)
 ·refine gm c_Sc_31 K_Sc_31 (s_Sc_31) (wL rZc p0.packets<|v1 b<|z0) ?_ (by kernel_rfl)
  exact hout (.inr ()) (qj hm).symm
theorem ok_Sc_0 (p0:Zd) (r:Bool) (hm:m_Sc_0 p0=some r):EE c_Sc_0 K_Sc_0 (s_Sc_0 p0) (Post vf_Sc (res_Sc r)):=by
 obtain ⟨a,f,hm⟩:=bind_some hm
 obtain ⟨d,hm⟩|⟨d,hm⟩:=split_ite hm
 ·refine gm c_Sc_15 K_Sc_15 (s_Sc_15 p0 1) (wO (.res (res_St a))<|wP (ok_St p0 a f)<|v1 (not_f d)<|z0) ?_ (by kernel_rfl)
  obtain ⟨e,he,hm⟩:=bind_some hm
  refine loop_rule (u:=.c c_Sc_15) (K:=K_Sc_15) (Q:=(Post vf_Sc (res_Sc r))) (b:=lp_Sc_15 p0) (We:=O_Sc_15 (Post vf_Sc (res_Sc r))) (stJ:=fun s=>s_Sc_15 p0 s) (s:=1) (fun s y hb hin hout=>ok_Sc_15 p0 s y hb (Post vf_Sc (res_Sc r)) hin hout) he ?_
  rcases e with e | e
  ·exact congrArg (fun r=>Post vf_Sc (res_Sc r)) (qj hm).symm
  ·show EE c_Sc_31 K_Sc_31 (s_Sc_31) _
   exact ok_Sc_31 r hm
 ·exact ge (wO (.res (res_St a))<|wP (ok_St p0 a f)<|u1 (not_t d)<|z0) (congrArg res_Sc (qj hm)) (by kernel_rfl)
theorem ok_Sc (p0:Zd) (r:Bool) (hm:m_Sc p0=some r):Runs ext tbl 48 (as_Sc p0) (res_Sc r):=
 runs_of (vf:=vf_Sc) (by kernel_rfl) rfl (st:=(enter vf_Sc (as_Sc p0)).getD default) (by kernel_rfl) (go_on [] 1000 J0 (ok_Sc_0 p0 r hm) (by kernel_rfl))
def O_Sl_37 (a:Int) (Q:VX→St→Prop) (e:(Bool×LI×Int×Int×Int×Int×LZa×LZb×LZ)):Prop:=EE c_Sl_55 K_Sl_55 (s_Sl_55 a e.1 e.2.1 e.2.2.1 e.2.2.2.1 e.2.2.2.2.1 e.2.2.2.2.2.1 e.2.2.2.2.2.2.1 e.2.2.2.2.2.2.2.1 e.2.2.2.2.2.2.2.2) Q
theorem ok_Sl_73 (e:LI) (f g h i:Int) (b:LZa) (c:LZb) (d:LZ) (k:Bool) (r:Ze) (hm:m_Sl_73 e f g h i b c d k=some r):EE c_Sl_73 K_Sl_73 (s_Sl_73 e f g h i b c d k) (Post vf_Sl (res_Sl r)):=by
 obtain ⟨j,hm⟩|⟨j,hm⟩:=split_ite hm
 ·obtain ⟨a,l,hm⟩:=bind_some hm
  exact ge (u1 j<|ta0 b c d<|wO (.res (res_Sj a))<|wP (ok_Sj (Ze.mk e f g (Zd.mk b c) h i d) 6 a l)<|ta1 a.box.tracks a.box.packets a.index<|ta0 a.box.tracks a.box.packets a.index<|z0) (congrArg res_Sl (qj hm)) (by kernel_rfl)
 ·exact ge (v1 j<|ta0 b c d<|z0) (congrArg res_Sl (qj hm)) (by kernel_rfl)
theorem ok_Sl_71 (e:LI) (f g h i:Int) (a:LZa) (b:LZb) (d:LZ) (r:Ze) (hm:m_Sl_71 e f g h i a b d=some r):EE c_Sl_71 K_Sl_71 (s_Sl_71 e f g h i a b d) (Post vf_Sl (res_Sl r)):=by
 obtain ⟨c,hm⟩|⟨c,hm⟩:=split_ite hm
 ·obtain ⟨j,k,hm⟩:=bind_some hm
  exact gw (ok_Sl_73 _ _ _ _ _ _ _ _ _ r hm) (u4 c<|u1 c<|wO (.rows (List.map rZb a))<|wO (.rows (List.map rZc b))<|wO (.res (res_Sc j))<|wP (all_le rZb a rfl)<|wP (all_dt rZb a rfl)<|wP (all_le rZc b rfl)<|wP (all_dt rZc b rfl)<|wP (ok_Sc (Zd.mk a b) j k)<|u2 c<|wK a.length b.length d.length<|z0) (by kernel_rfl)
 ·exact gw (ok_Sl_73 _ _ _ _ _ _ _ _ _ r hm) (v4 c<|v3 c<|wK a.length b.length d.length<|z0) (by kernel_rfl)
theorem ok_Sl_68 (e:LI) (f g h i:Int) (b:LZa) (c:LZb) (d:LZ) (k:Bool) (r:Ze) (hm:m_Sl_68 e f g h i b c d k=some r):EE c_Sl_68 K_Sl_68 (s_Sl_68 e f g h i b c d k) (Post vf_Sl (res_Sl r)):=by
 obtain ⟨j,hm⟩|⟨j,hm⟩:=split_ite hm
 ·obtain ⟨a,l,hm⟩:=bind_some hm
  exact gw (ok_Sl_71 _ _ _ _ _ _ _ _ r hm) (u1 j<|ta0 b c d<|wO (.res (res_Sj a))<|wP (ok_Sj (Ze.mk e f g (Zd.mk b c) h i d) 8 a l)<|ta1 a.box.tracks a.box.packets a.index<|wK a.box.tracks.length a.box.packets.length a.index.length<|z0) (by kernel_rfl)
 ·exact gw (ok_Sl_71 _ _ _ _ _ _ _ _ r hm) (v1 j<|wK b.length c.length d.length<|z0) (by kernel_rfl)
theorem ok_Sl_65 (e:LI) (f g h i:Int) (b:LZa) (c:LZb) (d:LZ) (r:Ze) (hm:m_Sl_65 e f g h i b c d=some r):EE c_Sl_65 K_Sl_65 (s_Sl_65 e f g h i b c d) (Post vf_Sl (res_Sl r)):=by
 obtain ⟨a,hm⟩|⟨a,hm⟩:=split_ite hm
 ·exact gw (ok_Sl_68 _ _ _ _ _ _ _ _ _ r hm) (u4 a<|u4 a<|u1 a<|wL (rI .u8) e<|u2 a<|wK b.length c.length d.length<|z0) (by kernel_rfl)
 ·exact gw (ok_Sl_68 _ _ _ _ _ _ _ _ _ r hm) (v4 a<|v4 a<|v3 a<|wK b.length c.length d.length<|z0) (by kernel_rfl)
theorem ok_Sl_62 (a:Ze) (d:Bool) (r:Ze) (hm:m_Sl_62 a d=some r):EE c_Sl_62 K_Sl_62 (s_Sl_62 a d) (Post vf_Sl (res_Sl r)):=by
 obtain ⟨c,hm⟩|⟨c,hm⟩:=split_ite hm
 ·obtain ⟨b,e,hm⟩:=bind_some hm
  exact gw (ok_Sl_65 _ _ _ _ _ _ _ _ r hm) (u1 c<|ta0 a.box.tracks a.box.packets a.index<|wO (.res (res_Sj b))<|wP (ok_Sj a 5 b e)<|ta1 b.box.tracks b.box.packets b.index<|wK b.box.tracks.length b.box.packets.length b.index.length<|z0) (by kernel_rfl)
 ·exact gw (ok_Sl_65 _ _ _ _ _ _ _ _ r hm) (v1 c<|wK a.box.tracks.length a.box.packets.length a.index.length<|z0) (by kernel_rfl)
theorem ok_Sl_55 (g:Int) (p:Bool) (h:LI) (i j k l:Int) (d:LZa) (e:LZb) (f:LZ) (r:Ze) (hm:m_Sl_55 g p h i j k l d e f=some r):EE c_Sl_55 K_Sl_55 (s_Sl_55 g p h i j k l d e f) (Post vf_Sl (res_Sl r)):=by
 obtain ⟨a,n,hm⟩:=bind_some hm
 obtain ⟨b,o,hm⟩:=bind_some hm
 obtain ⟨c,hm⟩|⟨c,hm⟩:=split_ite hm
 ·obtain ⟨m,hm⟩|⟨m,hm⟩:=split_ite hm
  ·exact gw (ok_Sl_62 _ _ r hm) (ta0 d e f<|wO (.res (res_Sn a))<|wP (ok_Sn (Ze.mk h i j (Zd.mk d e) k l f) a n)<|ta1 a.2.box.tracks a.2.box.packets a.2.index<|ta0 a.2.box.tracks a.2.box.packets a.2.index<|wO (.res (res_Sq b))<|wP (ok_Sq a.2 g b o)<|ta1 b.box.tracks b.box.packets b.index<|u3 c<|v3 (not_f m)<|u1 c<|v1 (not_f m)<|u1 c<|wK b.box.tracks.length b.box.packets.length b.index.length<|z0) (by kernel_rfl)
  ·exact gw (ok_Sl_62 _ _ r hm) (ta0 d e f<|wO (.res (res_Sn a))<|wP (ok_Sn (Ze.mk h i j (Zd.mk d e) k l f) a n)<|ta1 a.2.box.tracks a.2.box.packets a.2.index<|ta0 a.2.box.tracks a.2.box.packets a.2.index<|wO (.res (res_Sq b))<|wP (ok_Sq a.2 g b o)<|ta1 b.box.tracks b.box.packets b.index<|u3 c<|u3 (not_t m)<|u1 c<|u1 (not_t m)<|u1 c<|wK b.box.tracks.length b.box.packets.length b.index.length<|z0) (by kernel_rfl)
 ·exact gw (ok_Sl_62 _ _ r hm) (ta0 d e f<|wO (.res (res_Sn a))<|wP (ok_Sn (Ze.mk h i j (Zd.mk d e) k l f) a n)<|ta1 a.2.box.tracks a.2.box.packets a.2.index<|ta0 a.2.box.tracks a.2.box.packets a.2.index<|wO (.res (res_Sq b))<|wP (ok_Sq a.2 g b o)<|ta1 b.box.tracks b.box.packets b.index<|v4 c<|v1 c<|wK b.box.tracks.length b.box.packets.length b.index.length<|z0) (by kernel_rfl)
theorem ok_Sl_37 (p:Int) (t:Int×Ze) (q:Bool) (x:Int) (i:LI) (j k l m:Int) (d:LZa) (f:LZb) (g:LZ) (y) (hm:m_Sl_37 p t q x i j k l m d f g=some y) (Q)
  (hin:∀ s,y=.inl s→EE c_Sl_37 K_Sl_37 (s_Sl_37 p t s.1 s.2.1 s.2.2.1 s.2.2.2.1 s.2.2.2.2.1 s.2.2.2.2.2.1 s.2.2.2.2.2.2.1 s.2.2.2.2.2.2.2.1 s.2.2.2.2.2.2.2.2.1 s.2.2.2.2.2.2.2.2.2) Q) (hout:∀ e,y=.inr e→O_Sl_37 p Q e):EE c_Sl_37 K_Sl_37 (s_Sl_37 p t q x i j k l m d f g) Q:=by
 obtain ⟨h,hm⟩|⟨h,hm⟩:=split_ite hm
 ·obtain ⟨r,hm⟩|⟨r,hm⟩:=split_ite hm
  ·obtain ⟨a,u,hm⟩:=bind_some hm
   obtain ⟨b,v,hm⟩:=bind_some hm
   obtain ⟨c,w,hm⟩:=bind_some hm
   obtain ⟨o,hm⟩|⟨o,hm⟩:=split_ite hm
   ·obtain ⟨n,hm⟩|⟨n,hm⟩:=split_ite hm
    ·obtain ⟨A,z,hm⟩:=bind_some hm
     exact gw (hin _ (qj hm).symm) (u4 h<|u2 h<|u1 r<|ta0 d f g<|wO (.res (res_Sn a))<|wP (ok_Sn (Ze.mk i j k (Zd.mk d f) l m g) a u)<|ta1 a.2.box.tracks a.2.box.packets a.2.index<|ta0 a.2.box.tracks a.2.box.packets a.2.index<|wO (.res (res_Sn b))<|wP (ok_Sn a.2 b v)<|ta1 b.2.box.tracks b.2.box.packets b.2.index<|ta0 b.2.box.tracks b.2.box.packets b.2.index<|wO (.res (res_Sn c))<|wP (ok_Sn b.2 c w)<|ta1 c.2.box.tracks c.2.box.packets c.2.index<|u4 o<|u4 o<|u4 n<|u2 n<|wP (rd_in rfl z)<|u1 n<|wO (.row (rZa A))<|wP (at_row rZa (rd_get0 z))<|u3 n<|wK c.2.box.tracks.length c.2.box.packets.length c.2.index.length<|z0) (by kernel_rfl)
    ·exact gw (hin _ (qj hm).symm) (u4 h<|u2 h<|u1 r<|ta0 d f g<|wO (.res (res_Sn a))<|wP (ok_Sn (Ze.mk i j k (Zd.mk d f) l m g) a u)<|ta1 a.2.box.tracks a.2.box.packets a.2.index<|ta0 a.2.box.tracks a.2.box.packets a.2.index<|wO (.res (res_Sn b))<|wP (ok_Sn a.2 b v)<|ta1 b.2.box.tracks b.2.box.packets b.2.index<|ta0 b.2.box.tracks b.2.box.packets b.2.index<|wO (.res (res_Sn c))<|wP (ok_Sn b.2 c w)<|ta1 c.2.box.tracks c.2.box.packets c.2.index<|u4 o<|u4 o<|v4 n<|v4 n<|v2 n<|wK c.2.box.tracks.length c.2.box.packets.length c.2.index.length<|z0) (by kernel_rfl)
   ·exact gw (hin _ (qj hm).symm) (u4 h<|u2 h<|u1 r<|ta0 d f g<|wO (.res (res_Sn a))<|wP (ok_Sn (Ze.mk i j k (Zd.mk d f) l m g) a u)<|ta1 a.2.box.tracks a.2.box.packets a.2.index<|ta0 a.2.box.tracks a.2.box.packets a.2.index<|wO (.res (res_Sn b))<|wP (ok_Sn a.2 b v)<|ta1 b.2.box.tracks b.2.box.packets b.2.index<|ta0 b.2.box.tracks b.2.box.packets b.2.index<|wO (.res (res_Sn c))<|wP (ok_Sn b.2 c w)<|ta1 c.2.box.tracks c.2.box.packets c.2.index<|v4 o<|v4 o<|v4 eF<|v4 eF<|v2 eF<|wK c.2.box.tracks.length c.2.box.packets.length c.2.index.length<|z0) (by kernel_rfl)
  ·refine gm c_Sl_55 K_Sl_55 (s_Sl_55 p q i j k l m d f g) (u4 h<|u2 h<|v1 r<|wK d.length f.length g.length<|z0) ?_ (by kernel_rfl)
   exact hout (q,i,j,k,l,m,d,f,g) (qj hm).symm
 ·refine gm c_Sl_55 K_Sl_55 (s_Sl_55 p q i j k l m d f g) (v4 h<|v2 h<|v1 eF<|wK d.length f.length g.length<|z0) ?_ (by kernel_rfl)
  exact hout (q,i,j,k,l,m,d,f,g) (qj hm).symm
theorem ok_Sl_30 (a:Int) (d:Int×Ze) (i:LI) (j k l m:Int) (g:LZa) (h:LZb) (f:LZ) (r:Ze) (hm:m_Sl_30 a d i j k l m g h f=some r):EE c_Sl_30 K_Sl_30 (s_Sl_30 a d i j k l m g h f) (Post vf_Sl (res_Sl r)):=by
 refine gm c_Sl_37 K_Sl_37 (s_Sl_37 a d (d.1 == (f.length:Int)) 0 i j k l m g h f) (wK g.length h.length f.length<|z0) ?_ (by kernel_rfl)
 obtain ⟨e,he,hm⟩:=bind_some hm
 refine loop_rule (u:=.c c_Sl_37) (K:=K_Sl_37) (Q:=(Post vf_Sl (res_Sl r))) (b:=lp_Sl_37 a d) (We:=O_Sl_37 a (Post vf_Sl (res_Sl r))) (stJ:=fun s=>s_Sl_37 a d s.1 s.2.1 s.2.2.1 s.2.2.2.1 s.2.2.2.2.1 s.2.2.2.2.2.1 s.2.2.2.2.2.2.1 s.2.2.2.2.2.2.2.1 s.2.2.2.2.2.2.2.2.1 s.2.2.2.2.2.2.2.2.2) (s:=((d.1 == (f.length:Int)),0,i,j,k,l,m,g,h,f)) (fun s y hb hin hout=>ok_Sl_37 a d s.1 s.2.1 s.2.2.1 s.2.2.2.1 s.2.2.2.2.1 s.2.2.2.2.2.1 s.2.2.2.2.2.2.1 s.2.2.2.2.2.2.2.1 s.2.2.2.2.2.2.2.2.1 s.2.2.2.2.2.2.2.2.2 y hb (Post vf_Sl (res_Sl r)) hin hout) he ?_
 show EE c_Sl_55 K_Sl_55 (s_Sl_55 a e.1 e.2.1 e.2.2.1 e.2.2.2.1 e.2.2.2.2.1 e.2.2.2.2.2.1 e.2.2.2.2.2.2.1 e.2.2.2.2.2.2.2.1 e.2.2.2.2.2.2.2.2) _
 exact ok_Sl_55 a e.1 e.2.1 e.2.2.1 e.2.2.2.1 e.2.2.2.2.1 e.2.2.2.2.2.1 e.2.2.2.2.2.2.1 e.2.2.2.2.2.2.2.1 e.2.2.2.2.2.2.2.2 r hm
theorem ok_Sl_27 (d:Int) (a:Int×Ze) (e:Bool) (r:Ze) (hm:m_Sl_27 d a e=some r):EE c_Sl_27 K_Sl_27 (s_Sl_27 d a e) (Post vf_Sl (res_Sl r)):=by
 obtain ⟨c,hm⟩|⟨c,hm⟩:=split_ite hm
 ·obtain ⟨b,f,hm⟩:=bind_some hm
  exact gw (ok_Sl_30 _ _ _ _ _ _ _ _ _ _ r hm) (u1 c<|ta0 a.2.box.tracks a.2.box.packets a.2.index<|wO (.res (res_Sj b))<|wP (ok_Sj a.2 5 b f)<|ta1 b.box.tracks b.box.packets b.index<|wK b.box.tracks.length b.box.packets.length b.index.length<|z0) (by kernel_rfl)
 ·exact gw (ok_Sl_30 _ _ _ _ _ _ _ _ _ _ r hm) (v1 c<|wK a.2.box.tracks.length a.2.box.packets.length a.2.index.length<|z0) (by kernel_rfl)
theorem ok_Sl_12 (e:LI) (f g h i:Int) (b:LZa) (c:LZb) (d:LZ) (r:Ze) (hm:m_Sl_12 e f g h i b c d=some r):EE c_Sl_12 K_Sl_12 (s_Sl_12 e f g h i b c d) (Post vf_Sl (res_Sl r)):=by
 obtain ⟨j,hm⟩|⟨j,hm⟩:=split_ite hm
 ·exact ge (u1 j<|ta0 b c d<|z0) (congrArg res_Sl (qj hm)) (by kernel_rfl)
 ·obtain ⟨a,l,hm⟩:=bind_some hm
  obtain ⟨k,hm⟩|⟨k,hm⟩:=split_ite hm
  ·exact gw (ok_Sl_27 _ _ _ r hm) (v1 j<|ta0 b c d<|wO (.res (res_Sn a))<|wP (ok_Sn (Ze.mk e (w64 (f+8)) g (Zd.mk b c) h i d) a l)<|ta1 a.2.box.tracks a.2.box.packets a.2.index<|u3 k<|wK a.2.box.tracks.length a.2.box.packets.length a.2.index.length<|z0) (by kernel_rfl)
  ·exact gw (ok_Sl_27 _ _ _ r hm) (v1 j<|ta0 b c d<|wO (.res (res_Sn a))<|wP (ok_Sn (Ze.mk e (w64 (f+8)) g (Zd.mk b c) h i d) a l)<|ta1 a.2.box.tracks a.2.box.packets a.2.index<|v3 k<|wK a.2.box.tracks.length a.2.box.packets.length a.2.index.length<|z0) (by kernel_rfl)
theorem ok_Sl_9 (k:Bool) (e:LI) (f g h i:Int) (b:LZa) (c:LZb) (d:LZ) (r:Ze) (hm:m_Sl_9 k e f g h i b c d=some r):EE c_Sl_9 K_Sl_9 (s_Sl_9 k e f g h i b c d) (Post vf_Sl (res_Sl r)):=by
 obtain ⟨j,hm⟩|⟨j,hm⟩:=split_ite hm
 ·obtain ⟨a,l,hm⟩:=bind_some hm
  exact gw (ok_Sl_12 _ _ _ _ _ _ _ _ r hm) (u1 j<|ta0 b c d<|wO (.res (res_Sj a))<|wP (ok_Sj (Ze.mk e f g (Zd.mk b c) h i d) 4 a l)<|ta1 a.box.tracks a.box.packets a.index<|wK a.box.tracks.length a.box.packets.length a.index.length<|z0) (by kernel_rfl)
 ·exact gw (ok_Sl_12 _ _ _ _ _ _ _ _ r hm) (v1 j<|wK b.length c.length d.length<|z0) (by kernel_rfl)
theorem ok_Sl_6 (g:LI) (h i j k:Int) (d:LZa) (e:LZb) (f:LZ) (r:Ze) (hm:m_Sl_6 g h i j k d e f=some r):EE c_Sl_6 K_Sl_6 (s_Sl_6 g h i j k d e f) (Post vf_Sl (res_Sl r)):=by
 obtain ⟨c,hm⟩|⟨c,hm⟩:=split_ite hm
 ·obtain ⟨b,l,hm⟩:=bind_some hm
  obtain ⟨a,m,hm⟩:=bind_some hm
  exact gw (ok_Sl_9 _ _ _ _ _ _ _ _ _ r hm) (u2 c<|wO (.res (res_Sg b))<|wP (ok_Sg  b l)<|wL (rI .u8) b<|u1 c<|wO (.rows (List.map (rI .u8) b))<|wP (all_le (rI .u8) b rfl)<|wP (all_dt (rI .u8) b rfl)<|ta0 d e f<|wO (.res (res_Sm a))<|wP (ok_Sm (Ze.mk g h i (Zd.mk d e) j k f) b a m)<|ta1 a.2.box.tracks a.2.box.packets a.2.index<|u2 c<|wK a.2.box.tracks.length a.2.box.packets.length a.2.index.length<|z0) (by kernel_rfl)
 ·exact gw (ok_Sl_9 _ _ _ _ _ _ _ _ _ r hm) (v4 c<|v1 c<|wK d.length e.length f.length<|z0) (by kernel_rfl)
theorem ok_Sl_3 (p0:Ze) (c:Bool) (r:Ze) (hm:m_Sl_3 p0 c=some r):EE c_Sl_3 K_Sl_3 (s_Sl_3 p0 c) (Post vf_Sl (res_Sl r)):=by
 obtain ⟨b,hm⟩|⟨b,hm⟩:=split_ite hm
 ·obtain ⟨a,d,hm⟩:=bind_some hm
  exact gw (ok_Sl_6 _ _ _ _ _ _ _ _ r hm) (u1 b<|ta0 p0.box.tracks p0.box.packets p0.index<|wO (.res (res_Sj a))<|wP (ok_Sj p0 2 a d)<|ta1 a.box.tracks a.box.packets a.index<|wK a.box.tracks.length a.box.packets.length a.index.length<|z0) (by kernel_rfl)
 ·exact gw (ok_Sl_6 _ _ _ _ _ _ _ _ r hm) (v1 b<|wK p0.box.tracks.length p0.box.packets.length p0.index.length<|z0) (by kernel_rfl)
theorem ok_Sl_0 (p0 r:Ze) (hm:m_Sl_0 p0=some r):EE c_Sl_0 K_Sl_0 (s_Sl_0 p0) (Post vf_Sl (res_Sl r)):=by
 obtain ⟨a,hm⟩|⟨a,hm⟩:=split_ite hm
 ·exact gw (ok_Sl_3 _ _ r hm) (u4 a<|u1 a<|wL (rI .u8) p0.data<|u4 a<|u3 a<|wK p0.box.tracks.length p0.box.packets.length p0.index.length<|z0) (by kernel_rfl)
 ·exact gw (ok_Sl_3 _ _ r hm) (v4 a<|v4 a<|v4 a<|wK p0.box.tracks.length p0.box.packets.length p0.index.length<|z0) (by kernel_rfl)
theorem ok_Sl (p0 r:Ze) (hm:m_Sl p0=some r):Runs ext tbl 136 (as_Sl p0) (res_Sl r):=
 runs_of (vf:=vf_Sl) (by kernel_rfl) rfl (st:=(enter vf_Sl (as_Sl p0)).getD default) (by kernel_rfl) (go_on [zn p0.box.tracks.length,zn p0.box.packets.length,zn p0.index.length] 1000 (J (len_map rZb (rfl:p0.box.tracks.length=p0.box.tracks.length)) (J (len_map rZc (rfl:p0.box.packets.length=p0.box.packets.length)) (J (len_map rZa (rfl:p0.index.length=p0.index.length)) J0))) (ok_Sl_0 p0 r hm) (by kernel_rfl))
theorem ok_Ss_0 (p0:LI) (r:Ze) (hm:m_Ss_0 p0=some r):EE c_Ss_0 K_Ss_0 (s_Ss_0 p0) (Post vf_Ss (res_Ss r)):=by
 obtain ⟨d,hm⟩|⟨d,hm⟩:=split_ite hm
 ·exact ge (wL (rI .u8) p0<|u1 d<|wO (.rows (List.map rZb ([]:LZa)))<|wO (.rows (List.map rZc ([]:LZb)))<|wO (.rows (List.map rZa ([]:LZ)))<|wP (all_le0 rZb ([]:LZa) rfl)<|wP (all_t rZb ([]:LZa) rfl)<|wP (all_le0 rZc ([]:LZb) rfl)<|wP (all_t rZc ([]:LZb) rfl)<|wP (all_le0 rZa ([]:LZ) rfl)<|wP (all_t rZa ([]:LZ) rfl)<|z0) (congrArg res_Ss (qj hm)) (by kernel_rfl)
 ·obtain ⟨a,e,hm⟩:=bind_some hm
  obtain ⟨b,f,hm⟩:=bind_some hm
  obtain ⟨c,g,hm⟩:=bind_some hm
  exact ge (wL (rI .u8) p0<|v1 d<|wO (.rows (List.map rZb ([]:LZa)))<|wO (.rows (List.map rZc ([]:LZb)))<|wO (.rows (List.map rZa ([]:LZ)))<|wO (.res (res_Sk a))<|wO (zn a.box.tracks.length)<|wO (zn a.box.packets.length)<|wO (zn a.index.length)<|wO (.rows (List.map rZb a.box.tracks))<|wO (.rows (List.map rZc a.box.packets))<|wO (.rows (List.map rZa a.index))<|wO (.res (res_Sp b))<|wO (zn b.box.tracks.length)<|wO (zn b.box.packets.length)<|wO (zn b.index.length)<|wO (.rows (List.map rZb b.box.tracks))<|wO (.rows (List.map rZc b.box.packets))<|wO (.rows (List.map rZa b.index))<|wO (.res (res_Sl c))<|wO (zn c.box.tracks.length)<|wO (zn c.box.packets.length)<|wO (zn c.index.length)<|wO (.rows (List.map rZb c.box.tracks))<|wO (.rows (List.map rZc c.box.packets))<|wO (.rows (List.map rZa c.index))<|wP (all_le0 rZb ([]:LZa) rfl)<|wP (all_t rZb ([]:LZa) rfl)<|wP (all_le0 rZc ([]:LZb) rfl)<|wP (all_t rZc ([]:LZb) rfl)<|wP (all_le0 rZa ([]:LZ) rfl)<|wP (all_t rZa ([]:LZ) rfl)<|wP (ok_Sk (Ze.mk p0 0 0 (Zd.mk ([]:LZa) ([]:LZb)) 0 0 ([]:LZ)) a e)<|wP (lm rZb a.box.tracks)<|wP (lm rZc a.box.packets)<|wP (lm rZa a.index)<|wA rZb a.box.tracks<|wA rZc a.box.packets<|wA rZa a.index<|wP (ok_Sp a b f)<|wP (lm rZb b.box.tracks)<|wP (lm rZc b.box.packets)<|wP (lm rZa b.index)<|wA rZb b.box.tracks<|wA rZc b.box.packets<|wA rZa b.index<|wP (ok_Sl b c g)<|wP (lm rZb c.box.tracks)<|wP (lm rZc c.box.packets)<|wP (lm rZa c.index)<|wA rZb c.box.tracks<|wA rZc c.box.packets<|wA rZa c.index<|z0) (congrArg res_Ss (qj hm)) (by kernel_rfl)
theorem ok_Ss (p0:LI) (r:Ze) (hm:m_Ss p0=some r):Runs ext tbl 86 (as_Ss p0) (res_Ss r):=
 runs_of (vf:=vf_Ss) (by kernel_rfl) rfl (st:=(enter vf_Ss (as_Ss p0)).getD default) (by kernel_rfl) (go_on [] 1000 J0 (ok_Ss_0 p0 r hm) (by kernel_rfl))
theorem ok_Sd_0 (p0:LI) (r:LZ) (hm:m_Sd_0 p0=some r):EE c_Sd_0 K_Sd_0 (s_Sd_0 p0) (Post vf_Sd (res_Sd r)):=by
 obtain ⟨a,c,hm⟩:=bind_some hm
 obtain ⟨b,hm⟩|⟨b,hm⟩:=split_ite hm
 ·exact ge (wO (.res (res_Ss a))<|wP (ok_Ss p0 a c)<|ta1 a.box.tracks a.box.packets a.index<|u1 b<|wO (.rows (List.map rZa ([]:LZ)))<|wP (all_le0 rZa ([]:LZ) rfl)<|wP (all_t rZa ([]:LZ) rfl)<|z0) (congrArg res_Sd (qj hm)) (by kernel_rfl)
 ·exact ge (wO (.res (res_Ss a))<|wP (ok_Ss p0 a c)<|ta1 a.box.tracks a.box.packets a.index<|v1 b<|wR rZa a.index<|z0) (congrArg res_Sd (qj hm)) (by kernel_rfl)
theorem ok_Sd (p0:LI) (r:LZ) (hm:m_Sd p0=some r):Runs ext tbl 33 (as_Sd p0) (res_Sd r):=
 runs_of (vf:=vf_Sd) (by kernel_rfl) rfl (st:=(enter vf_Sd (as_Sd p0)).getD default) (by kernel_rfl) (go_on [] 1000 J0 (ok_Sd_0 p0 r hm) (by kernel_rfl))
theorem ok_Im_0 (p1:Int) (p0 r:Zg) (hm:m_Im_0 p1 p0=some r):EE c_Im_0 K_Im_0 (s_Im_0 p1 p0) (Post vf_Im (res_Im r)):=by
 obtain ⟨a,hm⟩|⟨a,hm⟩:=split_ite hm
 ·exact ge (u1 a<|z0) (congrArg res_Im (qj hm)) (by kernel_rfl)
 ·exact ge (v1 a<|z0) (congrArg res_Im (qj hm)) (by kernel_rfl)
theorem ok_Im (p0:Zg) (p1:Int) (r:Zg) (hm:m_Im p0 p1=some r):Runs ext tbl 100 (as_Im p0 p1) (res_Im r):=
 runs_of (vf:=vf_Im) (by kernel_rfl) rfl (st:=(enter vf_Im (as_Im p0 p1)).getD default) (by kernel_rfl) (go_on [] 1000 J0 (ok_Im_0 p1 p0 r hm) (by kernel_rfl))
def O_Ii_7 (Q:VX→St→Prop) (e:(Int)⊕((Unit))):Prop:=match e with | .inl e=>Q=Post vf_Ii (res_Ii e) | .inr e=>EE c_Ii_33 K_Ii_33 (s_Ii_33) Q
theorem ok_Ii_33 (r:Int) (hm:m_Ii_33=some r):EE c_Ii_33 K_Ii_33 (s_Ii_33) (Post vf_Ii (res_Ii r)):=by
 exact ge (z0) (congrArg res_Ii (qj hm)) (by kernel_rfl)
theorem ok_Ii_7 (p0:LI) (p1:ByteArray) (g:Int) (y) (hm:m_Ii_7 p0 p1 g=some y) (Q)
  (hin:∀ s,y=.inl s→EE c_Ii_7 K_Ii_7 (s_Ii_7 p0 p1 s) Q) (hout:∀ e,y=.inr e→O_Ii_7 Q e):EE c_Ii_7 K_Ii_7 (s_Ii_7 p0 p1 g) Q:=by
 obtain ⟨a,hm⟩|⟨a,hm⟩:=split_ite hm
 ·obtain ⟨b,hm⟩|⟨b,hm⟩:=split_ite hm
  ·have hQ:Q=Post vf_Ii (res_Ii 2):=hout (.inl 2) (qj hm).symm
   subst hQ
   exact ge (u1 a<|wL (rI .u8) p0<|u1 b<|z0) (rfl:res_Ii 2=res_Ii 2) (by kernel_rfl)
  ·obtain ⟨h,c,hm⟩:=bind_some hm
   obtain ⟨i,d,hm⟩:=bind_some hm
   obtain ⟨f,hm⟩|⟨f,hm⟩:=split_ite hm
   ·have hQ:Q=Post vf_Ii (res_Ii 4):=hout (.inl 4) (qj hm).symm
    subst hQ
    exact ge (u1 a<|wL (rI .u8) p0<|v1 b<|wO (.row ((rI .u8) h))<|wO (.int i)<|wP (rd_nn c)<|wP (at_row (rI .u8) (rd_get c))<|wP (sat_nn d)<|wP (sat_at d)<|u1 f<|z0) (rfl:res_Ii 4=res_Ii 4) (by kernel_rfl)
   ·exact gw (hin _ (qj hm).symm) (u1 a<|wL (rI .u8) p0<|v1 b<|wO (.row ((rI .u8) h))<|wO (.int i)<|wP (rd_nn c)<|wP (at_row (rI .u8) (rd_get c))<|wP (sat_nn d)<|wP (sat_at d)<|v1 f<|z0) (by kernel_rfl)
 ·refine gm c_Ii_33 K_Ii_33 (s_Ii_33) (v1 a<|z0) ?_ (by kernel_rfl)
  exact hout (.inr ()) (qj hm).symm
theorem ok_Ii_0 (p0:LI) (p1:ByteArray) (r:Int) (hm:m_Ii_0 p0 p1=some r):EE c_Ii_0 K_Ii_0 (s_Ii_0 p0 p1) (Post vf_Ii (res_Ii r)):=by
 refine gm c_Ii_7 K_Ii_7 (s_Ii_7 p0 p1 0) (z0) ?_ (by kernel_rfl)
 obtain ⟨e,he,hm⟩:=bind_some hm
 refine loop_rule (u:=.c c_Ii_7) (K:=K_Ii_7) (Q:=(Post vf_Ii (res_Ii r))) (b:=lp_Ii_7 p0 p1) (We:=O_Ii_7 (Post vf_Ii (res_Ii r))) (stJ:=fun s=>s_Ii_7 p0 p1 s) (s:=0) (fun s y hb hin hout=>ok_Ii_7 p0 p1 s y hb (Post vf_Ii (res_Ii r)) hin hout) he ?_
 rcases e with e | e
 ·exact congrArg (fun r=>Post vf_Ii (res_Ii r)) (qj hm).symm
 ·show EE c_Ii_33 K_Ii_33 (s_Ii_33) _
  exact ok_Ii_33 r hm
theorem ok_Ii (p0:LI) (p1:ByteArray) (r:Int) (hm:m_Ii p0 p1=some r):Runs ext tbl 128 (as_Ii p0 p1) (res_Ii r):=
 runs_of (vf:=vf_Ii) (by kernel_rfl) rfl (st:=(enter vf_Ii (as_Ii p0 p1)).getD default) (by kernel_rfl) (go_on [] 1000 J0 (ok_Ii_0 p0 p1 r hm) (by kernel_rfl))
theorem ok_Il_5 (p1:Int) (p0:Zg) (e:Bool) (r:LI×Zg) (hm:m_Il_5 p1 p0 e=some r):EE c_Il_5 K_Il_5 (s_Il_5 p1 p0 e) (Post vf_Il (res_Il r)):=by
 obtain ⟨a,hm⟩|⟨a,hm⟩:=split_ite hm
 ·obtain ⟨c,d,hm⟩:=bind_some hm
  exact ge (u1 a<|wO (.res (res_Im c))<|wO (.rows (List.map (rI .u8) ([]:LI)))<|wP (ok_Im p0 2 c d)<|wP (all_le (rI .u8) ([]:LI) rfl)<|wP (all_dt (rI .u8) ([]:LI) rfl)<|z0) (congrArg res_Il (qj hm)) (by kernel_rfl)
 ·obtain ⟨c,d,hm⟩:=bind_some hm
  obtain ⟨g,f,hm⟩:=bind_some hm
  exact ge (v1 a<|wO (.rows (List.map (rI .u8) ((p0.b.take (Int.toNat (w64 (p0.at_+p1)))).drop (Int.toNat p0.at_))))<|wP (slc_hi (rI .u8) p0.b (ck_p d))<|wP (ck_p f)<|wP (slc_tell (rI .u8) p0.b (Int.toNat p0.at_) (Int.toNat (w64 (p0.at_+p1))))<|z0) (congrArg res_Il (qj hm)) (by kernel_rfl)
theorem ok_Il_0 (p1:Int) (p0:Zg) (r:LI×Zg) (hm:m_Il_0 p1 p0=some r):EE c_Il_0 K_Il_0 (s_Il_0 p1 p0) (Post vf_Il (res_Il r)):=by
 obtain ⟨a,hm⟩|⟨a,hm⟩:=split_ite hm
 ·exact gw (ok_Il_5 _ _ _ r hm) (u4 a<|u4 a<|u4 a<|u1 a<|z0) (by kernel_rfl)
 ·exact gw (ok_Il_5 _ _ _ r hm) (v4 a<|v2 a<|wL (rI .u8) p0.b<|v4 a<|v3 a<|z0) (by kernel_rfl)
theorem ok_Il (p0:Zg) (p1:Int) (r:LI×Zg) (hm:m_Il p0 p1=some r):Runs ext tbl 99 (as_Il p0 p1) (res_Il r):=
 runs_of (vf:=vf_Il) (by kernel_rfl) rfl (st:=(enter vf_Il (as_Il p0 p1)).getD default) (by kernel_rfl) (go_on [] 1000 J0 (ok_Il_0 p1 p0 r hm) (by kernel_rfl))
theorem ok_Ik_0 (p0:Zg) (r:Int×Zg) (hm:m_Ik_0 p0=some r):EE c_Ik_0 K_Ik_0 (s_Ik_0 p0) (Post vf_Ik (res_Ik r)):=by
 obtain ⟨a,c,hm⟩:=bind_some hm
 obtain ⟨b,hm⟩|⟨b,hm⟩:=split_ite hm
 ·obtain ⟨e,d,hm⟩:=bind_some hm
  exact ge (wO (.res (res_Il a))<|wP (ok_Il p0 1 a c)<|wL (rI .u8) a.1<|u1 b<|wO (.row ((rI .u8) e))<|wP (rd_nn d)<|wP (at_row (rI .u8) (rd_get d))<|z0) (congrArg res_Ik (qj hm)) (by kernel_rfl)
 ·exact ge (wO (.res (res_Il a))<|wP (ok_Il p0 1 a c)<|wL (rI .u8) a.1<|v1 b<|z0) (congrArg res_Ik (qj hm)) (by kernel_rfl)
theorem ok_Ik (p0:Zg) (r:Int×Zg) (hm:m_Ik p0=some r):Runs ext tbl 129 (as_Ik p0) (res_Ik r):=
 runs_of (vf:=vf_Ik) (by kernel_rfl) rfl (st:=(enter vf_Ik (as_Ik p0)).getD default) (by kernel_rfl) (go_on [] 1000 J0 (ok_Ik_0 p0 r hm) (by kernel_rfl))
def O_Ib_17 (Q:VX→St→Prop) (e:((Unit))⊕(Zf)):Prop:=match e with | .inl e=>EE c_Ib_49 K_Ib_49 (s_Ib_49) Q | .inr e=>Q=Post vf_Ib (res_Ib e)
theorem ok_Ib_49 (r:Zf) (hm:m_Ib_49=some r):EE c_Ib_49 K_Ib_49 (s_Ib_49) (Post vf_Ib (res_Ib r)):=by
 exact ge (z0) (congrArg res_Ib (qj hm)) (by kernel_rfl)
theorem ok_Ib_44 (p1 a b:Int) (p0:LI) (y) (hm:m_Ib_44 p1 a b=some y) (Q)
  (hin:∀ s,y=.inl s→EE c_Ib_17 K_Ib_17 (s_Ib_17 p0 p1 s.1 s.2) Q) (hout:∀ e,y=.inr e→O_Ib_17 Q e):EE c_Ib_44 K_Ib_44 (s_Ib_44 p1 a b) Q:=by
 have hQ:Q=Post vf_Ib (res_Ib (Zf.mk true b (w64 ((w64 (p1+a))+1)))):=hout (.inr (Zf.mk true b (w64 ((w64 (p1+a))+1)))) (qj hm).symm
 subst hQ
 exact ge (z0) (rfl:res_Ib (Zf.mk true b (w64 ((w64 (p1+a))+1)))=res_Ib (Zf.mk true b (w64 ((w64 (p1+a))+1)))) (by kernel_rfl)
theorem ok_Ib_33 (p0:LI) (p1 f g h:Int) (y) (hm:m_Ib_33 p0 p1 f g h=some y) (Q)
  (hin:∀ s,y=.inl s→EE c_Ib_17 K_Ib_17 (s_Ib_17 p0 p1 s.1 s.2) Q) (hout:∀ e,y=.inr e→O_Ib_17 Q e):EE c_Ib_33 K_Ib_33 (s_Ib_33 p0 p1 f g h) Q:=by
 obtain ⟨i,b,hm⟩:=bind_some hm
 obtain ⟨a,hm⟩|⟨a,hm⟩:=split_ite hm
 ·obtain ⟨c,hm⟩|⟨c,hm⟩:=split_ite hm
  ·obtain ⟨d,hm⟩|⟨d,hm⟩:=split_ite hm
   ·refine gm c_Ib_49 K_Ib_49 (s_Ib_49) (wP (ck_p b)<|u1 a<|u3 c<|u1 d<|z0) ?_ (by kernel_rfl)
    exact hout (.inl ()) (qj hm).symm
   ·exact gw (ok_Ib_44 _ _ _ _ y hm Q hin hout) (wP (ck_p b)<|u1 a<|u3 c<|v1 d<|z0) (by kernel_rfl)
  ·exact gw (ok_Ib_44 _ _ _ _ y hm Q hin hout) (wP (ck_p b)<|u1 a<|v3 c<|v1 eF<|z0) (by kernel_rfl)
 ·exact gw (hin _ (qj hm).symm) (wP (ck_p b)<|v1 a<|z0) (by kernel_rfl)
theorem ok_Ib_17 (p0:LI) (p1 h i:Int) (y) (hm:m_Ib_17 p0 p1 h i=some y) (Q)
  (hin:∀ s,y=.inl s→EE c_Ib_17 K_Ib_17 (s_Ib_17 p0 p1 s.1 s.2) Q) (hout:∀ e,y=.inr e→O_Ib_17 Q e):EE c_Ib_17 K_Ib_17 (s_Ib_17 p0 p1 h i) Q:=by
 obtain ⟨a,hm⟩|⟨a,hm⟩:=split_ite hm
 ·obtain ⟨c,hm⟩|⟨c,hm⟩:=split_ite hm
  ·obtain ⟨f,b,hm⟩:=bind_some hm
   obtain ⟨d,hm⟩|⟨d,hm⟩:=split_ite hm
   ·obtain ⟨g,hm⟩|⟨g,hm⟩:=split_ite hm
    ·refine gm c_Ib_49 K_Ib_49 (s_Ib_49) (u4 a<|u1 a<|wL (rI .u8) p0<|u2 a<|u1 c<|wO (.row ((rI .u8) f))<|wP (rd_nn b)<|wP (at_row (rI .u8) (rd_get b))<|u3 d<|u1 g<|z0) ?_ (by kernel_rfl)
     exact hout (.inl ()) (qj hm).symm
    ·exact gw (ok_Ib_33 _ _ _ _ _ y hm Q hin hout) (u4 a<|u1 a<|wL (rI .u8) p0<|u2 a<|u1 c<|wO (.row ((rI .u8) f))<|wP (rd_nn b)<|wP (at_row (rI .u8) (rd_get b))<|u3 d<|v1 g<|z0) (by kernel_rfl)
   ·exact gw (ok_Ib_33 _ _ _ _ _ y hm Q hin hout) (u4 a<|u1 a<|wL (rI .u8) p0<|u2 a<|u1 c<|wO (.row ((rI .u8) f))<|wP (rd_nn b)<|wP (at_row (rI .u8) (rd_get b))<|v3 d<|v1 eF<|z0) (by kernel_rfl)
  ·refine gm c_Ib_49 K_Ib_49 (s_Ib_49) (u4 a<|u1 a<|wL (rI .u8) p0<|u2 a<|v1 c<|z0) ?_ (by kernel_rfl)
   exact hout (.inl ()) (qj hm).symm
 ·refine gm c_Ib_49 K_Ib_49 (s_Ib_49) (v4 a<|v3 a<|v1 eF<|z0) ?_ (by kernel_rfl)
  exact hout (.inl ()) (qj hm).symm
theorem ok_Ib_5 (p0:LI) (p1:Int) (d:Bool) (r:Zf) (hm:m_Ib_5 p0 p1 d=some r):EE c_Ib_5 K_Ib_5 (s_Ib_5 p0 p1 d) (Post vf_Ib (res_Ib r)):=by
 obtain ⟨a,hm⟩|⟨a,hm⟩:=split_ite hm
 ·exact ge (u1 a<|z0) (congrArg res_Ib (qj hm)) (by kernel_rfl)
 ·refine gm c_Ib_17 K_Ib_17 (s_Ib_17 p0 p1 0 0) (v1 a<|z0) ?_ (by kernel_rfl)
  obtain ⟨e,he,hm⟩:=bind_some hm
  refine loop_rule (u:=.c c_Ib_17) (K:=K_Ib_17) (Q:=(Post vf_Ib (res_Ib r))) (b:=lp_Ib_17 p0 p1) (We:=O_Ib_17 (Post vf_Ib (res_Ib r))) (stJ:=fun s=>s_Ib_17 p0 p1 s.1 s.2) (s:=(0,0)) (fun s y hb hin hout=>ok_Ib_17 p0 p1 s.1 s.2 y hb (Post vf_Ib (res_Ib r)) hin hout) he ?_
  rcases e with e | e
  ·show EE c_Ib_49 K_Ib_49 (s_Ib_49) _
   exact ok_Ib_49 r hm
  ·exact congrArg (fun r=>Post vf_Ib (res_Ib r)) (qj hm).symm
theorem ok_Ib_0 (p0:LI) (p1:Int) (r:Zf) (hm:m_Ib_0 p0 p1=some r):EE c_Ib_0 K_Ib_0 (s_Ib_0 p0 p1) (Post vf_Ib (res_Ib r)):=by
 obtain ⟨a,hm⟩|⟨a,hm⟩:=split_ite hm
 ·exact gw (ok_Ib_5 _ _ _ r hm) (u4 a<|u1 a<|z0) (by kernel_rfl)
 ·exact gw (ok_Ib_5 _ _ _ r hm) (v3 a<|wL (rI .u8) p0<|v2 a<|z0) (by kernel_rfl)
theorem ok_Ib (p0:LI) (p1:Int) (r:Zf) (hm:m_Ib p0 p1=some r):Runs ext tbl 145 (as_Ib p0 p1) (res_Ib r):=
 runs_of (vf:=vf_Ib) (by kernel_rfl) rfl (st:=(enter vf_Ib (as_Ib p0 p1)).getD default) (by kernel_rfl) (go_on [] 1000 J0 (ok_Ib_0 p0 p1 r hm) (by kernel_rfl))
def O_Io_21 (Q:VX→St→Prop) (e:(LI×Int×Int)):Prop:=EE c_Io_35 K_Io_35 (s_Io_35 e.1 e.2.1 e.2.2) Q
theorem ok_Io_41 (a:LI) (b c:Int) (r:Int×Zg) (hm:m_Io_41 a b c=some r):EE c_Io_41 K_Io_41 (s_Io_41 a b c) (Post vf_Io (res_Io r)):=by
 obtain ⟨d,e,hm⟩:=bind_some hm
 exact ge (wO (.res (res_Im d))<|wP (ok_Im (Zg.mk a b c) 2 d e)<|z0) (congrArg res_Io (qj hm)) (by kernel_rfl)
theorem ok_Io_35 (a:LI) (b c:Int) (r:Int×Zg) (hm:m_Io_35 a b c=some r):EE c_Io_35 K_Io_35 (s_Io_35 a b c) (Post vf_Io (res_Io r)):=by
 obtain ⟨d,hm⟩|⟨d,hm⟩:=split_ite hm
 ·obtain ⟨e,f,hm⟩:=bind_some hm
  exact gw (ok_Io_41 _ _ _ r hm) (wL (rI .u8) a<|u1 d<|wO (.res (res_Im e))<|wP (ok_Im (Zg.mk a b c) 5 e f)<|z0) (by kernel_rfl)
 ·exact gw (ok_Io_41 _ _ _ r hm) (wL (rI .u8) a<|v1 d<|z0) (by kernel_rfl)
theorem ok_Io_21 (i:Int) (a:LI) (c d:Int) (y) (hm:m_Io_21 i a c d=some y) (Q)
  (hin:∀ s,y=.inl s→EE c_Io_21 K_Io_21 (s_Io_21 s.1 s.2.1 s.2.2.1 s.2.2.2) Q) (hout:∀ e,y=.inr e→O_Io_21 Q e):EE c_Io_21 K_Io_21 (s_Io_21 i a c d) Q:=by
 obtain ⟨b,hm⟩|⟨b,hm⟩:=split_ite hm
 ·obtain ⟨f,hm⟩|⟨f,hm⟩:=split_ite hm
  ·obtain ⟨j,g,hm⟩:=bind_some hm
   obtain ⟨h,hm⟩|⟨h,hm⟩:=split_ite hm
   ·obtain ⟨k,l,hm⟩:=bind_some hm
    exact gw (hin _ (qj hm).symm) (wL (rI .u8) a<|u4 b<|u4 b<|u1 f<|wO (.row ((rI .u8) j))<|wP (rd_nn g)<|wP (at_row (rI .u8) (rd_get g))<|u1 h<|wO (.res (res_Im k))<|wP (ok_Im (Zg.mk a c d) 5 k l)<|z0) (by kernel_rfl)
   ·exact gw (hin _ (qj hm).symm) (wL (rI .u8) a<|u4 b<|u4 b<|u1 f<|wO (.row ((rI .u8) j))<|wP (rd_nn g)<|wP (at_row (rI .u8) (rd_get g))<|v1 h<|z0) (by kernel_rfl)
  ·refine gm c_Io_35 K_Io_35 (s_Io_35 a c d) (wL (rI .u8) a<|u4 b<|u4 b<|v1 f<|z0) ?_ (by kernel_rfl)
   exact hout (a,c,d) (qj hm).symm
 ·refine gm c_Io_35 K_Io_35 (s_Io_35 a c d) (wL (rI .u8) a<|v4 b<|v4 b<|v1 eF<|z0) ?_ (by kernel_rfl)
  exact hout (a,c,d) (qj hm).symm
theorem ok_Io_0 (p0:Zg) (r:Int×Zg) (hm:m_Io_0 p0=some r):EE c_Io_0 K_Io_0 (s_Io_0 p0) (Post vf_Io (res_Io r)):=by
 obtain ⟨d,hm⟩|⟨d,hm⟩:=split_ite hm
 ·exact ge (u1 d<|z0) (congrArg res_Io (qj hm)) (by kernel_rfl)
 ·obtain ⟨a,g,hm⟩:=bind_some hm
  obtain ⟨f,hm⟩|⟨f,hm⟩:=split_ite hm
  ·obtain ⟨h,hm⟩|⟨h,hm⟩:=split_ite hm
   ·obtain ⟨i,j,hm⟩:=bind_some hm
    exact ge (v1 d<|wO (.res (res_Ib a))<|wP (ok_Ib p0.b p0.at_ a g)<|v1 (not_f f)<|u1 h<|wO (.res (res_Im i))<|wP (ok_Im p0 5 i j)<|z0) (congrArg res_Io (qj hm)) (by kernel_rfl)
   ·exact ge (v1 d<|wO (.res (res_Ib a))<|wP (ok_Ib p0.b p0.at_ a g)<|v1 (not_f f)<|v1 h<|z0) (congrArg res_Io (qj hm)) (by kernel_rfl)
  ·refine gm c_Io_21 K_Io_21 (s_Io_21 p0.at_ p0.b p0.at_ p0.err) (v1 d<|wO (.res (res_Ib a))<|wP (ok_Ib p0.b p0.at_ a g)<|u1 (not_t f)<|z0) ?_ (by kernel_rfl)
   obtain ⟨e,he,hm⟩:=bind_some hm
   refine loop_rule (u:=.c c_Io_21) (K:=K_Io_21) (Q:=(Post vf_Io (res_Io r))) (b:=lp_Io_21) (We:=O_Io_21 (Post vf_Io (res_Io r))) (stJ:=fun s=>s_Io_21 s.1 s.2.1 s.2.2.1 s.2.2.2) (s:=(p0.at_,p0.b,p0.at_,p0.err)) (fun s y hb hin hout=>ok_Io_21 s.1 s.2.1 s.2.2.1 s.2.2.2 y hb (Post vf_Io (res_Io r)) hin hout) he ?_
   show EE c_Io_35 K_Io_35 (s_Io_35 e.1 e.2.1 e.2.2) _
   exact ok_Io_35 e.1 e.2.1 e.2.2 r hm
theorem ok_Io (p0:Zg) (r:Int×Zg) (hm:m_Io p0=some r):Runs ext tbl 130 (as_Io p0) (res_Io r):=
 runs_of (vf:=vf_Io) (by kernel_rfl) rfl (st:=(enter vf_Io (as_Io p0)).getD default) (by kernel_rfl) (go_on [] 1000 J0 (ok_Io_0 p0 r hm) (by kernel_rfl))
def O_It_15 (Q:VX→St→Prop) (e:(Bool)⊕((Unit))):Prop:=match e with | .inl e=>Q=Post vf_It (res_It e) | .inr e=>EE c_It_33 K_It_33 (s_It_33) Q
theorem ok_It_33 (r:Bool) (hm:m_It_33=some r):EE c_It_33 K_It_33 (s_It_33) (Post vf_It (res_It r)):=by
 exact ge (z0) (congrArg res_It (qj hm)) (by kernel_rfl)
theorem ok_It_15 (p0:Zb) (g:Int) (y) (hm:m_It_15 p0 g=some y) (Q)
  (hin:∀ s,y=.inl s→EE c_It_15 K_It_15 (s_It_15 p0 s) Q) (hout:∀ e,y=.inr e→O_It_15 Q e):EE c_It_15 K_It_15 (s_It_15 p0 g) Q:=by
 obtain ⟨c,hm⟩|⟨c,hm⟩:=split_ite hm
 ·obtain ⟨d,a,hm⟩:=bind_some hm
  obtain ⟨b,hm⟩|⟨b,hm⟩:=split_ite hm
  ·have hQ:Q=Post vf_It (res_It false):=hout (.inl false) (qj hm).symm
   subst hQ
   exact ge (u1 c<|wO (.int d)<|wP (sat_nn a)<|wP (sat_at a)<|u4 b<|u2 b<|u1 eT<|z0) (rfl:res_It false=res_It false) (by kernel_rfl)
  ·obtain ⟨f,hm⟩|⟨f,hm⟩:=split_ite hm
   ·have hQ:Q=Post vf_It (res_It false):=hout (.inl false) (qj hm).symm
    subst hQ
    exact ge (u1 c<|wO (.int d)<|wP (sat_nn a)<|wP (sat_at a)<|v4 b<|wO (.int d)<|wP (sat_nn a)<|wP (sat_at a)<|v2 b<|u1 f<|z0) (rfl:res_It false=res_It false) (by kernel_rfl)
   ·exact gw (hin _ (qj hm).symm) (u1 c<|wO (.int d)<|wP (sat_nn a)<|wP (sat_at a)<|v4 b<|wO (.int d)<|wP (sat_nn a)<|wP (sat_at a)<|v2 b<|v1 f<|z0) (by kernel_rfl)
 ·refine gm c_It_33 K_It_33 (s_It_33) (v1 c<|z0) ?_ (by kernel_rfl)
  exact hout (.inr ()) (qj hm).symm
theorem ok_It_0 (p0:Zb) (r:Bool) (hm:m_It_0 p0=some r):EE c_It_0 K_It_0 (s_It_0 p0) (Post vf_It (res_It r)):=by
 obtain ⟨a,hm⟩|⟨a,hm⟩:=split_ite hm
 ·exact ge (u4 a<|u4 eT<|u4 eT<|u4 eT<|u2 eT<|z0) (congrArg res_It (qj hm)) (by kernel_rfl)
 ·obtain ⟨f,hm⟩|⟨f,hm⟩:=split_ite hm
  ·exact ge (v4 a<|u4 f<|u4 eT<|u4 eT<|u2 eT<|z0) (congrArg res_It (qj hm)) (by kernel_rfl)
  ·obtain ⟨g,hm⟩|⟨g,hm⟩:=split_ite hm
   ·exact ge (v4 a<|v4 f<|u4 g<|u4 eT<|u2 eT<|z0) (congrArg res_It (qj hm)) (by kernel_rfl)
   ·obtain ⟨d,hm⟩|⟨d,hm⟩:=split_ite hm
    ·exact ge (v4 a<|v4 f<|v4 g<|u4 d<|u1 d<|u1 eT<|z0) (congrArg res_It (qj hm)) (by kernel_rfl)
    ·obtain ⟨h,hm⟩|⟨h,hm⟩:=split_ite hm
     ·exact ge (v4 a<|v4 f<|v4 g<|v4 d<|v1 d<|u1 h<|z0) (congrArg res_It (qj hm)) (by kernel_rfl)
     ·refine gm c_It_15 K_It_15 (s_It_15 p0 0) (v4 a<|v4 f<|v4 g<|v4 d<|v1 d<|v1 h<|z0) ?_ (by kernel_rfl)
      obtain ⟨e,he,hm⟩:=bind_some hm
      refine loop_rule (u:=.c c_It_15) (K:=K_It_15) (Q:=(Post vf_It (res_It r))) (b:=lp_It_15 p0) (We:=O_It_15 (Post vf_It (res_It r))) (stJ:=fun s=>s_It_15 p0 s) (s:=0) (fun s y hb hin hout=>ok_It_15 p0 s y hb (Post vf_It (res_It r)) hin hout) he ?_
      rcases e with e | e
      ·exact congrArg (fun r=>Post vf_It (res_It r)) (qj hm).symm
      ·show EE c_It_33 K_It_33 (s_It_33) _
       exact ok_It_33 r hm
theorem ok_It (p0:Zb) (r:Bool) (hm:m_It p0=some r):Runs ext tbl 131 (as_It p0) (res_It r):=
 runs_of (vf:=vf_It) (by kernel_rfl) rfl (st:=(enter vf_It (as_It p0)).getD default) (by kernel_rfl) (go_on [] 1000 J0 (ok_It_0 p0 r hm) (by kernel_rfl))
theorem ok_Ih_0 (p0:LI) (r:Int) (hm:m_Ih_0 p0=some r):EE c_Ih_0 K_Ih_0 (s_Ih_0 p0) (Post vf_Ih (res_Ih r)):=by
 obtain ⟨e,a,hm⟩:=bind_some hm
 obtain ⟨f,b,hm⟩:=bind_some hm
 obtain ⟨g,c,hm⟩:=bind_some hm
 obtain ⟨h,d,hm⟩:=bind_some hm
 exact ge (wO (.row ((rI .u8) e))<|wO (.row ((rI .u8) f))<|wO (.row ((rI .u8) g))<|wO (.row ((rI .u8) h))<|wP (rd_nn a)<|wP (at_row (rI .u8) (rd_get a))<|wP (by decide:(0:Int)≤24)<|wP (rd_nn b)<|wP (at_row (rI .u8) (rd_get b))<|wP (by decide:(0:Int)≤16)<|wP (rd_nn c)<|wP (at_row (rI .u8) (rd_get c))<|wP (by decide:(0:Int)≤8)<|wP (rd_nn d)<|wP (at_row (rI .u8) (rd_get d))<|z0) (congrArg res_Ih (qj hm)) (by kernel_rfl)
theorem ok_Ih (p0:LI) (r:Int) (hm:m_Ih p0=some r):Runs ext tbl 146 (as_Ih p0) (res_Ih r):=
 runs_of (vf:=vf_Ih) (by kernel_rfl) rfl (st:=(enter vf_Ih (as_Ih p0)).getD default) (by kernel_rfl) (go_on [] 1000 J0 (ok_Ih_0 p0 r hm) (by kernel_rfl))
def O_Ia_25 (p0:LI) (a:Int) (Q:VX→St→Prop) (e:(Int)):Prop:=EE c_Ia_35 K_Ia_35 (s_Ia_35 p0 a e) Q
def O_Ia_9 (Q:VX→St→Prop) (e:(Int)):Prop:=EE c_Ia_36 K_Ia_36 (s_Ia_36 e) Q
theorem ok_Ia_35 (p0:LI) (a b:Int) (y) (hm:m_Ia_35 p0 a b=some y) (Q)
  (hin:∀ s,y=.inl s→EE c_Ia_9 K_Ia_9 (s_Ia_9 p0 s.1 s.2) Q) (hout:∀ e,y=.inr e→O_Ia_9 Q e):EE c_Ia_35 K_Ia_35 (s_Ia_35 p0 a b) Q:=by
 exact gw (hin _ (qj hm).symm) (z0) (by kernel_rfl)
theorem ok_Ia_25 (p0:LI) (a b d:Int) (y) (hm:m_Ia_25 p0 a b d=some y) (Q)
  (hin:∀ s,y=.inl s→EE c_Ia_25 K_Ia_25 (s_Ia_25 p0 a s.1 s.2) Q) (hout:∀ e,y=.inr e→O_Ia_25 p0 a Q e):EE c_Ia_25 K_Ia_25 (s_Ia_25 p0 a b d) Q:=by
 obtain ⟨c,hm⟩|⟨c,hm⟩:=split_ite hm
 ·exact gw (hin _ (qj hm).symm) (u1 c<|wP (by decide:(0:Int)≤1)<|z0) (by kernel_rfl)
 ·refine gm c_Ia_35 K_Ia_35 (s_Ia_35 p0 a b) (v1 c<|z0) ?_ (by kernel_rfl)
  exact hout b (qj hm).symm
theorem ok_Ia_36 (a r:Int) (hm:m_Ia_36 a=some r):EE c_Ia_36 K_Ia_36 (s_Ia_36 a) (Post vf_Ia (res_Ia r)):=by
 exact ge (z0) (congrArg res_Ia (qj hm)) (by kernel_rfl)
theorem ok_Ia_9 (p0:LI) (d a:Int) (y) (hm:m_Ia_9 p0 d a=some y) (Q)
  (hin:∀ s,y=.inl s→EE c_Ia_9 K_Ia_9 (s_Ia_9 p0 s.1 s.2) Q) (hout:∀ e,y=.inr e→O_Ia_9 Q e):EE c_Ia_9 K_Ia_9 (s_Ia_9 p0 d a) Q:=by
 obtain ⟨f,hm⟩|⟨f,hm⟩:=split_ite hm
 ·obtain ⟨g,h,hm⟩:=bind_some hm
  refine gm c_Ia_25 K_Ia_25 (s_Ia_25 p0 a (xorI .u32 d (wr .u32 g)) 0) (u1 f<|wO (.row ((rI .u8) g))<|wP (rd_nn h)<|wP (at_row (rI .u8) (rd_get h))<|z0) ?_ (by kernel_rfl)
  obtain ⟨e,he,hm⟩:=bind_some hm
  refine loop_rule (u:=.c c_Ia_25) (K:=K_Ia_25) (Q:=Q) (b:=lp_Ia_25 p0 a) (We:=O_Ia_25 p0 a Q) (stJ:=fun s=>s_Ia_25 p0 a s.1 s.2) (s:=((xorI .u32 d (wr .u32 g)),0)) (fun s y hb hin hout=>ok_Ia_25 p0 a s.1 s.2 y hb Q hin hout) he ?_
  show EE c_Ia_35 K_Ia_35 (s_Ia_35 p0 a e) _
  exact ok_Ia_35 p0 a e y hm Q hin hout
 ·refine gm c_Ia_36 K_Ia_36 (s_Ia_36 d) (v1 f<|z0) ?_ (by kernel_rfl)
  exact hout d (qj hm).symm
theorem ok_Ia_0 (p0:LI) (r:Int) (hm:m_Ia_0 p0=some r):EE c_Ia_0 K_Ia_0 (s_Ia_0 p0) (Post vf_Ia (res_Ia r)):=by
 refine gm c_Ia_9 K_Ia_9 (s_Ia_9 p0 4294967295 0) (wL (rI .u8) p0<|z0) ?_ (by kernel_rfl)
 obtain ⟨e,he,hm⟩:=bind_some hm
 refine loop_rule (u:=.c c_Ia_9) (K:=K_Ia_9) (Q:=(Post vf_Ia (res_Ia r))) (b:=lp_Ia_9 p0) (We:=O_Ia_9 (Post vf_Ia (res_Ia r))) (stJ:=fun s=>s_Ia_9 p0 s.1 s.2) (s:=(4294967295,0)) (fun s y hb hin hout=>ok_Ia_9 p0 s.1 s.2 y hb (Post vf_Ia (res_Ia r)) hin hout) he ?_
 show EE c_Ia_36 K_Ia_36 (s_Ia_36 e) _
 exact ok_Ia_36 e r hm
theorem ok_Ia (p0:LI) (r:Int) (hm:m_Ia p0=some r):Runs ext tbl 59 (as_Ia p0) (res_Ia r):=
 runs_of (vf:=vf_Ia) (by kernel_rfl) rfl (st:=(enter vf_Ia (as_Ia p0)).getD default) (by kernel_rfl) (go_on [] 1000 J0 (ok_Ia_0 p0 r hm) (by kernel_rfl))
theorem ok_Iq_6 (a:LI×Zg) (c:Bool) (r:Zg) (hm:m_Iq_6 a c=some r):EE c_Iq_6 K_Iq_6 (s_Iq_6 a c) (Post vf_Iq (res_Iq r)):=by
 obtain ⟨b,hm⟩|⟨b,hm⟩:=split_ite hm
 ·obtain ⟨d,e,hm⟩:=bind_some hm
  exact ge (u1 b<|wO (.res (res_Im d))<|wP (ok_Im a.2 3 d e)<|z0) (congrArg res_Iq (qj hm)) (by kernel_rfl)
 ·exact ge (v1 b<|z0) (congrArg res_Iq (qj hm)) (by kernel_rfl)
theorem ok_Iq_0 (p1:Int) (p0 r:Zg) (hm:m_Iq_0 p1 p0=some r):EE c_Iq_0 K_Iq_0 (s_Iq_0 p1 p0) (Post vf_Iq (res_Iq r)):=by
 obtain ⟨c,d,hm⟩:=bind_some hm
 obtain ⟨a,hm⟩|⟨a,hm⟩:=split_ite hm
 ·obtain ⟨e,g,hm⟩:=bind_some hm
  obtain ⟨k,h,hm⟩:=bind_some hm
  obtain ⟨l,i,hm⟩:=bind_some hm
  obtain ⟨f,j,hm⟩:=bind_some hm
  exact gw (ok_Iq_6 _ _ r hm) (wO (.res (res_Il c))<|wP (ok_Il p0 4 c d)<|u2 a<|wO (.res (res_Ih e))<|wP (ok_Ih c.1 e g)<|u4 a<|u3 a<|wO (.rows (List.map (rI .u8) ((c.2.b.take (Int.toNat p0.at_)).drop (Int.toNat p1))))<|wP (slc_hi (rI .u8) c.2.b (ck_p h))<|wP (ck_p i)<|wP (slc_tell (rI .u8) c.2.b (Int.toNat p1) (Int.toNat p0.at_))<|u1 a<|wO (.res (res_Ia f))<|wP (ok_Ia ((c.2.b.take (Int.toNat p0.at_)).drop (Int.toNat p1)) f j)<|u3 a<|z0) (by kernel_rfl)
 ·exact gw (ok_Iq_6 _ _ r hm) (wO (.res (res_Il c))<|wP (ok_Il p0 4 c d)<|v4 a<|v4 a<|v4 a<|v1 a<|z0) (by kernel_rfl)
theorem ok_Iq (p0:Zg) (p1:Int) (r:Zg) (hm:m_Iq p0 p1=some r):Runs ext tbl 132 (as_Iq p0 p1) (res_Iq r):=
 runs_of (vf:=vf_Iq) (by kernel_rfl) rfl (st:=(enter vf_Iq (as_Iq p0 p1)).getD default) (by kernel_rfl) (go_on [] 1000 J0 (ok_Iq_0 p1 p0 r hm) (by kernel_rfl))
def O_In_31 (Q:VX→St→Prop) (e:((LZa×Zg))⊕((LI×Int×Int×LZa))):Prop:=match e with | .inl e=>Q=Post vf_In (res_In e) | .inr e=>EE c_In_59 K_In_59 (s_In_59 e.1 e.2.1 e.2.2.1 e.2.2.2) Q
theorem ok_In_57 (f:Int×Zg) (g:Int) (a:Int×Zg) (b:Int×Zg) (c:ByteArray) (d:LZa) (h:LI) (i j:Int) (y) (hm:m_In_57 f g a b c d h i j=some y) (Q)
  (hin:∀ s,y=.inl s→EE c_In_31 K_In_31 (s_In_31 f s.1 s.2.1 s.2.2.1 s.2.2.2.1 s.2.2.2.2) Q) (hout:∀ e,y=.inr e→O_In_31 Q e):EE c_In_57 K_In_57 (s_In_57 f g a b c d h i j) Q:=by
 obtain ⟨l,k,hm⟩:=bind_some hm
 exact gw (hin _ (qj hm).symm) (wO (.rows (List.map rZb ([(Zb.mk a.1 b.1 c)]:LZa)))<|wO (zn 1)<|wO (.rows (List.map rZb (d++([(Zb.mk a.1 b.1 c)]:LZa))))<|wO (zn ((d++([(Zb.mk a.1 b.1 c)]:LZa)).length))<|wO (zn ((d++([(Zb.mk a.1 b.1 c)]:LZa)).length))<|wP (Eq.refl (List.map rZb ([(Zb.mk a.1 b.1 c)]:LZa)))<|wP (len_map rZb (show 1=([(Zb.mk a.1 b.1 c)]:LZa).length from rfl))<|wP (all_le rZb ([(Zb.mk a.1 b.1 c)]:LZa) rfl)<|wP (app_ck rZb d ([(Zb.mk a.1 b.1 c)]:LZa) rfl rfl k)<|wP (app_tell rZb d ([(Zb.mk a.1 b.1 c)]:LZa) rfl rfl)<|wP (len_map rZb (show (d++([(Zb.mk a.1 b.1 c)]:LZa)).length=(d++([(Zb.mk a.1 b.1 c)]:LZa)).length from rfl))<|wP (lens ((d++([(Zb.mk a.1 b.1 c)]:LZa)).length) ((d++([(Zb.mk a.1 b.1 c)]:LZa)).length) rfl)<|z0) (by kernel_rfl)
theorem ok_In_59 (a:LI) (b c:Int) (d:LZa) (r:LZa×Zg) (hm:m_In_59 a b c d=some r):EE c_In_59 K_In_59 (s_In_59 a b c d) (Post vf_In (res_In r)):=by
 obtain ⟨e,f,hm⟩:=bind_some hm
 exact ge (wO (.res (res_Iq e))<|wP (ok_Iq (Zg.mk a b c) 0 e f)<|wR rZb d<|z0) (congrArg res_In (qj hm)) (by kernel_rfl)
theorem ok_In_31 (n:Int×Zg) (p:Int) (a:LI) (b c:Int) (d:LZa) (y) (hm:m_In_31 n p a b c d=some y) (Q)
  (hin:∀ s,y=.inl s→EE c_In_31 K_In_31 (s_In_31 n s.1 s.2.1 s.2.2.1 s.2.2.2.1 s.2.2.2.2) Q) (hout:∀ e,y=.inr e→O_In_31 Q e):EE c_In_31 K_In_31 (s_In_31 n p a b c d) Q:=by
 obtain ⟨i,hm⟩|⟨i,hm⟩:=split_ite hm
 ·obtain ⟨k,hm⟩|⟨k,hm⟩:=split_ite hm
  ·have hQ:Q=Post vf_In (res_In (([]:LZa),(Zg.mk a b c))):=hout (.inl (([]:LZa),(Zg.mk a b c))) (qj hm).symm
   subst hQ
   exact ge (u1 i<|u1 k<|wO (.rows (List.map rZb ([]:LZa)))<|wP (all_le0 rZb ([]:LZa) rfl)<|wP (all_t rZb ([]:LZa) rfl)<|z0) (rfl:res_In (([]:LZa),(Zg.mk a b c))=res_In (([]:LZa),(Zg.mk a b c))) (by kernel_rfl)
  ·obtain ⟨f,q,hm⟩:=bind_some hm
   obtain ⟨g,r,hm⟩:=bind_some hm
   obtain ⟨h,t,hm⟩:=bind_some hm
   obtain ⟨j,u,hm⟩:=bind_some hm
   obtain ⟨l,v,hm⟩:=bind_some hm
   obtain ⟨m,w,hm⟩:=bind_some hm
   obtain ⟨o,hm⟩|⟨o,hm⟩:=split_ite hm
   ·exact gw (ok_In_57 _ _ _ _ _ _ _ _ _ y hm Q hin hout) (u1 i<|v1 k<|wO (.res (res_Ik f))<|wO (.res (res_Io g))<|wO (.res (res_Ik h))<|wO (.res (res_Il j))<|wO (.str l)<|wO (.res (res_It m))<|wO zF<|wO (zn d.length)<|wP (ok_Ik (Zg.mk a b c) f q)<|wP (ok_Io f.2 g r)<|wP (ok_Ik g.2 h t)<|wP (ok_Il h.2 h.1 j u)<|wP (bstr_t v)<|wP (ok_It (Zb.mk f.1 g.1 l) m w)<|wP (not_f o)<|wP (ln d.length)<|z0) (by kernel_rfl)
   ·obtain ⟨x,z,hm⟩:=bind_some hm
    exact gw (ok_In_57 _ _ _ _ _ _ _ _ _ y hm Q hin hout) (u1 i<|v1 k<|wO (.res (res_Ik f))<|wO (.res (res_Io g))<|wO (.res (res_Ik h))<|wO (.res (res_Il j))<|wO (.str l)<|wO (.res (res_It m))<|wO zT<|wO (.res (res_Im x))<|wO (zn d.length)<|wP (ok_Ik (Zg.mk a b c) f q)<|wP (ok_Io f.2 g r)<|wP (ok_Ik g.2 h t)<|wP (ok_Il h.2 h.1 j u)<|wP (bstr_t v)<|wP (ok_It (Zb.mk f.1 g.1 l) m w)<|wP (not_t o)<|wP (ok_Im j.2 5 x z)<|wP (ln d.length)<|z0) (by kernel_rfl)
 ·refine gm c_In_59 K_In_59 (s_In_59 a b c d) (v1 i<|wN d.length<|z0) ?_ (by kernel_rfl)
  exact hout (.inr (a,b,c,d)) (qj hm).symm
theorem ok_In_24 (a:Int×Zg) (d:LI) (f g:Int) (r:LZa×Zg) (hm:m_In_24 a d f g=some r):EE c_In_24 K_In_24 (s_In_24 a d f g) (Post vf_In (res_In r)):=by
 refine gm c_In_31 K_In_31 (s_In_31 a 0 d f g ([]:LZa)) (wO (zn (([]:LZa).length))<|wP (lens 0 (([]:LZa).length) rfl)<|z0) ?_ (by kernel_rfl)
 obtain ⟨e,he,hm⟩:=bind_some hm
 refine loop_rule (u:=.c c_In_31) (K:=K_In_31) (Q:=(Post vf_In (res_In r))) (b:=lp_In_31 a) (We:=O_In_31 (Post vf_In (res_In r))) (stJ:=fun s=>s_In_31 a s.1 s.2.1 s.2.2.1 s.2.2.2.1 s.2.2.2.2) (s:=(0,d,f,g,([]:LZa))) (fun s y hb hin hout=>ok_In_31 a s.1 s.2.1 s.2.2.1 s.2.2.2.1 s.2.2.2.2 y hb (Post vf_In (res_In r)) hin hout) he ?_
 rcases e with e | e
 ·exact congrArg (fun r=>Post vf_In (res_In r)) (qj hm).symm
 ·show EE c_In_59 K_In_59 (s_In_59 e.1 e.2.1 e.2.2.1 e.2.2.2) _
  exact ok_In_59 e.1 e.2.1 e.2.2.1 e.2.2.2 r hm
theorem ok_In_21 (a:Int×Zg) (c:Bool) (r:LZa×Zg) (hm:m_In_21 a c=some r):EE c_In_21 K_In_21 (s_In_21 a c) (Post vf_In (res_In r)):=by
 obtain ⟨b,hm⟩|⟨b,hm⟩:=split_ite hm
 ·obtain ⟨d,e,hm⟩:=bind_some hm
  exact gw (ok_In_24 _ _ _ _ r hm) (u1 b<|wO (.res (res_Im d))<|wP (ok_Im a.2 5 d e)<|z0) (by kernel_rfl)
 ·exact gw (ok_In_24 _ _ _ _ r hm) (v1 b<|z0) (by kernel_rfl)
theorem ok_In_0 (p0:Zg) (r:LZa×Zg) (hm:m_In_0 p0=some r):EE c_In_0 K_In_0 (s_In_0 p0) (Post vf_In (res_In r)):=by
 obtain ⟨e,hm⟩|⟨e,hm⟩:=split_ite hm
 ·obtain ⟨a,f,hm⟩:=bind_some hm
  exact ge (wL (rI .u8) p0.b<|u1 e<|wO (.res (res_Im a))<|wO (.rows (List.map rZb ([]:LZa)))<|wP (ok_Im p0 1 a f)<|wP (all_le0 rZb ([]:LZa) rfl)<|wP (all_t rZb ([]:LZa) rfl)<|z0) (congrArg res_In (qj hm)) (by kernel_rfl)
 ·obtain ⟨a,f,hm⟩:=bind_some hm
  obtain ⟨c,i,hm⟩:=bind_some hm
  obtain ⟨d,j,hm⟩:=bind_some hm
  obtain ⟨g,k,hm⟩:=bind_some hm
  obtain ⟨h,hm⟩|⟨h,hm⟩:=split_ite hm
  ·exact gw (ok_In_21 _ _ r hm) (wL (rI .u8) p0.b<|v1 e<|wO (.res (res_Ii a))<|wO (.res (res_Im c))<|wO (.res (res_Il d))<|wO (.res (res_Ik g))<|wP (ok_Ii p0.b (ByteArray.mk #[66,79,88,49]) a f)<|wP (ok_Im p0 a c i)<|wP (ok_Il c 4 d j)<|wP (ok_Ik d.2 g k)<|u3 h<|z0) (by kernel_rfl)
  ·exact gw (ok_In_21 _ _ r hm) (wL (rI .u8) p0.b<|v1 e<|wO (.res (res_Ii a))<|wO (.res (res_Im c))<|wO (.res (res_Il d))<|wO (.res (res_Ik g))<|wP (ok_Ii p0.b (ByteArray.mk #[66,79,88,49]) a f)<|wP (ok_Im p0 a c i)<|wP (ok_Il c 4 d j)<|wP (ok_Ik d.2 g k)<|v3 h<|z0) (by kernel_rfl)
theorem ok_In (p0:Zg) (r:LZa×Zg) (hm:m_In p0=some r):Runs ext tbl 83 (as_In p0) (res_In r):=
 runs_of (vf:=vf_In) (by kernel_rfl) rfl (st:=(enter vf_In (as_In p0)).getD default) (by kernel_rfl) (go_on [] 1000 J0 (ok_In_0 p0 r hm) (by kernel_rfl))
theorem ok_Is_0 (p0:Int) (r:Bool) (hm:m_Is_0 p0=some r):EE c_Is_0 K_Is_0 (s_Is_0 p0) (Post vf_Is (res_Is r)):=by
 obtain ⟨a,hm⟩|⟨a,hm⟩:=split_ite hm
 ·exact ge (u3 a<|z0) (congrArg res_Is (qj hm)) (by kernel_rfl)
 ·exact ge (v3 a<|z0) (congrArg res_Is (qj hm)) (by kernel_rfl)
theorem ok_Is (p0:Int) (r:Bool) (hm:m_Is p0=some r):Runs ext tbl 133 (as_Is p0) (res_Is r):=
 runs_of (vf:=vf_Is) (by kernel_rfl) rfl (st:=(enter vf_Is (as_Is p0)).getD default) (by kernel_rfl) (go_on [] 1000 J0 (ok_Is_0 p0 r hm) (by kernel_rfl))
def O_Ip_74 (p1:Int) (a:Int×Zg) (Q:VX→St→Prop) (e:(LI×Int×Int×LZb)):Prop:=EE c_Ip_86 K_Ip_86 (s_Ip_86 p1 a e.1 e.2.1 e.2.2.1 e.2.2.2) Q
def O_Ip_27 (p1:Int) (a:Int×Zg) (Q:VX→St→Prop) (e:((Int×LZb×Zg))⊕((LI×Int×Int×LZb×LI))):Prop:=match e with | .inl e=>Q=Post vf_Ip (res_Ip e) | .inr e=>EE c_Ip_69 K_Ip_69 (s_Ip_69 p1 a e.1 e.2.1 e.2.2.1 e.2.2.2.1 e.2.2.2.2) Q
theorem ok_Ip_65 (p1 p2 k l:Int) (i:Int×Zg) (f:Int×Zg) (j:Int×Zg) (m:Int) (a:Int×Zg) (b:Int×Zg) (c:Int×Zg) (d:Bool) (g:LZb) (h n:LI) (o p:Int) (y) (hm:m_Ip_65 p1 p2 k l i f j m a b c d g h n o p=some y) (Q)
  (hin:∀ s,y=.inl s→EE c_Ip_27 K_Ip_27 (s_Ip_27 p1 p2 i j s.1 s.2.1 s.2.2.1 s.2.2.2.1 s.2.2.2.2.1 s.2.2.2.2.2.1 s.2.2.2.2.2.2.1 s.2.2.2.2.2.2.2) Q) (hout:∀ e,y=.inr e→O_Ip_27 p1 i Q e):EE c_Ip_65 K_Ip_65 (s_Ip_65 p1 p2 k l i f j m a b c d g h n o p) Q:=by
 obtain ⟨t,q,hm⟩:=bind_some hm
 obtain ⟨u,r,hm⟩:=bind_some hm
 exact gw (hin _ (qj hm).symm) (wO (.rows (List.map (rI .u8) ([]:LI)))<|wO (.rows (List.map rZc ([(Zc.mk a.1 b.1 c.1 d ([]:LI))]:LZb)))<|wO (zn 1)<|wO (.rows (List.map rZc (g++([(Zc.mk a.1 b.1 c.1 d ([]:LI))]:LZb))))<|wO (zn ((g++([(Zc.mk a.1 b.1 c.1 d ([]:LI))]:LZb)).length))<|wO (.rows (mi ([f.1]:LI)))<|wO (zn 1)<|wO (.rows (mi (h++([f.1]:LI))))<|wO (zn ((h++([f.1]:LI)).length))<|wO (zn ((g++([(Zc.mk a.1 b.1 c.1 d ([]:LI))]:LZb)).length))<|wO (zn ((h++([f.1]:LI)).length))<|wP (all_le0 (rI .u8) ([]:LI) rfl)<|wP (all_t (rI .u8) ([]:LI) rfl)<|wP (Eq.refl (List.map rZc ([(Zc.mk a.1 b.1 c.1 d ([]:LI))]:LZb)))<|wP (len_map rZc (show 1=([(Zc.mk a.1 b.1 c.1 d ([]:LI))]:LZb).length from rfl))<|wP (all_eq rZc ([(Zc.mk a.1 b.1 c.1 d ([]:LI))]:LZb) rfl)<|wP (all_le rZc ([(Zc.mk a.1 b.1 c.1 d ([]:LI))]:LZb) rfl)<|wP (app_ck_ro rZc g ([(Zc.mk a.1 b.1 c.1 d ([]:LI))]:LZb) rfl q)<|wP (app_tell_ro rZc g ([(Zc.mk a.1 b.1 c.1 d ([]:LI))]:LZb) rfl)<|wP (len_map rZc (show (g++([(Zc.mk a.1 b.1 c.1 d ([]:LI))]:LZb)).length=(g++([(Zc.mk a.1 b.1 c.1 d ([]:LI))]:LZb)).length from rfl))<|wP (Eq.refl (mi ([f.1]:LI)))<|wP (len_map (rI .i64) (show 1=([f.1]:LI).length from rfl))<|wP (all_le (rI .i64) ([f.1]:LI) rfl)<|wP (app_ck (rI .i64) h ([f.1]:LI) rfl rfl r)<|wP (app_tell (rI .i64) h ([f.1]:LI) rfl rfl)<|wP (len_map (rI .i64) (show (h++([f.1]:LI)).length=(h++([f.1]:LI)).length from rfl))<|wP (lens ((g++([(Zc.mk a.1 b.1 c.1 d ([]:LI))]:LZb)).length) ((g++([(Zc.mk a.1 b.1 c.1 d ([]:LI))]:LZb)).length) rfl)<|wP (lens ((h++([f.1]:LI)).length) ((h++([f.1]:LI)).length) rfl)<|z0) (by kernel_rfl)
theorem ok_Ip_62 (p1 p2:Int) (a:Int×Zg) (j:Int×Zg) (d:Int×Zg) (k:Int) (f:LI) (g h:Int) (l:Int×Zg) (m:Int×Zg) (n:Int×Zg) (b:LZb) (c:LI) (o p:Int) (q r:Bool) (y) (hm:m_Ip_62 p1 p2 a j d k f g h l m n b c o p q r=some y) (Q)
  (hin:∀ s,y=.inl s→EE c_Ip_27 K_Ip_27 (s_Ip_27 p1 p2 a d s.1 s.2.1 s.2.2.1 s.2.2.2.1 s.2.2.2.2.1 s.2.2.2.2.2.1 s.2.2.2.2.2.2.1 s.2.2.2.2.2.2.2) Q) (hout:∀ e,y=.inr e→O_Ip_27 p1 a Q e):EE c_Ip_62 K_Ip_62 (s_Ip_62 p1 p2 a j d k f g h l m n b c o p q r) Q:=by
 obtain ⟨i,hm⟩|⟨i,hm⟩:=split_ite hm
 ·obtain ⟨t,u,hm⟩:=bind_some hm
  exact gw (ok_Ip_65 _ _ _ _ _ _ _ _ _ _ _ _ _ _ _ _ _ y hm Q hin hout) (u1 i<|wO (.res (res_Im t))<|wP (ok_Im (Zg.mk f g h) 7 t u)<|wN b.length<|wN c.length<|wO (zn (([]:LI).length))<|wP (lens (([]:LI).length) (([]:LI).length) rfl)<|z0) (by kernel_rfl)
 ·exact gw (ok_Ip_65 _ _ _ _ _ _ _ _ _ _ _ _ _ _ _ _ _ y hm Q hin hout) (v1 i<|wN b.length<|wN c.length<|wO (zn (([]:LI).length))<|wP (lens (([]:LI).length) (([]:LI).length) rfl)<|z0) (by kernel_rfl)
theorem ok_Ip_53 (p1 p2 g h:Int) (a:Int×Zg) (i:Int×Zg) (j:Int×Zg) (d:Int×Zg) (k:Int) (l:Int×Zg) (m:Int×Zg) (n:Int×Zg) (b:LZb) (c o:LI) (p q:Int) (y) (hm:m_Ip_53 p1 p2 g h a i j d k l m n b c o p q=some y) (Q)
  (hin:∀ s,y=.inl s→EE c_Ip_27 K_Ip_27 (s_Ip_27 p1 p2 a d s.1 s.2.1 s.2.2.1 s.2.2.2.1 s.2.2.2.2.1 s.2.2.2.2.2.1 s.2.2.2.2.2.2.1 s.2.2.2.2.2.2.2) Q) (hout:∀ e,y=.inr e→O_Ip_27 p1 a Q e):EE c_Ip_53 K_Ip_53 (s_Ip_53 p1 p2 g h a i j d k l m n b c o p q) Q:=by
 obtain ⟨f,hm⟩|⟨f,hm⟩:=split_ite hm
 ·exact gw (ok_Ip_62 _ _ _ _ _ _ _ _ _ _ _ _ _ _ _ _ _ _ y hm Q hin hout) (u3 f<|wN b.length<|wN c.length<|wO (zn (([]:LI).length))<|wP (lens (([]:LI).length) (([]:LI).length) rfl)<|z0) (by kernel_rfl)
 ·exact gw (ok_Ip_62 _ _ _ _ _ _ _ _ _ _ _ _ _ _ _ _ _ _ y hm Q hin hout) (v3 f<|wN b.length<|wN c.length<|wO (zn (([]:LI).length))<|wP (lens (([]:LI).length) (([]:LI).length) rfl)<|z0) (by kernel_rfl)
theorem ok_Ip_50 (p1 p2 h i:Int) (a:Int×Zg) (j:Int×Zg) (d:Int×Zg) (f:Int×Zg) (k:Int) (l:Int×Zg) (m:Int×Zg) (n:Int×Zg) (b:LZb) (c:LI) (o:Bool) (y) (hm:m_Ip_50 p1 p2 h i a j d f k l m n b c o=some y) (Q)
  (hin:∀ s,y=.inl s→EE c_Ip_27 K_Ip_27 (s_Ip_27 p1 p2 a f s.1 s.2.1 s.2.2.1 s.2.2.2.1 s.2.2.2.2.1 s.2.2.2.2.2.1 s.2.2.2.2.2.2.1 s.2.2.2.2.2.2.2) Q) (hout:∀ e,y=.inr e→O_Ip_27 p1 a Q e):EE c_Ip_50 K_Ip_50 (s_Ip_50 p1 p2 h i a j d f k l m n b c o) Q:=by
 obtain ⟨g,hm⟩|⟨g,hm⟩:=split_ite hm
 ·obtain ⟨p,q,hm⟩:=bind_some hm
  exact gw (ok_Ip_53 _ _ _ _ _ _ _ _ _ _ _ _ _ _ _ _ _ y hm Q hin hout) (u1 g<|wO (.res (res_Im p))<|wP (ok_Im d.2 5 p q)<|wN b.length<|wN c.length<|wO (zn (([]:LI).length))<|wP (lens (([]:LI).length) (([]:LI).length) rfl)<|z0) (by kernel_rfl)
 ·exact gw (ok_Ip_53 _ _ _ _ _ _ _ _ _ _ _ _ _ _ _ _ _ y hm Q hin hout) (v1 g<|wN b.length<|wN c.length<|wO (zn (([]:LI).length))<|wP (lens (([]:LI).length) (([]:LI).length) rfl)<|z0) (by kernel_rfl)
theorem ok_Ip_86 (p1:Int) (e:Int×Zg) (a:LI) (b c:Int) (d:LZb) (r:Int×LZb×Zg) (hm:m_Ip_86 p1 e a b c d=some r):EE c_Ip_86 K_Ip_86 (s_Ip_86 p1 e a b c d) (Post vf_Ip (res_Ip r)):=by
 obtain ⟨f,g,hm⟩:=bind_some hm
 exact ge (wO (.res (res_Iq f))<|wP (ok_Iq (Zg.mk a b c) p1 f g)<|wR rZc d<|z0) (congrArg res_Ip (qj hm)) (by kernel_rfl)
theorem ok_Ip_74 (p1:Int) (d:Int×Zg) (k:LZb) (f:LI) (g:Int) (h:LI) (i j:Int) (c:LZb) (y) (hm:m_Ip_74 p1 d k f g h i j c=some y) (Q)
  (hin:∀ s,y=.inl s→EE c_Ip_74 K_Ip_74 (s_Ip_74 p1 d k f s.1 s.2.1 s.2.2.1 s.2.2.2.1 s.2.2.2.2) Q) (hout:∀ e,y=.inr e→O_Ip_74 p1 d Q e):EE c_Ip_74 K_Ip_74 (s_Ip_74 p1 d k f g h i j c) Q:=by
 obtain ⟨l,hm⟩|⟨l,hm⟩:=split_ite hm
 ·obtain ⟨m,n,hm⟩:=bind_some hm
  obtain ⟨a,p,hm⟩:=bind_some hm
  obtain ⟨r,q,hm⟩:=bind_some hm
  obtain ⟨b,o,hm⟩:=bind_some hm
  exact gw (hin _ (qj hm).symm) (u1 l<|wO (.rows (List.map (rI .u8) ([]:LI)))<|wO (zn 0)<|wO (.row ((rI .i64) m))<|wO (.res (res_Il a))<|wO (.rows (List.map (rI .u8) (([]:LI)++a.1)))<|wO (zn ((([]:LI)++a.1).length))<|wO (.rows (List.map (rI .u8) (([]:LI)++a.1)))<|wO (.rows (List.map rZc (c.set (0+Int.toNat g) (Zc.mk b.track b.time b.span b.key (([]:LI)++a.1)))))<|wO (zn ((c.set (0+Int.toNat g) (Zc.mk b.track b.time b.span b.key (([]:LI)++a.1))).length))<|wO (zn f.length)<|wP (Eq.refl (List.map (rI .u8) ([]:LI)))<|wP (len_map (rI .u8) (show 0=([]:LI).length from rfl))<|wP (rd_in rfl n)<|wP (at_row (rI .i64) (rd_get0 n))<|wP (ok_Il (Zg.mk h i j) m a p)<|wP (app_ck_ro (rI .u8) ([]:LI) a.1 rfl q)<|wP (app_tell_ro (rI .u8) ([]:LI) a.1 rfl)<|wP (len_map (rI .u8) (show (([]:LI)++a.1).length=(([]:LI)++a.1).length from rfl))<|wP (rd_in rfl o)<|wP (all_le0 (rI .u8) (([]:LI)++a.1) rfl)<|wP (all_t (rI .u8) (([]:LI)++a.1) rfl)<|wP (put_ob rZc (Zc.mk b.track b.time b.span b.key (([]:LI)++a.1)) 4 (.sl ((([]:LI)++a.1).map (rI .u8))) (rd_get0 o) (by kernel_rfl) (by kernel_rfl))<|wP (lens c.length ((c.set (0+Int.toNat g) (Zc.mk b.track b.time b.span b.key (([]:LI)++a.1))).length) (set_len rfl))<|wP (ln f.length)<|z0) (by kernel_rfl)
 ·refine gm c_Ip_86 K_Ip_86 (s_Ip_86 p1 d h i j c) (v1 l<|wN c.length<|z0) ?_ (by kernel_rfl)
  exact hout (h,i,j,c) (qj hm).symm
theorem ok_Ip_69 (p1:Int) (a:Int×Zg) (g:LI) (h i:Int) (d:LZb) (f:LI) (r:Int×LZb×Zg) (hm:m_Ip_69 p1 a g h i d f=some r):EE c_Ip_69 K_Ip_69 (s_Ip_69 p1 a g h i d f) (Post vf_Ip (res_Ip r)):=by
 refine gm c_Ip_74 K_Ip_74 (s_Ip_74 p1 a d f 0 g h i d) (wN d.length<|wN f.length<|z0) ?_ (by kernel_rfl)
 obtain ⟨e,he,hm⟩:=bind_some hm
 refine loop_rule (u:=.c c_Ip_74) (K:=K_Ip_74) (Q:=(Post vf_Ip (res_Ip r))) (b:=lp_Ip_74 p1 a d f) (We:=O_Ip_74 p1 a (Post vf_Ip (res_Ip r))) (stJ:=fun s=>s_Ip_74 p1 a d f s.1 s.2.1 s.2.2.1 s.2.2.2.1 s.2.2.2.2) (s:=(0,g,h,i,d)) (fun s y hb hin hout=>ok_Ip_74 p1 a d f s.1 s.2.1 s.2.2.1 s.2.2.2.1 s.2.2.2.2 y hb (Post vf_Ip (res_Ip r)) hin hout) he ?_
 show EE c_Ip_86 K_Ip_86 (s_Ip_86 p1 a e.1 e.2.1 e.2.2.1 e.2.2.2) _
 exact ok_Ip_86 p1 a e.1 e.2.1 e.2.2.1 e.2.2.2 r hm
theorem ok_Ip_27 (p1 p2:Int) (q:Int×Zg) (z:Int×Zg) (C D E:Int) (c:LI) (d f:Int) (i:LZb) (j:LI) (y) (hm:m_Ip_27 p1 p2 q z C D E c d f i j=some y) (Q)
  (hin:∀ s,y=.inl s→EE c_Ip_27 K_Ip_27 (s_Ip_27 p1 p2 q z s.1 s.2.1 s.2.2.1 s.2.2.2.1 s.2.2.2.2.1 s.2.2.2.2.2.1 s.2.2.2.2.2.2.1 s.2.2.2.2.2.2.2) Q) (hout:∀ e,y=.inr e→O_Ip_27 p1 q Q e):EE c_Ip_27 K_Ip_27 (s_Ip_27 p1 p2 q z C D E c d f i j) Q:=by
 obtain ⟨m,hm⟩|⟨m,hm⟩:=split_ite hm
 ·obtain ⟨o,hm⟩|⟨o,hm⟩:=split_ite hm
  ·have hQ:Q=Post vf_Ip (res_Ip (0,([]:LZb),(Zg.mk c d f))):=hout (.inl (0,([]:LZb),(Zg.mk c d f))) (qj hm).symm
   subst hQ
   exact ge (u1 m<|u1 o<|wO (.rows (List.map rZc ([]:LZb)))<|wP (all_le0 rZc ([]:LZb) rfl)<|wP (all_t rZc ([]:LZb) rfl)<|z0) (rfl:res_Ip (0,([]:LZb),(Zg.mk c d f))=res_Ip (0,([]:LZb),(Zg.mk c d f))) (by kernel_rfl)
  ·obtain ⟨g,r,hm⟩:=bind_some hm
   obtain ⟨a,t,hm⟩:=bind_some hm
   obtain ⟨b,u,hm⟩:=bind_some hm
   obtain ⟨h,v,hm⟩:=bind_some hm
   obtain ⟨l,w,hm⟩:=bind_some hm
   obtain ⟨k,hm⟩|⟨k,hm⟩:=split_ite hm
   ·exact gw (ok_Ip_50 _ _ _ _ _ _ _ _ _ _ _ _ _ _ _ y hm Q hin hout) (u1 m<|v1 o<|wO (.res (res_Io g))<|wO (.res (res_Io a))<|wO (.res (res_Io b))<|wO (.res (res_Io h))<|wO (.res (res_Io l))<|wP (ok_Io (Zg.mk c d f) g r)<|wP (ok_Io g.2 a t)<|wP (ok_Io a.2 b u)<|wP (ok_Io b.2 h v)<|wP (ok_Io h.2 l w)<|u4 k<|u1 k<|u4 eT<|u4 eT<|wN i.length<|wN j.length<|wO (zn (([]:LI).length))<|wP (lens 0 (([]:LI).length) rfl)<|z0) (by kernel_rfl)
   ·obtain ⟨p,A,hm⟩:=bind_some hm
    obtain ⟨n,hm⟩|⟨n,hm⟩:=split_ite hm
    ·obtain ⟨x,F,hm⟩:=bind_some hm
     obtain ⟨B,hm⟩|⟨B,hm⟩:=split_ite hm
     ·exact gw (ok_Ip_50 _ _ _ _ _ _ _ _ _ _ _ _ _ _ _ y hm Q hin hout) (u1 m<|v1 o<|wO (.res (res_Io g))<|wO (.res (res_Io a))<|wO (.res (res_Io b))<|wO (.res (res_Io h))<|wO (.res (res_Io l))<|wP (ok_Io (Zg.mk c d f) g r)<|wP (ok_Io g.2 a t)<|wP (ok_Io a.2 b u)<|wP (ok_Io b.2 h v)<|wP (ok_Io h.2 l w)<|v3 k<|wO (.res (res_Is p))<|wP (ok_Is a.1 p A)<|v2 k<|v3 (not_f n)<|wO (.res (res_Is x))<|wP (ok_Is b.1 x F)<|v2 (not_f n)<|v3 (not_f B)<|wN i.length<|wN j.length<|wO (zn (([]:LI).length))<|wP (lens 0 (([]:LI).length) rfl)<|z0) (by kernel_rfl)
     ·exact gw (ok_Ip_50 _ _ _ _ _ _ _ _ _ _ _ _ _ _ _ y hm Q hin hout) (u1 m<|v1 o<|wO (.res (res_Io g))<|wO (.res (res_Io a))<|wO (.res (res_Io b))<|wO (.res (res_Io h))<|wO (.res (res_Io l))<|wP (ok_Io (Zg.mk c d f) g r)<|wP (ok_Io g.2 a t)<|wP (ok_Io a.2 b u)<|wP (ok_Io b.2 h v)<|wP (ok_Io h.2 l w)<|v3 k<|wO (.res (res_Is p))<|wP (ok_Is a.1 p A)<|v2 k<|v3 (not_f n)<|wO (.res (res_Is x))<|wP (ok_Is b.1 x F)<|v2 (not_f n)<|u3 (not_t B)<|wN i.length<|wN j.length<|wO (zn (([]:LI).length))<|wP (lens 0 (([]:LI).length) rfl)<|z0) (by kernel_rfl)
    ·exact gw (ok_Ip_50 _ _ _ _ _ _ _ _ _ _ _ _ _ _ _ y hm Q hin hout) (u1 m<|v1 o<|wO (.res (res_Io g))<|wO (.res (res_Io a))<|wO (.res (res_Io b))<|wO (.res (res_Io h))<|wO (.res (res_Io l))<|wP (ok_Io (Zg.mk c d f) g r)<|wP (ok_Io g.2 a t)<|wP (ok_Io a.2 b u)<|wP (ok_Io b.2 h v)<|wP (ok_Io h.2 l w)<|v3 k<|wO (.res (res_Is p))<|wP (ok_Is a.1 p A)<|v2 k<|u4 (not_t n)<|u1 (not_t n)<|u3 eT<|wN i.length<|wN j.length<|wO (zn (([]:LI).length))<|wP (lens 0 (([]:LI).length) rfl)<|z0) (by kernel_rfl)
 ·refine gm c_Ip_69 K_Ip_69 (s_Ip_69 p1 q c d f i j) (v1 m<|wN i.length<|wN j.length<|z0) ?_ (by kernel_rfl)
  exact hout (.inr (c,d,f,i,j)) (qj hm).symm
theorem ok_Ip_18 (p1 p2 p4 p5:Int) (a:Int×Zg) (d:Int×Zg) (f:LI) (g h:Int) (r:Int×LZb×Zg) (hm:m_Ip_18 p1 p2 p4 p5 a d f g h=some r):EE c_Ip_18 K_Ip_18 (s_Ip_18 p1 p2 p4 p5 a d f g h) (Post vf_Ip (res_Ip r)):=by
 refine gm c_Ip_27 K_Ip_27 (s_Ip_27 p1 p2 a d p4 p5 0 f g h ([]:LZb) ([]:LI)) (wO (zn (([]:LZb).length))<|wO (zn (([]:LI).length))<|wP (lens 0 (([]:LZb).length) rfl)<|wP (lens 0 (([]:LI).length) rfl)<|z0) ?_ (by kernel_rfl)
 obtain ⟨e,he,hm⟩:=bind_some hm
 refine loop_rule (u:=.c c_Ip_27) (K:=K_Ip_27) (Q:=(Post vf_Ip (res_Ip r))) (b:=lp_Ip_27 p1 p2 a d) (We:=O_Ip_27 p1 a (Post vf_Ip (res_Ip r))) (stJ:=fun s=>s_Ip_27 p1 p2 a d s.1 s.2.1 s.2.2.1 s.2.2.2.1 s.2.2.2.2.1 s.2.2.2.2.2.1 s.2.2.2.2.2.2.1 s.2.2.2.2.2.2.2) (s:=(p4,p5,0,f,g,h,([]:LZb),([]:LI))) (fun s y hb hin hout=>ok_Ip_27 p1 p2 a d s.1 s.2.1 s.2.2.1 s.2.2.2.1 s.2.2.2.2.1 s.2.2.2.2.2.1 s.2.2.2.2.2.2.1 s.2.2.2.2.2.2.2 y hb (Post vf_Ip (res_Ip r)) hin hout) he ?_
 rcases e with e | e
 ·exact congrArg (fun r=>Post vf_Ip (res_Ip r)) (qj hm).symm
 ·show EE c_Ip_69 K_Ip_69 (s_Ip_69 p1 a e.1 e.2.1 e.2.2.1 e.2.2.2.1 e.2.2.2.2) _
  exact ok_Ip_69 p1 a e.1 e.2.1 e.2.2.1 e.2.2.2.1 e.2.2.2.2 r hm
theorem ok_Ip_15 (p1 p2 p4 p5:Int) (c:Int×Zg) (a:Int×Zg) (d:Bool) (r:Int×LZb×Zg) (hm:m_Ip_15 p1 p2 p4 p5 c a d=some r):EE c_Ip_15 K_Ip_15 (s_Ip_15 p1 p2 p4 p5 c a d) (Post vf_Ip (res_Ip r)):=by
 obtain ⟨b,hm⟩|⟨b,hm⟩:=split_ite hm
 ·obtain ⟨e,f,hm⟩:=bind_some hm
  exact gw (ok_Ip_18 _ _ _ _ _ _ _ _ _ r hm) (u1 b<|wO (.res (res_Im e))<|wP (ok_Im a.2 5 e f)<|z0) (by kernel_rfl)
 ·exact gw (ok_Ip_18 _ _ _ _ _ _ _ _ _ r hm) (v1 b<|z0) (by kernel_rfl)
theorem ok_Ip_10 (p1 p2 p4 p5:Int) (f:Int×Zg) (a:LI) (b c:Int) (r:Int×LZb×Zg) (hm:m_Ip_10 p1 p2 p4 p5 f a b c=some r):EE c_Ip_10 K_Ip_10 (s_Ip_10 p1 p2 p4 p5 f a b c) (Post vf_Ip (res_Ip r)):=by
 obtain ⟨d,g,hm⟩:=bind_some hm
 obtain ⟨e,hm⟩|⟨e,hm⟩:=split_ite hm
 ·exact gw (ok_Ip_15 _ _ _ _ _ _ _ r hm) (wO (.res (res_Io d))<|wP (ok_Io (Zg.mk a b c) d g)<|u3 e<|z0) (by kernel_rfl)
 ·exact gw (ok_Ip_15 _ _ _ _ _ _ _ r hm) (wO (.res (res_Io d))<|wP (ok_Io (Zg.mk a b c) d g)<|v3 e<|z0) (by kernel_rfl)
theorem ok_Ip_7 (p1 p2 p4 p5:Int) (a:Int×Zg) (c:Bool) (r:Int×LZb×Zg) (hm:m_Ip_7 p1 p2 p4 p5 a c=some r):EE c_Ip_7 K_Ip_7 (s_Ip_7 p1 p2 p4 p5 a c) (Post vf_Ip (res_Ip r)):=by
 obtain ⟨b,hm⟩|⟨b,hm⟩:=split_ite hm
 ·obtain ⟨d,e,hm⟩:=bind_some hm
  exact gw (ok_Ip_10 _ _ _ _ _ _ _ _ r hm) (u1 b<|wO (.res (res_Im d))<|wP (ok_Im a.2 6 d e)<|z0) (by kernel_rfl)
 ·exact gw (ok_Ip_10 _ _ _ _ _ _ _ _ r hm) (v1 b<|z0) (by kernel_rfl)
theorem ok_Ip_0 (p1 p2 p3 p4 p5:Int) (p0:Zg) (r:Int×LZb×Zg) (hm:m_Ip_0 p1 p2 p3 p4 p5 p0=some r):EE c_Ip_0 K_Ip_0 (s_Ip_0 p1 p2 p3 p4 p5 p0) (Post vf_Ip (res_Ip r)):=by
 obtain ⟨a,c,hm⟩:=bind_some hm
 obtain ⟨b,hm⟩|⟨b,hm⟩:=split_ite hm
 ·exact gw (ok_Ip_7 _ _ _ _ _ _ r hm) (wO (.res (res_Io a))<|wP (ok_Io p0 a c)<|u4 b<|z0) (by kernel_rfl)
 ·exact gw (ok_Ip_7 _ _ _ _ _ _ r hm) (wO (.res (res_Io a))<|wP (ok_Io p0 a c)<|v4 b<|z0) (by kernel_rfl)
theorem ok_Ip (p0:Zg) (p1 p2 p3 p4 p5:Int) (r:Int×LZb×Zg) (hm:m_Ip p0 p1 p2 p3 p4 p5=some r):Runs ext tbl 84 (as_Ip p0 p1 p2 p3 p4 p5) (res_Ip r):=
 runs_of (vf:=vf_Ip) (by kernel_rfl) rfl (st:=(enter vf_Ip (as_Ip p0 p1 p2 p3 p4 p5)).getD default) (by kernel_rfl) (go_on [] 1000 J0 (ok_Ip_0 p1 p2 p3 p4 p5 p0 r hm) (by kernel_rfl))
def O_Ij_52 (a:Int) (b:Int×LZb×Zg) (c:LZa×Zg) (d:LZb) (Q:VX→St→Prop) (e:(Int×LZ)):Prop:=EE c_Ij_70 K_Ij_70 (s_Ij_70 a b c d e.1 e.2) Q
def O_Ij_13 (a:LZa×Zg) (Q:VX→St→Prop) (e:((LI×Int×Int×LZ×LZb))⊕((Zd×LZ×Zg))):Prop:=match e with | .inl e=>EE c_Ij_72 K_Ij_72 (s_Ij_72 a e.1 e.2.1 e.2.2.1 e.2.2.2.1 e.2.2.2.2) Q | .inr e=>Q=Post vf_Ij (res_Ij e)
theorem ok_Ij_72 (a:LZa×Zg) (d:LI) (e f:Int) (b:LZ) (c:LZb) (r:Zd×LZ×Zg) (hm:m_Ij_72 a d e f b c=some r):EE c_Ij_72 K_Ij_72 (s_Ij_72 a d e f b c) (Post vf_Ij (res_Ij r)):=by
 exact ge (ta0 a.1 c b<|z0) (congrArg res_Ij (qj hm)) (by kernel_rfl)
theorem ok_Ij_70 (f:Int) (a:Int×LZb×Zg) (c:LZa×Zg) (b:LZb) (g:Int) (d:LZ) (y) (hm:m_Ij_70 f a c b g d=some y) (Q)
  (hin:∀ s,y=.inl s→EE c_Ij_13 K_Ij_13 (s_Ij_13 c s.1 s.2.1 s.2.2.1 s.2.2.2.1 s.2.2.2.2.1 s.2.2.2.2.2.1 s.2.2.2.2.2.2) Q) (hout:∀ e,y=.inr e→O_Ij_13 c Q e):EE c_Ij_70 K_Ij_70 (s_Ij_70 f a c b g d) Q:=by
 obtain ⟨i,h,hm⟩:=bind_some hm
 exact gw (hin _ (qj hm).symm) (wO (.rows (List.map rZc (b++a.2.1)))<|wO (zn ((b++a.2.1).length))<|wP (all_eq rZc a.2.1 rfl)<|wP (all_le rZc a.2.1 rfl)<|wP (app_ck_ro rZc b a.2.1 rfl h)<|wP (app_tell_ro rZc b a.2.1 rfl)<|wP (len_map rZc (show (b++a.2.1).length=(b++a.2.1).length from rfl))<|wN d.length<|wO (zn (([]:LZa).length))<|wO (zn (([]:LZb).length))<|wP (lens (([]:LZa).length) (([]:LZa).length) rfl)<|wP (lens (([]:LZb).length) (([]:LZb).length) rfl)<|wN c.1.length<|wO (zn ((b++a.2.1).length))<|wP (lens ((b++a.2.1).length) ((b++a.2.1).length) rfl)<|z0) (by kernel_rfl)
theorem ok_Ij_52 (h b:Int) (d:Int×LZb×Zg) (f:LZa×Zg) (g:LZb) (i m:Int) (c:LZ) (y) (hm:m_Ij_52 h b d f g i m c=some y) (Q)
  (hin:∀ s,y=.inl s→EE c_Ij_52 K_Ij_52 (s_Ij_52 h b d f g s.1 s.2.1 s.2.2) Q) (hout:∀ e,y=.inr e→O_Ij_52 h d f g Q e):EE c_Ij_52 K_Ij_52 (s_Ij_52 h b d f g i m c) Q:=by
 obtain ⟨j,hm⟩|⟨j,hm⟩:=split_ite hm
 ·obtain ⟨a,k,hm⟩:=bind_some hm
  obtain ⟨l,hm⟩|⟨l,hm⟩:=split_ite hm
  ·obtain ⟨o,n,hm⟩:=bind_some hm
   exact gw (hin _ (qj hm).symm) (u1 j<|wO (.row (rZc a))<|wP (rd_in rfl k)<|wP (at_row rZc (rd_get0 k))<|wL (rI .u8) a.data<|u1 l<|wO (.rows (List.map rZa ([(Za.mk a.track a.time b)]:LZ)))<|wO (zn 1)<|wO (.rows (List.map rZa (c++([(Za.mk a.track a.time b)]:LZ))))<|wO (zn ((c++([(Za.mk a.track a.time b)]:LZ)).length))<|wO (zn ((c++([(Za.mk a.track a.time b)]:LZ)).length))<|wO (zn d.2.1.length)<|wO (zn d.2.1.length)<|wO (zn (([]:LZa).length))<|wO (zn (([]:LZb).length))<|wO (zn f.1.length)<|wO (zn g.length)<|wP (Eq.refl (List.map rZa ([(Za.mk a.track a.time b)]:LZ)))<|wP (len_map rZa (show 1=([(Za.mk a.track a.time b)]:LZ).length from rfl))<|wP (all_le rZa ([(Za.mk a.track a.time b)]:LZ) rfl)<|wP (app_ck rZa c ([(Za.mk a.track a.time b)]:LZ) rfl rfl n)<|wP (app_tell rZa c ([(Za.mk a.track a.time b)]:LZ) rfl rfl)<|wP (len_map rZa (show (c++([(Za.mk a.track a.time b)]:LZ)).length=(c++([(Za.mk a.track a.time b)]:LZ)).length from rfl))<|wP (lens ((c++([(Za.mk a.track a.time b)]:LZ)).length) ((c++([(Za.mk a.track a.time b)]:LZ)).length) rfl)<|wP (ln d.2.1.length)<|wP (ln d.2.1.length)<|wP (lens (([]:LZa).length) (([]:LZa).length) rfl)<|wP (lens (([]:LZb).length) (([]:LZb).length) rfl)<|wP (ln f.1.length)<|wP (ln g.length)<|z0) (by kernel_rfl)
  ·exact gw (hin _ (qj hm).symm) (u1 j<|wO (.row (rZc a))<|wP (rd_in rfl k)<|wP (at_row rZc (rd_get0 k))<|wL (rI .u8) a.data<|v1 l<|wK c.length d.2.1.length d.2.1.length<|wO (zn (([]:LZa).length))<|wO (zn (([]:LZb).length))<|wP (lens (([]:LZa).length) (([]:LZa).length) rfl)<|wP (lens (([]:LZb).length) (([]:LZb).length) rfl)<|wN f.1.length<|wN g.length<|z0) (by kernel_rfl)
 ·refine gm c_Ij_70 K_Ij_70 (s_Ij_70 h d f g i c) (v1 j<|wN c.length<|wN d.2.1.length<|wO (zn (([]:LZa).length))<|wO (zn (([]:LZb).length))<|wP (lens (([]:LZa).length) (([]:LZa).length) rfl)<|wP (lens (([]:LZb).length) (([]:LZb).length) rfl)<|wN f.1.length<|wN g.length<|z0) ?_ (by kernel_rfl)
  exact hout (i,c) (qj hm).symm
theorem ok_Ij_39 (j g h:Int) (i:LZ) (d:LZa×Zg) (f:LZb) (k:LI) (l m:Int) (y) (hm:m_Ij_39 j g h i d f k l m=some y) (Q)
  (hin:∀ s,y=.inl s→EE c_Ij_13 K_Ij_13 (s_Ij_13 d s.1 s.2.1 s.2.2.1 s.2.2.2.1 s.2.2.2.2.1 s.2.2.2.2.2.1 s.2.2.2.2.2.2) Q) (hout:∀ e,y=.inr e→O_Ij_13 d Q e):EE c_Ij_39 K_Ij_39 (s_Ij_39 j g h i d f k l m) Q:=by
 obtain ⟨a,o,hm⟩:=bind_some hm
 obtain ⟨n,hm⟩|⟨n,hm⟩:=split_ite hm
 ·refine gm c_Ij_72 K_Ij_72 (s_Ij_72 d a.2.2.b a.2.2.at_ a.2.2.err i f) (wO (.res (res_Ip a))<|wP (ok_Ip (Zg.mk k l m) h (d.1.length:Int) g (f.length:Int) j a o)<|wL rZc a.2.1<|u1 n<|wN i.length<|wO (zn (([]:LZa).length))<|wO (zn (([]:LZb).length))<|wP (lens (([]:LZa).length) (([]:LZa).length) rfl)<|wP (lens (([]:LZb).length) (([]:LZb).length) rfl)<|wN d.1.length<|wN f.length<|z0) ?_ (by kernel_rfl)
  exact hout (.inl (a.2.2.b,a.2.2.at_,a.2.2.err,i,f)) (qj hm).symm
 ·refine gm c_Ij_52 K_Ij_52 (s_Ij_52 g h a d f j 0 i) (wO (.res (res_Ip a))<|wP (ok_Ip (Zg.mk k l m) h (d.1.length:Int) g (f.length:Int) j a o)<|wL rZc a.2.1<|v1 n<|wK i.length a.2.1.length a.2.1.length<|wO (zn (([]:LZa).length))<|wO (zn (([]:LZb).length))<|wP (lens (([]:LZa).length) (([]:LZa).length) rfl)<|wP (lens (([]:LZb).length) (([]:LZb).length) rfl)<|wN d.1.length<|wN f.length<|z0) ?_ (by kernel_rfl)
  obtain ⟨e,he,hm⟩:=bind_some hm
  refine loop_rule (u:=.c c_Ij_52) (K:=K_Ij_52) (Q:=Q) (b:=lp_Ij_52 g h a d f) (We:=O_Ij_52 g a d f Q) (stJ:=fun s=>s_Ij_52 g h a d f s.1 s.2.1 s.2.2) (s:=(j,0,i)) (fun s y hb hin hout=>ok_Ij_52 g h a d f s.1 s.2.1 s.2.2 y hb Q hin hout) he ?_
  show EE c_Ij_70 K_Ij_70 (s_Ij_70 g a d f e.1 e.2) _
  exact ok_Ij_70 g a d f e.1 e.2 y hm Q hin hout
theorem ok_Ij_28 (h i j:Int) (k:ByteArray) (d:LI×Zg) (b:LZ) (a:LZa×Zg) (c:LZb) (l:Bool) (y) (hm:m_Ij_28 h i j k d b a c l=some y) (Q)
  (hin:∀ s,y=.inl s→EE c_Ij_13 K_Ij_13 (s_Ij_13 a s.1 s.2.1 s.2.2.1 s.2.2.2.1 s.2.2.2.2.1 s.2.2.2.2.2.1 s.2.2.2.2.2.2) Q) (hout:∀ e,y=.inr e→O_Ij_13 a Q e):EE c_Ij_28 K_Ij_28 (s_Ij_28 h i j k d b a c l) Q:=by
 obtain ⟨f,hm⟩|⟨f,hm⟩:=split_ite hm
 ·have hQ:Q=Post vf_Ij (res_Ij ((Zd.mk a.1 c),b,d.2)):=hout (.inr ((Zd.mk a.1 c),b,d.2)) (qj hm).symm
  subst hQ
  exact ge (u1 f<|ta0 a.1 c b<|z0) (rfl:res_Ij ((Zd.mk a.1 c),b,d.2)=res_Ij ((Zd.mk a.1 c),b,d.2)) (by kernel_rfl)
 ·obtain ⟨g,hm⟩|⟨g,hm⟩:=split_ite hm
  ·exact gw (ok_Ij_39 _ _ _ _ _ _ _ _ _ y hm Q hin hout) (v1 f<|v1 (not_f g)<|wN b.length<|wO (zn (([]:LZa).length))<|wO (zn (([]:LZb).length))<|wP (lens (([]:LZa).length) (([]:LZa).length) rfl)<|wP (lens (([]:LZb).length) (([]:LZb).length) rfl)<|wN a.1.length<|wN c.length<|z0) (by kernel_rfl)
  ·obtain ⟨m,n,hm⟩:=bind_some hm
   exact gw (ok_Ij_39 _ _ _ _ _ _ _ _ _ y hm Q hin hout) (v1 f<|u1 (not_t g)<|wO (.res (res_Im m))<|wP (ok_Im d.2 4 m n)<|wN b.length<|wO (zn (([]:LZa).length))<|wO (zn (([]:LZb).length))<|wP (lens (([]:LZa).length) (([]:LZa).length) rfl)<|wP (lens (([]:LZb).length) (([]:LZb).length) rfl)<|wN a.1.length<|wN c.length<|z0) (by kernel_rfl)
end Go.Proofs.V

namespace Go.Proofs.V
open Go
theorem ok_Ij_13 (a:LZa×Zg) (k l:Int) (d:LI) (f g:Int) (b:LZ) (c:LZb) (y) (hm:m_Ij_13 a k l d f g b c=some y) (Q)
  (hin:∀ s,y=.inl s→EE c_Ij_13 K_Ij_13 (s_Ij_13 a s.1 s.2.1 s.2.2.1 s.2.2.2.1 s.2.2.2.2.1 s.2.2.2.2.2.1 s.2.2.2.2.2.2) Q) (hout:∀ e,y=.inr e→O_Ij_13 a Q e):EE c_Ij_13 K_Ij_13 (s_Ij_13 a k l d f g b c) Q:=by
 obtain ⟨h,hm⟩|⟨h,hm⟩:=split_ite hm
 ·obtain ⟨i,m,hm⟩:=bind_some hm
  obtain ⟨n,o,hm⟩:=bind_some hm
  obtain ⟨j,hm⟩|⟨j,hm⟩:=split_ite hm
  ·exact gw (ok_Ij_28 _ _ _ _ _ _ _ _ _ y hm Q hin hout) (u1 h<|wO (.res (res_Il i))<|wO (.str n)<|wP (ok_Il (Zg.mk d f g) 8 i m)<|wP (bstr_t o)<|u3 j<|wN b.length<|wO (zn (([]:LZa).length))<|wO (zn (([]:LZb).length))<|wP (lens (([]:LZa).length) (([]:LZa).length) rfl)<|wP (lens (([]:LZb).length) (([]:LZb).length) rfl)<|wN a.1.length<|wN c.length<|z0) (by kernel_rfl)
  ·exact gw (ok_Ij_28 _ _ _ _ _ _ _ _ _ y hm Q hin hout) (u1 h<|wO (.res (res_Il i))<|wO (.str n)<|wP (ok_Il (Zg.mk d f g) 8 i m)<|wP (bstr_t o)<|v3 j<|wN b.length<|wO (zn (([]:LZa).length))<|wO (zn (([]:LZb).length))<|wP (lens (([]:LZa).length) (([]:LZa).length) rfl)<|wP (lens (([]:LZb).length) (([]:LZb).length) rfl)<|wN a.1.length<|wN c.length<|z0) (by kernel_rfl)
 ·refine gm c_Ij_72 K_Ij_72 (s_Ij_72 a d f g b c) (v1 h<|wN b.length<|wO (zn (([]:LZa).length))<|wO (zn (([]:LZb).length))<|wP (lens (([]:LZa).length) (([]:LZa).length) rfl)<|wP (lens (([]:LZb).length) (([]:LZb).length) rfl)<|wN a.1.length<|wN c.length<|z0) ?_ (by kernel_rfl)
  exact hout (.inl (d,f,g,b,c)) (qj hm).symm
theorem ok_Ij_0 (p0:Zg) (r:Zd×LZ×Zg) (hm:m_Ij_0 p0=some r):EE c_Ij_0 K_Ij_0 (s_Ij_0 p0) (Post vf_Ij (res_Ij r)):=by
 obtain ⟨a,d,hm⟩:=bind_some hm
 refine gm c_Ij_13 K_Ij_13 (s_Ij_13 a 60000 0 a.2.b a.2.at_ a.2.err ([]:LZ) ([]:LZb)) (wO (.res (res_In a))<|wP (ok_In p0 a d)<|wL rZb a.1<|wO (zn (([]:LZ).length))<|wO (zn (([]:LZa).length))<|wO (zn (([]:LZb).length))<|wP (lens 0 (([]:LZ).length) rfl)<|wP (lens 0 (([]:LZa).length) rfl)<|wP (lens 0 (([]:LZb).length) rfl)<|wN a.1.length<|wO (zn (([]:LZb).length))<|wP (lens 0 (([]:LZb).length) rfl)<|z0) ?_ (by kernel_rfl)
 obtain ⟨e,he,hm⟩:=bind_some hm
 refine loop_rule (u:=.c c_Ij_13) (K:=K_Ij_13) (Q:=(Post vf_Ij (res_Ij r))) (b:=lp_Ij_13 a) (We:=O_Ij_13 a (Post vf_Ij (res_Ij r))) (stJ:=fun s=>s_Ij_13 a s.1 s.2.1 s.2.2.1 s.2.2.2.1 s.2.2.2.2.1 s.2.2.2.2.2.1 s.2.2.2.2.2.2) (s:=(60000,0,a.2.b,a.2.at_,a.2.err,([]:LZ),([]:LZb))) (fun s y hb hin hout=>ok_Ij_13 a s.1 s.2.1 s.2.2.1 s.2.2.2.1 s.2.2.2.2.1 s.2.2.2.2.2.1 s.2.2.2.2.2.2 y hb (Post vf_Ij (res_Ij r)) hin hout) he ?_
 rcases e with e | e
 ·show EE c_Ij_72 K_Ij_72 (s_Ij_72 a e.1 e.2.1 e.2.2.1 e.2.2.2.1 e.2.2.2.2) _
  exact ok_Ij_72 a e.1 e.2.1 e.2.2.1 e.2.2.2.1 e.2.2.2.2 r hm
 ·exact congrArg (fun r=>Post vf_Ij (res_Ij r)) (qj hm).symm
theorem ok_Ij (p0:Zg) (r:Zd×LZ×Zg) (hm:m_Ij p0=some r):Runs ext tbl 44 (as_Ij p0) (res_Ij r):=
 runs_of (vf:=vf_Ij) (by kernel_rfl) rfl (st:=(enter vf_Ij (as_Ij p0)).getD default) (by kernel_rfl) (go_on [] 1000 J0 (ok_Ij_0 p0 r hm) (by kernel_rfl))
def O_Ir_59 (Q:VX→St→Prop) (e:(Bool)⊕((Int))):Prop:=match e with | .inl e=>Q=Post vf_Ir (res_Ir e) | .inr e=>EE c_Ir_81 K_Ir_81 (s_Ir_81 e) Q
def O_Ir_42 (p0:Zd) (Q:VX→St→Prop) (e:(LI)):Prop:=EE c_Ir_54 K_Ir_54 (s_Ir_54 p0 e) Q
def O_Ir_15 (p0:Zd) (Q:VX→St→Prop) (e:(Bool)⊕((Unit))):Prop:=match e with | .inl e=>Q=Post vf_Ir (res_Ir e) | .inr e=>EE c_Ir_33 K_Ir_33 (s_Ir_33 p0) Q
theorem ok_Ir_77 (c:Int) (p0:Zd) (d:Int) (a:Zc) (b:LI) (y) (hm:m_Ir_77 c p0 d a b=some y) (Q)
  (hin:∀ s,y=.inl s→EE c_Ir_59 K_Ir_59 (s_Ir_59 p0 s.1 s.2.1 s.2.2) Q) (hout:∀ e,y=.inr e→O_Ir_59 Q e):EE c_Ir_77 K_Ir_77 (s_Ir_77 c p0 d a b) Q:=by
 obtain ⟨g,f,hm⟩:=bind_some hm
 exact gw (hin _ (qj hm).symm) (wO (.rows (mi (b.set (0+Int.toNat a.track) a.time)))<|wP (rd_in rfl f)<|wP (put_ob (rI .i64) a.time 0 (.lit (vI a.time)) (rd_get0 f) (by kernel_rfl) (by kernel_rfl))<|wL (rI .u8) a.data<|wO (zn ((b.set (0+Int.toNat a.track) a.time).length))<|wP (lens b.length ((b.set (0+Int.toNat a.track) a.time).length) (set_len rfl))<|z0) (by kernel_rfl)
theorem ok_Ir_81 (a:Int) (r:Bool) (hm:m_Ir_81 a=some r):EE c_Ir_81 K_Ir_81 (s_Ir_81 a) (Post vf_Ir (res_Ir r)):=by
 exact ge (z0) (congrArg res_Ir (qj hm)) (by kernel_rfl)
theorem ok_Ir_59 (p0:Zd) (q u:Int) (r:LI) (y) (hm:m_Ir_59 p0 q u r=some y) (Q)
  (hin:∀ s,y=.inl s→EE c_Ir_59 K_Ir_59 (s_Ir_59 p0 s.1 s.2.1 s.2.2) Q) (hout:∀ e,y=.inr e→O_Ir_59 Q e):EE c_Ir_59 K_Ir_59 (s_Ir_59 p0 q u r) Q:=by
 obtain ⟨k,hm⟩|⟨k,hm⟩:=split_ite hm
 ·obtain ⟨c,f,hm⟩:=bind_some hm
  obtain ⟨a,hm⟩|⟨a,hm⟩:=split_ite hm
  ·have hQ:Q=Post vf_Ir (res_Ir false):=hout (.inl false) (qj hm).symm
   subst hQ
   exact ge (u1 k<|wO (.row (rZc c))<|wP (rd_nn f)<|wP (at_row rZc (rd_get f))<|u4 a<|u3 a<|u4 eT<|u4 eT<|u4 eT<|u4 eT<|u4 eT<|u4 eT<|u4 eT<|u1 eT<|z0) (rfl:res_Ir false=res_Ir false) (by kernel_rfl)
  ·obtain ⟨g,hm⟩|⟨g,hm⟩:=split_ite hm
   ·have hQ:Q=Post vf_Ir (res_Ir false):=hout (.inl false) (qj hm).symm
    subst hQ
    exact ge (u1 k<|wO (.row (rZc c))<|wP (rd_nn f)<|wP (at_row rZc (rd_get f))<|v4 a<|v1 a<|wL rZb p0.tracks<|v2 a<|u4 g<|u1 g<|u4 eT<|u4 eT<|u4 eT<|u4 eT<|u4 eT<|u4 eT<|z0) (rfl:res_Ir false=res_Ir false) (by kernel_rfl)
   ·obtain ⟨j,o,hm⟩:=bind_some hm
    obtain ⟨i,hm⟩|⟨i,hm⟩:=split_ite hm
    ·obtain ⟨l,p,hm⟩:=bind_some hm
     obtain ⟨b,hm⟩|⟨b,hm⟩:=split_ite hm
     ·obtain ⟨m,h,hm⟩:=bind_some hm
      obtain ⟨d,hm⟩|⟨d,hm⟩:=split_ite hm
      ·have hQ:Q=Post vf_Ir (res_Ir false):=hout (.inl false) (qj hm).symm
       subst hQ
       exact ge (u1 k<|wO (.row (rZc c))<|wP (rd_nn f)<|wP (at_row rZc (rd_get f))<|v4 a<|v1 a<|wL rZb p0.tracks<|v2 a<|v3 g<|wO (.res (res_Is j))<|wP (ok_Is c.time j o)<|v2 g<|v3 (not_f i)<|wO (.res (res_Is l))<|wP (ok_Is c.span l p)<|v2 (not_f i)<|v4 (not_f b)<|v2 (not_f b)<|wP (rd_in rfl h)<|v1 (not_f b)<|wO (.row ((rI .i64) m))<|wP (at_row (rI .i64) (rd_get0 h))<|v2 (not_f b)<|u4 d<|u4 d<|u1 d<|u1 eT<|z0) (rfl:res_Ir false=res_Ir false) (by kernel_rfl)
      ·obtain ⟨n,hm⟩|⟨n,hm⟩:=split_ite hm
       ·obtain ⟨t,hm⟩|⟨t,hm⟩:=split_ite hm
        ·exact gw (ok_Ir_77 _ _ _ _ _ y hm Q hin hout) (u1 k<|wO (.row (rZc c))<|wP (rd_nn f)<|wP (at_row rZc (rd_get f))<|v4 a<|v1 a<|wL rZb p0.tracks<|v2 a<|v3 g<|wO (.res (res_Is j))<|wP (ok_Is c.time j o)<|v2 g<|v3 (not_f i)<|wO (.res (res_Is l))<|wP (ok_Is c.span l p)<|v2 (not_f i)<|v4 (not_f b)<|v2 (not_f b)<|wP (rd_in rfl h)<|v1 (not_f b)<|wO (.row ((rI .i64) m))<|wP (at_row (rI .i64) (rd_get0 h))<|v2 (not_f b)<|v4 d<|wP (rd_in rfl h)<|v1 d<|wO (.row ((rI .i64) m))<|wP (at_row (rI .i64) (rd_get0 h))<|v2 d<|u3 n<|v1 d<|u1 n<|v1 d<|v1 (not_f t)<|wN r.length<|z0) (by kernel_rfl)
        ·have hQ:Q=Post vf_Ir (res_Ir false):=hout (.inl false) (qj hm).symm
         subst hQ
         exact ge (u1 k<|wO (.row (rZc c))<|wP (rd_nn f)<|wP (at_row rZc (rd_get f))<|v4 a<|v1 a<|wL rZb p0.tracks<|v2 a<|v3 g<|wO (.res (res_Is j))<|wP (ok_Is c.time j o)<|v2 g<|v3 (not_f i)<|wO (.res (res_Is l))<|wP (ok_Is c.span l p)<|v2 (not_f i)<|v4 (not_f b)<|v2 (not_f b)<|wP (rd_in rfl h)<|v1 (not_f b)<|wO (.row ((rI .i64) m))<|wP (at_row (rI .i64) (rd_get0 h))<|v2 (not_f b)<|v4 d<|wP (rd_in rfl h)<|v1 d<|wO (.row ((rI .i64) m))<|wP (at_row (rI .i64) (rd_get0 h))<|v2 d<|u3 n<|v1 d<|u1 n<|v1 d<|u1 (not_t t)<|z0) (rfl:res_Ir false=res_Ir false) (by kernel_rfl)
       ·exact gw (ok_Ir_77 _ _ _ _ _ y hm Q hin hout) (u1 k<|wO (.row (rZc c))<|wP (rd_nn f)<|wP (at_row rZc (rd_get f))<|v4 a<|v1 a<|wL rZb p0.tracks<|v2 a<|v3 g<|wO (.res (res_Is j))<|wP (ok_Is c.time j o)<|v2 g<|v3 (not_f i)<|wO (.res (res_Is l))<|wP (ok_Is c.span l p)<|v2 (not_f i)<|v4 (not_f b)<|v2 (not_f b)<|wP (rd_in rfl h)<|v1 (not_f b)<|wO (.row ((rI .i64) m))<|wP (at_row (rI .i64) (rd_get0 h))<|v2 (not_f b)<|v4 d<|wP (rd_in rfl h)<|v1 d<|wO (.row ((rI .i64) m))<|wP (at_row (rI .i64) (rd_get0 h))<|v2 d<|v3 n<|v1 d<|v1 n<|v1 d<|v1 eF<|wN r.length<|z0) (by kernel_rfl)
     ·have hQ:Q=Post vf_Ir (res_Ir false):=hout (.inl false) (qj hm).symm
      subst hQ
      exact ge (u1 k<|wO (.row (rZc c))<|wP (rd_nn f)<|wP (at_row rZc (rd_get f))<|v4 a<|v1 a<|wL rZb p0.tracks<|v2 a<|v3 g<|wO (.res (res_Is j))<|wP (ok_Is c.time j o)<|v2 g<|v3 (not_f i)<|wO (.res (res_Is l))<|wP (ok_Is c.span l p)<|v2 (not_f i)<|u4 (not_t b)<|u4 (not_t b)<|u1 (not_t b)<|u4 eT<|u4 eT<|u2 eT<|z0) (rfl:res_Ir false=res_Ir false) (by kernel_rfl)
    ·have hQ:Q=Post vf_Ir (res_Ir false):=hout (.inl false) (qj hm).symm
     subst hQ
     exact ge (u1 k<|wO (.row (rZc c))<|wP (rd_nn f)<|wP (at_row rZc (rd_get f))<|v4 a<|v1 a<|wL rZb p0.tracks<|v2 a<|v3 g<|wO (.res (res_Is j))<|wP (ok_Is c.time j o)<|v2 g<|u4 (not_t i)<|u1 (not_t i)<|u4 eT<|u4 eT<|u4 eT<|u4 eT<|u3 eT<|z0) (rfl:res_Ir false=res_Ir false) (by kernel_rfl)
 ·refine gm c_Ir_81 K_Ir_81 (s_Ir_81 q) (v1 k<|z0) ?_ (by kernel_rfl)
  exact hout (.inr q) (qj hm).symm
theorem ok_Ir_54 (p0:Zd) (a:LI) (r:Bool) (hm:m_Ir_54 p0 a=some r):EE c_Ir_54 K_Ir_54 (s_Ir_54 p0 a) (Post vf_Ir (res_Ir r)):=by
 refine gm c_Ir_59 K_Ir_59 (s_Ir_59 p0 0 0 a) (wL rZc p0.packets<|wN a.length<|z0) ?_ (by kernel_rfl)
 obtain ⟨e,he,hm⟩:=bind_some hm
 refine loop_rule (u:=.c c_Ir_59) (K:=K_Ir_59) (Q:=(Post vf_Ir (res_Ir r))) (b:=lp_Ir_59 p0) (We:=O_Ir_59 (Post vf_Ir (res_Ir r))) (stJ:=fun s=>s_Ir_59 p0 s.1 s.2.1 s.2.2) (s:=(0,0,a)) (fun s y hb hin hout=>ok_Ir_59 p0 s.1 s.2.1 s.2.2 y hb (Post vf_Ir (res_Ir r)) hin hout) he ?_
 rcases e with e | e
 ·exact congrArg (fun r=>Post vf_Ir (res_Ir r)) (qj hm).symm
 ·show EE c_Ir_81 K_Ir_81 (s_Ir_81 e) _
  exact ok_Ir_81 e r hm
theorem ok_Ir_42 (p0:Zd) (d b:Int) (a:LI) (y) (hm:m_Ir_42 p0 d b a=some y) (Q)
  (hin:∀ s,y=.inl s→EE c_Ir_42 K_Ir_42 (s_Ir_42 p0 s.1 s.2.1 s.2.2) Q) (hout:∀ e,y=.inr e→O_Ir_42 p0 Q e):EE c_Ir_42 K_Ir_42 (s_Ir_42 p0 d b a) Q:=by
 obtain ⟨c,hm⟩|⟨c,hm⟩:=split_ite hm
 ·obtain ⟨g,f,hm⟩:=bind_some hm
  exact gw (hin _ (qj hm).symm) (u1 c<|wO (.rows (mi (a.set (0+Int.toNat b) (-1))))<|wO (zn ((a.set (0+Int.toNat b) (-1)).length))<|wP (rd_in rfl f)<|wP (put_ob (rI .i64) (-1) 0 (.lit (vI (-1))) (rd_get0 f) (by kernel_rfl) (by kernel_rfl))<|wP (lens a.length ((a.set (0+Int.toNat b) (-1)).length) (set_len rfl))<|z0) (by kernel_rfl)
 ·refine gm c_Ir_54 K_Ir_54 (s_Ir_54 p0 a) (v1 c<|wN a.length<|z0) ?_ (by kernel_rfl)
  exact hout a (qj hm).symm
theorem ok_Ir_33 (p0:Zd) (r:Bool) (hm:m_Ir_33 p0=some r):EE c_Ir_33 K_Ir_33 (s_Ir_33 p0) (Post vf_Ir (res_Ir r)):=by
 obtain ⟨d,a,hm⟩:=bind_some hm
 refine gm c_Ir_42 K_Ir_42 (s_Ir_42 p0 ((Int.toNat (p0.tracks.length:Int)):Int) 0 (List.replicate (Int.toNat (p0.tracks.length:Int)) (0:Int))) (wL rZb p0.tracks<|wO (.rows (mi (List.replicate (Int.toNat (p0.tracks.length:Int)) (0:Int))))<|wO (zn (Int.toNat (p0.tracks.length:Int)))<|wO (zn ((List.replicate (Int.toNat (p0.tracks.length:Int)) (0:Int)).length))<|wP (ck_p a)<|wP (rep_ob (rI .i64) (Int.toNat (p0.tracks.length:Int)) (0:Int) [.lit (vI 0)] (by kernel_rfl))<|wP (len_map (rI .i64) (show (Int.toNat (p0.tracks.length:Int))=(List.replicate (Int.toNat (p0.tracks.length:Int)) (0:Int)).length from (rep_len (Int.toNat (p0.tracks.length:Int)) (0:Int))))<|wP (lens (Int.toNat (p0.tracks.length:Int)) ((List.replicate (Int.toNat (p0.tracks.length:Int)) (0:Int)).length) (rep_len (Int.toNat (p0.tracks.length:Int)) (0:Int)))<|z0) ?_ (by kernel_rfl)
 obtain ⟨e,he,hm⟩:=bind_some hm
 refine loop_rule (u:=.c c_Ir_42) (K:=K_Ir_42) (Q:=(Post vf_Ir (res_Ir r))) (b:=lp_Ir_42 p0) (We:=O_Ir_42 p0 (Post vf_Ir (res_Ir r))) (stJ:=fun s=>s_Ir_42 p0 s.1 s.2.1 s.2.2) (s:=(((Int.toNat (p0.tracks.length:Int)):Int),0,(List.replicate (Int.toNat (p0.tracks.length:Int)) (0:Int)))) (fun s y hb hin hout=>ok_Ir_42 p0 s.1 s.2.1 s.2.2 y hb (Post vf_Ir (res_Ir r)) hin hout) he ?_
 show EE c_Ir_54 K_Ir_54 (s_Ir_54 p0 e) _
 exact ok_Ir_54 p0 e r hm
theorem ok_Ir_15 (p0:Zd) (g:Int) (y) (hm:m_Ir_15 p0 g=some y) (Q)
  (hin:∀ s,y=.inl s→EE c_Ir_15 K_Ir_15 (s_Ir_15 p0 s) Q) (hout:∀ e,y=.inr e→O_Ir_15 p0 Q e):EE c_Ir_15 K_Ir_15 (s_Ir_15 p0 g) Q:=by
 obtain ⟨a,hm⟩|⟨a,hm⟩:=split_ite hm
 ·obtain ⟨b,c,hm⟩:=bind_some hm
  obtain ⟨d,h,hm⟩:=bind_some hm
  obtain ⟨f,hm⟩|⟨f,hm⟩:=split_ite hm
  ·exact gw (hin _ (qj hm).symm) (u1 a<|wO (.row (rZb b))<|wO (.res (res_It d))<|wP (rd_nn c)<|wP (at_row rZb (rd_get c))<|wP (ok_It b d h)<|v1 (not_f f)<|z0) (by kernel_rfl)
  ·have hQ:Q=Post vf_Ir (res_Ir false):=hout (.inl false) (qj hm).symm
   subst hQ
   exact ge (u1 a<|wO (.row (rZb b))<|wO (.res (res_It d))<|wP (rd_nn c)<|wP (at_row rZb (rd_get c))<|wP (ok_It b d h)<|u1 (not_t f)<|z0) (rfl:res_Ir false=res_Ir false) (by kernel_rfl)
 ·refine gm c_Ir_33 K_Ir_33 (s_Ir_33 p0) (v1 a<|z0) ?_ (by kernel_rfl)
  exact hout (.inr ()) (qj hm).symm
theorem ok_Ir_0 (p0:Zd) (r:Bool) (hm:m_Ir_0 p0=some r):EE c_Ir_0 K_Ir_0 (s_Ir_0 p0) (Post vf_Ir (res_Ir r)):=by
 obtain ⟨a,hm⟩|⟨a,hm⟩:=split_ite hm
 ·exact ge (wL rZb p0.tracks<|u4 a<|u1 a<|u4 eT<|u2 eT<|z0) (congrArg res_Ir (qj hm)) (by kernel_rfl)
 ·obtain ⟨d,hm⟩|⟨d,hm⟩:=split_ite hm
  ·exact ge (wL rZb p0.tracks<|v3 a<|wL rZb p0.tracks<|v2 a<|u4 d<|u1 d<|u1 eT<|z0) (congrArg res_Ir (qj hm)) (by kernel_rfl)
  ·obtain ⟨f,hm⟩|⟨f,hm⟩:=split_ite hm
   ·exact ge (wL rZb p0.tracks<|v3 a<|wL rZb p0.tracks<|v2 a<|v3 d<|wL rZc p0.packets<|v2 d<|u1 f<|z0) (congrArg res_Ir (qj hm)) (by kernel_rfl)
   ·refine gm c_Ir_15 K_Ir_15 (s_Ir_15 p0 0) (wL rZb p0.tracks<|v3 a<|wL rZb p0.tracks<|v2 a<|v3 d<|wL rZc p0.packets<|v2 d<|v1 f<|wL rZb p0.tracks<|z0) ?_ (by kernel_rfl)
    obtain ⟨e,he,hm⟩:=bind_some hm
    refine loop_rule (u:=.c c_Ir_15) (K:=K_Ir_15) (Q:=(Post vf_Ir (res_Ir r))) (b:=lp_Ir_15 p0) (We:=O_Ir_15 p0 (Post vf_Ir (res_Ir r))) (stJ:=fun s=>s_Ir_15 p0 s) (s:=0) (fun s y hb hin hout=>ok_Ir_15 p0 s y hb (Post vf_Ir (res_Ir r)) hin hout) he ?_
    rcases e with e | e
    ·exact congrArg (fun r=>Post vf_Ir (res_Ir r)) (qj hm).symm
    ·show EE c_Ir_33 K_Ir_33 (s_Ir_33 p0) _
     exact ok_Ir_33 p0 r hm
theorem ok_Ir (p0:Zd) (r:Bool) (hm:m_Ir p0=some r):Runs ext tbl 112 (as_Ir p0) (res_Ir r):=
 runs_of (vf:=vf_Ir) (by kernel_rfl) rfl (st:=(enter vf_Ir (as_Ir p0)).getD default) (by kernel_rfl) (go_on [] 1000 J0 (ok_Ir_0 p0 r hm) (by kernel_rfl))
theorem ok_Ig_0 (p0:Zd) (p1 p2:Int) (r:Bool) (hm:m_Ig_0 p0 p1 p2=some r):EE c_Ig_0 K_Ig_0 (s_Ig_0 p0 p1 p2) (Post vf_Ig (res_Ig r)):=by
 obtain ⟨f,a,hm⟩:=bind_some hm
 obtain ⟨g,b,hm⟩:=bind_some hm
 obtain ⟨h,c,hm⟩:=bind_some hm
 obtain ⟨i,d,hm⟩:=bind_some hm
 obtain ⟨e,hm⟩|⟨e,hm⟩:=split_ite hm
 ·exact ge (wO (.row (rZc f))<|wO (.row (rZc g))<|wO (.row (rZb h))<|wO (.row (rZb i))<|wO zT<|wP (rd_nn a)<|wP (at_row rZc (rd_get a))<|wP (rd_nn b)<|wP (at_row rZc (rd_get b))<|wP (rd_nn c)<|wP (at_row rZb (rd_get c))<|wP (rd_nn d)<|wP (at_row rZb (rd_get d))<|wP e<|z0) (congrArg res_Ig (qj hm)) (by kernel_rfl)
 ·obtain ⟨j,hm⟩|⟨j,hm⟩:=split_ite hm
  ·exact ge (wO (.row (rZc f))<|wO (.row (rZc g))<|wO (.row (rZb h))<|wO (.row (rZb i))<|wO zF<|wO zT<|wP (rd_nn a)<|wP (at_row rZc (rd_get a))<|wP (rd_nn b)<|wP (at_row rZc (rd_get b))<|wP (rd_nn c)<|wP (at_row rZb (rd_get c))<|wP (rd_nn d)<|wP (at_row rZb (rd_get d))<|wP e<|wP j<|z0) (congrArg res_Ig (qj hm)) (by kernel_rfl)
  ·exact ge (wO (.row (rZc f))<|wO (.row (rZc g))<|wO (.row (rZb h))<|wO (.row (rZb i))<|wO zF<|wO zF<|wP (rd_nn a)<|wP (at_row rZc (rd_get a))<|wP (rd_nn b)<|wP (at_row rZc (rd_get b))<|wP (rd_nn c)<|wP (at_row rZb (rd_get c))<|wP (rd_nn d)<|wP (at_row rZb (rd_get d))<|wP e<|wP j<|z0) (congrArg res_Ig (qj hm)) (by kernel_rfl)
theorem ok_Ig (p0:Zd) (p1 p2:Int) (r:Bool) (hm:m_Ig p0 p1 p2=some r):Runs ext tbl 113 (as_Ig p0 p1 p2) (res_Ig r):=
 runs_of (vf:=vf_Ig) (by kernel_rfl) rfl (st:=(enter vf_Ig (as_Ig p0 p1 p2)).getD default) (by kernel_rfl) (go_on [] 1000 J0 (ok_Ig_0 p0 p1 p2 r hm) (by kernel_rfl))
def O_Ic_15 (Q:VX→St→Prop) (e:(Bool)⊕((Unit))):Prop:=match e with | .inl e=>Q=Post vf_Ic (res_Ic e) | .inr e=>EE c_Ic_31 K_Ic_31 (s_Ic_31) Q
theorem ok_Ic_31 (r:Bool) (hm:m_Ic_31=some r):EE c_Ic_31 K_Ic_31 (s_Ic_31) (Post vf_Ic (res_Ic r)):=by
 exact ge (z0) (congrArg res_Ic (qj hm)) (by kernel_rfl)
theorem ok_Ic_15 (p0:Zd) (a:Int) (y) (hm:m_Ic_15 p0 a=some y) (Q)
  (hin:∀ s,y=.inl s→EE c_Ic_15 K_Ic_15 (s_Ic_15 p0 s) Q) (hout:∀ e,y=.inr e→O_Ic_15 Q e):EE c_Ic_15 K_Ic_15 (s_Ic_15 p0 a) Q:=by
 obtain ⟨b,hm⟩|⟨b,hm⟩:=split_ite hm
 ·obtain ⟨c,f,hm⟩:=bind_some hm
  obtain ⟨d,hm⟩|⟨d,hm⟩:=split_ite hm
  ·have hQ:Q=Post vf_Ic (res_Ic false):=hout (.inl false) (qj hm).symm
   subst hQ
   exact ge (wL rZc p0.packets<|u1 b<|wO (.res (res_Ig c))<|wP (ok_Ig p0 a (w64 (a - 1)) c f)<|u1 d<|z0) (rfl:res_Ic false=res_Ic false) (by kernel_rfl)
  ·exact gw (hin _ (qj hm).symm) (wL rZc p0.packets<|u1 b<|wO (.res (res_Ig c))<|wP (ok_Ig p0 a (w64 (a - 1)) c f)<|v1 d<|z0) (by kernel_rfl)
 ·refine gm c_Ic_31 K_Ic_31 (s_Ic_31) (wL rZc p0.packets<|v1 b<|z0) ?_ (by kernel_rfl)
  exact hout (.inr ()) (qj hm).symm
theorem ok_Ic_0 (p0:Zd) (r:Bool) (hm:m_Ic_0 p0=some r):EE c_Ic_0 K_Ic_0 (s_Ic_0 p0) (Post vf_Ic (res_Ic r)):=by
 obtain ⟨a,f,hm⟩:=bind_some hm
 obtain ⟨d,hm⟩|⟨d,hm⟩:=split_ite hm
 ·refine gm c_Ic_15 K_Ic_15 (s_Ic_15 p0 1) (wO (.res (res_Ir a))<|wP (ok_Ir p0 a f)<|v1 (not_f d)<|z0) ?_ (by kernel_rfl)
  obtain ⟨e,he,hm⟩:=bind_some hm
  refine loop_rule (u:=.c c_Ic_15) (K:=K_Ic_15) (Q:=(Post vf_Ic (res_Ic r))) (b:=lp_Ic_15 p0) (We:=O_Ic_15 (Post vf_Ic (res_Ic r))) (stJ:=fun s=>s_Ic_15 p0 s) (s:=1) (fun s y hb hin hout=>ok_Ic_15 p0 s y hb (Post vf_Ic (res_Ic r)) hin hout) he ?_
  rcases e with e | e
  ·exact congrArg (fun r=>Post vf_Ic (res_Ic r)) (qj hm).symm
  ·show EE c_Ic_31 K_Ic_31 (s_Ic_31) _
   exact ok_Ic_31 r hm
 ·exact ge (wO (.res (res_Ir a))<|wP (ok_Ir p0 a f)<|u1 (not_t d)<|z0) (congrArg res_Ic (qj hm)) (by kernel_rfl)
theorem ok_Ic (p0:Zd) (r:Bool) (hm:m_Ic p0=some r):Runs ext tbl 54 (as_Ic p0) (res_Ic r):=
 runs_of (vf:=vf_Ic) (by kernel_rfl) rfl (st:=(enter vf_Ic (as_Ic p0)).getD default) (by kernel_rfl) (go_on [] 1000 J0 (ok_Ic_0 p0 r hm) (by kernel_rfl))
def O_Ie_44 (p0:LI) (a:Zg) (b:Zd×LZ×Zg) (Q:VX→St→Prop) (e:(Bool)):Prop:=EE c_Ie_54 K_Ie_54 (s_Ie_54 p0 a b e) Q
def O_Ie_23 (p0:LI) (a:Int) (b:Zd×LZ×Zg) (Q:VX→St→Prop) (e:(LI×Int×Int×LZ)):Prop:=EE c_Ie_33 K_Ie_33 (s_Ie_33 p0 a b e.1 e.2.1 e.2.2.1 e.2.2.2) Q
theorem ok_Ie_72 (a:Zd×LZ×Zg) (c:LI) (d e:Int) (r:Zh) (hm:m_Ie_72 a c d e=some r):EE c_Ie_72 K_Ie_72 (s_Ie_72 a c d e) (Post vf_Ie (res_Ie r)):=by
 obtain ⟨b,hm⟩|⟨b,hm⟩:=split_ite hm
 ·exact ge (u1 b<|wO (.rows (List.map rZb ([]:LZa)))<|wO (.rows (List.map rZc ([]:LZb)))<|wP (all_le0 rZb ([]:LZa) rfl)<|wP (all_t rZb ([]:LZa) rfl)<|wP (all_le0 rZc ([]:LZb) rfl)<|wP (all_t rZc ([]:LZb) rfl)<|z0) (congrArg res_Ie (qj hm)) (by kernel_rfl)
 ·exact ge (v1 b<|wR rZb a.1.tracks<|wR rZc a.1.packets<|z0) (congrArg res_Ie (qj hm)) (by kernel_rfl)
theorem ok_Ie_66 (a:Zd×LZ×Zg) (c:LI) (d e:Int) (r:Zh) (hm:m_Ie_66 a c d e=some r):EE c_Ie_66 K_Ie_66 (s_Ie_66 a c d e) (Post vf_Ie (res_Ie r)):=by
 obtain ⟨b,g,hm⟩:=bind_some hm
 obtain ⟨f,hm⟩|⟨f,hm⟩:=split_ite hm
 ·exact gw (ok_Ie_72 _ _ _ _ r hm) (wO (.rows (List.map rZb a.1.tracks))<|wO (.rows (List.map rZc a.1.packets))<|wO (.res (res_Ic b))<|wP (all_le rZb a.1.tracks rfl)<|wP (all_dt rZb a.1.tracks rfl)<|wP (all_le rZc a.1.packets rfl)<|wP (all_dt rZc a.1.packets rfl)<|wP (ok_Ic a.1 b g)<|v1 (not_f f)<|wO (zn (([]:LZa).length))<|wO (zn (([]:LZb).length))<|wP (lens (([]:LZa).length) (([]:LZa).length) rfl)<|wP (lens (([]:LZb).length) (([]:LZb).length) rfl)<|wN a.1.tracks.length<|wN a.1.packets.length<|z0) (by kernel_rfl)
 ·obtain ⟨h,i,hm⟩:=bind_some hm
  exact gw (ok_Ie_72 _ _ _ _ r hm) (wO (.rows (List.map rZb a.1.tracks))<|wO (.rows (List.map rZc a.1.packets))<|wO (.res (res_Ic b))<|wP (all_le rZb a.1.tracks rfl)<|wP (all_dt rZb a.1.tracks rfl)<|wP (all_le rZc a.1.packets rfl)<|wP (all_dt rZc a.1.packets rfl)<|wP (ok_Ic a.1 b g)<|u1 (not_t f)<|wO (.res (res_Im h))<|wO (zn (([]:LZa).length))<|wO (zn (([]:LZb).length))<|wP (ok_Im (Zg.mk c d e) 6 h i)<|wP (lens (([]:LZa).length) (([]:LZa).length) rfl)<|wP (lens (([]:LZb).length) (([]:LZb).length) rfl)<|wN a.1.tracks.length<|wN a.1.packets.length<|z0) (by kernel_rfl)
theorem ok_Ie_60 (p0:LI) (a:Zd×LZ×Zg) (b:LI) (c d:Int) (r:Zh) (hm:m_Ie_60 p0 a b c d=some r):EE c_Ie_60 K_Ie_60 (s_Ie_60 p0 a b c d) (Post vf_Ie (res_Ie r)):=by
 obtain ⟨e,hm⟩|⟨e,hm⟩:=split_ite hm
 ·obtain ⟨f,g,hm⟩:=bind_some hm
  exact gw (ok_Ie_66 _ _ _ _ r hm) (wL (rI .u8) p0<|u1 e<|wO (.res (res_Im f))<|wO (zn (([]:LZa).length))<|wO (zn (([]:LZb).length))<|wP (ok_Im (Zg.mk b c d) 8 f g)<|wP (lens (([]:LZa).length) (([]:LZa).length) rfl)<|wP (lens (([]:LZb).length) (([]:LZb).length) rfl)<|wN a.1.tracks.length<|wN a.1.packets.length<|z0) (by kernel_rfl)
 ·exact gw (ok_Ie_66 _ _ _ _ r hm) (wL (rI .u8) p0<|v1 e<|wO (zn (([]:LZa).length))<|wO (zn (([]:LZb).length))<|wP (lens (([]:LZa).length) (([]:LZa).length) rfl)<|wP (lens (([]:LZb).length) (([]:LZb).length) rfl)<|wN a.1.tracks.length<|wN a.1.packets.length<|z0) (by kernel_rfl)
theorem ok_Ie_54 (p0:LI) (b:Zg) (a:Zd×LZ×Zg) (d:Bool) (r:Zh) (hm:m_Ie_54 p0 b a d=some r):EE c_Ie_54 K_Ie_54 (s_Ie_54 p0 b a d) (Post vf_Ie (res_Ie r)):=by
 obtain ⟨c,hm⟩|⟨c,hm⟩:=split_ite hm
 ·exact gw (ok_Ie_60 _ _ _ _ _ r hm) (v1 (not_f c)<|wO (zn (([]:LZa).length))<|wO (zn (([]:LZb).length))<|wP (lens (([]:LZa).length) (([]:LZa).length) rfl)<|wP (lens (([]:LZb).length) (([]:LZb).length) rfl)<|wN a.1.tracks.length<|wN a.1.packets.length<|z0) (by kernel_rfl)
 ·obtain ⟨e,f,hm⟩:=bind_some hm
  exact gw (ok_Ie_60 _ _ _ _ _ r hm) (u1 (not_t c)<|wO (.res (res_Im e))<|wO (zn (([]:LZa).length))<|wO (zn (([]:LZb).length))<|wP (ok_Im b 5 e f)<|wP (lens (([]:LZa).length) (([]:LZa).length) rfl)<|wP (lens (([]:LZb).length) (([]:LZb).length) rfl)<|wN a.1.tracks.length<|wN a.1.packets.length<|z0) (by kernel_rfl)
theorem ok_Ie_44 (p0:LI) (c:Zg) (a:Zd×LZ×Zg) (f:LZ) (d:Bool) (h:Int) (y) (hm:m_Ie_44 p0 c a f d h=some y) (Q)
  (hin:∀ s,y=.inl s→EE c_Ie_44 K_Ie_44 (s_Ie_44 p0 c a f s.1 s.2) Q) (hout:∀ e,y=.inr e→O_Ie_44 p0 c a Q e):EE c_Ie_44 K_Ie_44 (s_Ie_44 p0 c a f d h) Q:=by
 obtain ⟨b,hm⟩|⟨b,hm⟩:=split_ite hm
 ·obtain ⟨g,hm⟩|⟨g,hm⟩:=split_ite hm
  ·obtain ⟨k,i,hm⟩:=bind_some hm
   obtain ⟨l,j,hm⟩:=bind_some hm
   exact gw (hin _ (qj hm).symm) (u4 b<|u1 b<|u1 g<|wO (.row (rZa k))<|wO (.row (rZa l))<|wP (rd_in rfl i)<|wP (at_row rZa (rd_get0 i))<|wP (rd_in rfl j)<|wP (at_row rZa (rd_get0 j))<|wN a.2.1.length<|wN f.length<|wO (zn (([]:LZa).length))<|wO (zn (([]:LZb).length))<|wP (lens (([]:LZa).length) (([]:LZa).length) rfl)<|wP (lens (([]:LZb).length) (([]:LZb).length) rfl)<|wN a.1.tracks.length<|wN a.1.packets.length<|z0) (by kernel_rfl)
  ·refine gm c_Ie_54 K_Ie_54 (s_Ie_54 p0 c a d) (u4 b<|u1 b<|v1 g<|wO (zn (([]:LZa).length))<|wO (zn (([]:LZb).length))<|wP (lens (([]:LZa).length) (([]:LZa).length) rfl)<|wP (lens (([]:LZb).length) (([]:LZb).length) rfl)<|wN a.1.tracks.length<|wN a.1.packets.length<|z0) ?_ (by kernel_rfl)
   exact hout d (qj hm).symm
 ·refine gm c_Ie_54 K_Ie_54 (s_Ie_54 p0 c a d) (v4 b<|v1 b<|v1 eF<|wO (zn (([]:LZa).length))<|wO (zn (([]:LZb).length))<|wP (lens (([]:LZa).length) (([]:LZa).length) rfl)<|wP (lens (([]:LZb).length) (([]:LZb).length) rfl)<|wN a.1.tracks.length<|wN a.1.packets.length<|z0) ?_ (by kernel_rfl)
  exact hout d (qj hm).symm
theorem ok_Ie_39 (p0:LI) (d:Zg) (a:Zd×LZ×Zg) (f:LZ) (g:Bool) (r:Zh) (hm:m_Ie_39 p0 d a f g=some r):EE c_Ie_39 K_Ie_39 (s_Ie_39 p0 d a f g) (Post vf_Ie (res_Ie r)):=by
 refine gm c_Ie_44 K_Ie_44 (s_Ie_44 p0 d a f g 0) (wN a.2.1.length<|wN f.length<|wO (zn (([]:LZa).length))<|wO (zn (([]:LZb).length))<|wP (lens (([]:LZa).length) (([]:LZa).length) rfl)<|wP (lens (([]:LZb).length) (([]:LZb).length) rfl)<|wN a.1.tracks.length<|wN a.1.packets.length<|z0) ?_ (by kernel_rfl)
 obtain ⟨e,he,hm⟩:=bind_some hm
 refine loop_rule (u:=.c c_Ie_44) (K:=K_Ie_44) (Q:=(Post vf_Ie (res_Ie r))) (b:=lp_Ie_44 p0 d a f) (We:=O_Ie_44 p0 d a (Post vf_Ie (res_Ie r))) (stJ:=fun s=>s_Ie_44 p0 d a f s.1 s.2) (s:=(g,0)) (fun s y hb hin hout=>ok_Ie_44 p0 d a f s.1 s.2 y hb (Post vf_Ie (res_Ie r)) hin hout) he ?_
 show EE c_Ie_54 K_Ie_54 (s_Ie_54 p0 d a e) _
 exact ok_Ie_54 p0 d a e r hm
theorem ok_Ie_33 (p0:LI) (c:Int) (a:Zd×LZ×Zg) (d:LI) (e f:Int) (g:LZ) (r:Zh) (hm:m_Ie_33 p0 c a d e f g=some r):EE c_Ie_33 K_Ie_33 (s_Ie_33 p0 c a d e f g) (Post vf_Ie (res_Ie r)):=by
 obtain ⟨b,j,hm⟩:=bind_some hm
 obtain ⟨h,k,hm⟩:=bind_some hm
 obtain ⟨i,hm⟩|⟨i,hm⟩:=split_ite hm
 ·exact gw (ok_Ie_39 _ _ _ _ _ r hm) (wO (.res (res_Io b))<|wO (.res (res_Iq h))<|wP (ok_Io (Zg.mk d e f) b j)<|wP (ok_Iq b.2 (mxI c 0) h k)<|u4 i<|wN a.2.1.length<|wN g.length<|wO (zn (([]:LZa).length))<|wO (zn (([]:LZb).length))<|wP (lens (([]:LZa).length) (([]:LZa).length) rfl)<|wP (lens (([]:LZb).length) (([]:LZb).length) rfl)<|wN a.1.tracks.length<|wN a.1.packets.length<|z0) (by kernel_rfl)
 ·exact gw (ok_Ie_39 _ _ _ _ _ r hm) (wO (.res (res_Io b))<|wO (.res (res_Iq h))<|wP (ok_Io (Zg.mk d e f) b j)<|wP (ok_Iq b.2 (mxI c 0) h k)<|v4 i<|wN a.2.1.length<|wN g.length<|wO (zn (([]:LZa).length))<|wO (zn (([]:LZb).length))<|wP (lens (([]:LZa).length) (([]:LZa).length) rfl)<|wP (lens (([]:LZb).length) (([]:LZb).length) rfl)<|wN a.1.tracks.length<|wN a.1.packets.length<|z0) (by kernel_rfl)
theorem ok_Ie_23 (p0:LI) (k:Int) (l:Int×Zg) (a:Zd×LZ×Zg) (n:Int) (g:LI) (h i:Int) (b:LZ) (y) (hm:m_Ie_23 p0 k l a n g h i b=some y) (Q)
  (hin:∀ s,y=.inl s→EE c_Ie_23 K_Ie_23 (s_Ie_23 p0 k l a s.1 s.2.1 s.2.2.1 s.2.2.2.1 s.2.2.2.2) Q) (hout:∀ e,y=.inr e→O_Ie_23 p0 k a Q e):EE c_Ie_23 K_Ie_23 (s_Ie_23 p0 k l a n g h i b) Q:=by
 obtain ⟨j,hm⟩|⟨j,hm⟩:=split_ite hm
 ·obtain ⟨m,hm⟩|⟨m,hm⟩:=split_ite hm
  ·obtain ⟨c,o,hm⟩:=bind_some hm
   obtain ⟨d,p,hm⟩:=bind_some hm
   obtain ⟨f,q,hm⟩:=bind_some hm
   obtain ⟨t,r,hm⟩:=bind_some hm
   exact gw (hin _ (qj hm).symm) (u4 j<|u2 j<|u1 m<|wO (.res (res_Io c))<|wO (.res (res_Io d))<|wO (.res (res_Io f))<|wO (.rows (List.map rZa ([(Za.mk c.1 d.1 f.1)]:LZ)))<|wO (zn 1)<|wO (.rows (List.map rZa (b++([(Za.mk c.1 d.1 f.1)]:LZ))))<|wO (zn ((b++([(Za.mk c.1 d.1 f.1)]:LZ)).length))<|wO (zn a.2.1.length)<|wO (zn ((b++([(Za.mk c.1 d.1 f.1)]:LZ)).length))<|wO (zn (([]:LZa).length))<|wO (zn (([]:LZb).length))<|wO (zn a.1.tracks.length)<|wO (zn a.1.packets.length)<|wP (ok_Io (Zg.mk g h i) c o)<|wP (ok_Io c.2 d p)<|wP (ok_Io d.2 f q)<|wP (Eq.refl (List.map rZa ([(Za.mk c.1 d.1 f.1)]:LZ)))<|wP (len_map rZa (show 1=([(Za.mk c.1 d.1 f.1)]:LZ).length from rfl))<|wP (all_le rZa ([(Za.mk c.1 d.1 f.1)]:LZ) rfl)<|wP (app_ck rZa b ([(Za.mk c.1 d.1 f.1)]:LZ) rfl rfl r)<|wP (app_tell rZa b ([(Za.mk c.1 d.1 f.1)]:LZ) rfl rfl)<|wP (len_map rZa (show (b++([(Za.mk c.1 d.1 f.1)]:LZ)).length=(b++([(Za.mk c.1 d.1 f.1)]:LZ)).length from rfl))<|wP (ln a.2.1.length)<|wP (lens ((b++([(Za.mk c.1 d.1 f.1)]:LZ)).length) ((b++([(Za.mk c.1 d.1 f.1)]:LZ)).length) rfl)<|wP (lens (([]:LZa).length) (([]:LZa).length) rfl)<|wP (lens (([]:LZb).length) (([]:LZb).length) rfl)<|wP (ln a.1.tracks.length)<|wP (ln a.1.packets.length)<|z0) (by kernel_rfl)
  ·refine gm c_Ie_33 K_Ie_33 (s_Ie_33 p0 k a g h i b) (u4 j<|u2 j<|v1 m<|wN a.2.1.length<|wN b.length<|wO (zn (([]:LZa).length))<|wO (zn (([]:LZb).length))<|wP (lens (([]:LZa).length) (([]:LZa).length) rfl)<|wP (lens (([]:LZb).length) (([]:LZb).length) rfl)<|wN a.1.tracks.length<|wN a.1.packets.length<|z0) ?_ (by kernel_rfl)
   exact hout (g,h,i,b) (qj hm).symm
 ·refine gm c_Ie_33 K_Ie_33 (s_Ie_33 p0 k a g h i b) (v4 j<|v2 j<|v1 eF<|wN a.2.1.length<|wN b.length<|wO (zn (([]:LZa).length))<|wO (zn (([]:LZb).length))<|wP (lens (([]:LZa).length) (([]:LZa).length) rfl)<|wP (lens (([]:LZb).length) (([]:LZb).length) rfl)<|wN a.1.tracks.length<|wN a.1.packets.length<|z0) ?_ (by kernel_rfl)
  exact hout (g,h,i,b) (qj hm).symm
theorem ok_Ie_16 (p0:LI) (f:Int×Zg) (a:Zd×LZ×Zg) (d:Int) (g:LI) (h i:Int) (r:Zh) (hm:m_Ie_16 p0 f a d g h i=some r):EE c_Ie_16 K_Ie_16 (s_Ie_16 p0 f a d g h i) (Post vf_Ie (res_Ie r)):=by
 refine gm c_Ie_23 K_Ie_23 (s_Ie_23 p0 d f a 0 g h i ([]:LZ)) (wN a.2.1.length<|wO (zn (([]:LZ).length))<|wO (zn (([]:LZa).length))<|wO (zn (([]:LZb).length))<|wP (lens 0 (([]:LZ).length) rfl)<|wP (lens (([]:LZa).length) (([]:LZa).length) rfl)<|wP (lens (([]:LZb).length) (([]:LZb).length) rfl)<|wN a.1.tracks.length<|wN a.1.packets.length<|z0) ?_ (by kernel_rfl)
 obtain ⟨e,he,hm⟩:=bind_some hm
 refine loop_rule (u:=.c c_Ie_23) (K:=K_Ie_23) (Q:=(Post vf_Ie (res_Ie r))) (b:=lp_Ie_23 p0 d f a) (We:=O_Ie_23 p0 d a (Post vf_Ie (res_Ie r))) (stJ:=fun s=>s_Ie_23 p0 d f a s.1 s.2.1 s.2.2.1 s.2.2.2.1 s.2.2.2.2) (s:=(0,g,h,i,([]:LZ))) (fun s y hb hin hout=>ok_Ie_23 p0 d f a s.1 s.2.1 s.2.2.1 s.2.2.2.1 s.2.2.2.2 y hb (Post vf_Ie (res_Ie r)) hin hout) he ?_
 show EE c_Ie_33 K_Ie_33 (s_Ie_33 p0 d a e.1 e.2.1 e.2.2.1 e.2.2.2) _
 exact ok_Ie_33 p0 d a e.1 e.2.1 e.2.2.1 e.2.2.2 r hm
theorem ok_Ie_0 (p0:LI) (r:Zh) (hm:m_Ie_0 p0=some r):EE c_Ie_0 K_Ie_0 (s_Ie_0 p0) (Post vf_Ie (res_Ie r)):=by
 obtain ⟨a,d,hm⟩:=bind_some hm
 obtain ⟨b,e,hm⟩:=bind_some hm
 obtain ⟨c,hm⟩|⟨c,hm⟩:=split_ite hm
 ·obtain ⟨f,g,hm⟩:=bind_some hm
  exact gw (ok_Ie_16 _ _ _ _ _ _ _ r hm) (wO (.res (res_Ij a))<|wP (ok_Ij (Zg.mk p0 0 0) a d)<|ta1 a.1.tracks a.1.packets a.2.1<|wO (.res (res_Io b))<|wP (ok_Io a.2.2 b e)<|u1 c<|wO (.res (res_Im f))<|wP (ok_Im b.2 5 f g)<|wN a.2.1.length<|wO (zn (([]:LZa).length))<|wO (zn (([]:LZb).length))<|wP (lens 0 (([]:LZa).length) rfl)<|wP (lens 0 (([]:LZb).length) rfl)<|wN a.1.tracks.length<|wN a.1.packets.length<|z0) (by kernel_rfl)
 ·exact gw (ok_Ie_16 _ _ _ _ _ _ _ r hm) (wO (.res (res_Ij a))<|wP (ok_Ij (Zg.mk p0 0 0) a d)<|ta1 a.1.tracks a.1.packets a.2.1<|wO (.res (res_Io b))<|wP (ok_Io a.2.2 b e)<|v1 c<|wN a.2.1.length<|wO (zn (([]:LZa).length))<|wO (zn (([]:LZb).length))<|wP (lens 0 (([]:LZa).length) rfl)<|wP (lens 0 (([]:LZb).length) rfl)<|wN a.1.tracks.length<|wN a.1.packets.length<|z0) (by kernel_rfl)
theorem ok_Ie (p0:LI) (r:Zh) (hm:m_Ie p0=some r):Runs ext tbl 87 (as_Ie p0) (res_Ie r):=
 runs_of (vf:=vf_Ie) (by kernel_rfl) rfl (st:=(enter vf_Ie (as_Ie p0)).getD default) (by kernel_rfl) (go_on [] 1000 J0 (ok_Ie_0 p0 r hm) (by kernel_rfl))
theorem ok_Id_0 (p0:LI) (r:LZ) (hm:m_Id_0 p0=some r):EE c_Id_0 K_Id_0 (s_Id_0 p0) (Post vf_Id (res_Id r)):=by
 obtain ⟨a,b,hm⟩:=bind_some hm
 exact ge (wO (.res (res_Ij a))<|wP (ok_Ij (Zg.mk p0 0 0) a b)<|ta1 a.1.tracks a.1.packets a.2.1<|wR rZa a.2.1<|z0) (congrArg res_Id (qj hm)) (by kernel_rfl)
theorem ok_Id (p0:LI) (r:LZ) (hm:m_Id p0=some r):Runs ext tbl 11 (as_Id p0) (res_Id r):=
 runs_of (vf:=vf_Id) (by kernel_rfl) rfl (st:=(enter vf_Id (as_Id p0)).getD default) (by kernel_rfl) (go_on [] 1000 J0 (ok_Id_0 p0 r hm) (by kernel_rfl))
theorem ok_If_0 (p0:LI) (r:LZ) (hm:m_If_0 p0=some r):EE c_If_0 K_If_0 (s_If_0 p0) (Post vf_If (res_If r)):=by
 obtain ⟨a,d,hm⟩:=bind_some hm
 obtain ⟨c,hm⟩|⟨c,hm⟩:=split_ite hm
 ·exact ge (wO (.res (res_Ie a))<|wP (ok_Ie p0 a d)<|wL rZb a.box.tracks<|wL rZc a.box.packets<|u1 c<|wO (.rows (List.map rZa ([]:LZ)))<|wP (all_le0 rZa ([]:LZ) rfl)<|wP (all_t rZa ([]:LZ) rfl)<|z0) (congrArg res_If (qj hm)) (by kernel_rfl)
 ·obtain ⟨b,e,hm⟩:=bind_some hm
  exact ge (wO (.res (res_Ie a))<|wP (ok_Ie p0 a d)<|wL rZb a.box.tracks<|wL rZc a.box.packets<|v1 c<|wO (.res (res_Id b))<|wP (ok_Id p0 b e)<|wL rZa b<|wR rZa b<|z0) (congrArg res_If (qj hm)) (by kernel_rfl)
theorem ok_If (p0:LI) (r:LZ) (hm:m_If p0=some r):Runs ext tbl 34 (as_If p0) (res_If r):=
 runs_of (vf:=vf_If) (by kernel_rfl) rfl (st:=(enter vf_If (as_If p0)).getD default) (by kernel_rfl) (go_on [] 1000 J0 (ok_If_0 p0 r hm) (by kernel_rfl))
theorem ok_Lb_0 (p0 p1:Za) (r:Bool) (hm:m_Lb_0 p0 p1=some r):EE c_Lb_0 K_Lb_0 (s_Lb_0 p0 p1) (Post vf_Lb (res_Lb r)):=by
 obtain ⟨a,hm⟩|⟨a,hm⟩:=split_ite hm
 ·exact ge (u1 a<|z0) (congrArg res_Lb (qj hm)) (by kernel_rfl)
 ·obtain ⟨b,hm⟩|⟨b,hm⟩:=split_ite hm
  ·exact ge (v1 a<|u1 b<|z0) (congrArg res_Lb (qj hm)) (by kernel_rfl)
  ·obtain ⟨c,hm⟩|⟨c,hm⟩:=split_ite hm
   ·exact ge (v1 a<|v1 b<|u1 c<|z0) (congrArg res_Lb (qj hm)) (by kernel_rfl)
   ·exact ge (v1 a<|v1 b<|v1 c<|z0) (congrArg res_Lb (qj hm)) (by kernel_rfl)
theorem ok_Lb (p0 p1:Za) (r:Bool) (hm:m_Lb p0 p1=some r):Runs ext tbl 45 (as_Lb p0 p1) (res_Lb r):=
 runs_of (vf:=vf_Lb) (by kernel_rfl) rfl (st:=(enter vf_Lb (as_Lb p0 p1)).getD default) (by kernel_rfl) (go_on [] 1000 J0 (ok_Lb_0 p0 p1 r hm) (by kernel_rfl))
def O_Lc_15 (Q:VX→St→Prop) (e:(Bool)⊕((Unit))):Prop:=match e with | .inl e=>Q=Post vf_Lc (res_Lc e) | .inr e=>EE c_Lc_31 K_Lc_31 (s_Lc_31) Q
theorem ok_Lc_31 (r:Bool) (hm:m_Lc_31=some r):EE c_Lc_31 K_Lc_31 (s_Lc_31) (Post vf_Lc (res_Lc r)):=by
 exact ge (z0) (congrArg res_Lc (qj hm)) (by kernel_rfl)
theorem ok_Lc_15 (p0 p1:LZ) (i:Int) (y) (hm:m_Lc_15 p0 p1 i=some y) (Q)
  (hin:∀ s,y=.inl s→EE c_Lc_15 K_Lc_15 (s_Lc_15 p0 p1 s) Q) (hout:∀ e,y=.inr e→O_Lc_15 Q e):EE c_Lc_15 K_Lc_15 (s_Lc_15 p0 p1 i) Q:=by
 obtain ⟨a,hm⟩|⟨a,hm⟩:=split_ite hm
 ·obtain ⟨b,c,hm⟩:=bind_some hm
  obtain ⟨d,f,hm⟩:=bind_some hm
  obtain ⟨g,j,hm⟩:=bind_some hm
  obtain ⟨h,hm⟩|⟨h,hm⟩:=split_ite hm
  ·exact gw (hin _ (qj hm).symm) (wL rZa p0<|u1 a<|wO (.row (rZa b))<|wO (.row (rZa d))<|wO (.res (res_Lb g))<|wP (rd_nn c)<|wP (at_row rZa (rd_get c))<|wP (rd_nn f)<|wP (at_row rZa (rd_get f))<|wP (ok_Lb b d g j)<|v1 (not_f h)<|z0) (by kernel_rfl)
  ·have hQ:Q=Post vf_Lc (res_Lc false):=hout (.inl false) (qj hm).symm
   subst hQ
   exact ge (wL rZa p0<|u1 a<|wO (.row (rZa b))<|wO (.row (rZa d))<|wO (.res (res_Lb g))<|wP (rd_nn c)<|wP (at_row rZa (rd_get c))<|wP (rd_nn f)<|wP (at_row rZa (rd_get f))<|wP (ok_Lb b d g j)<|u1 (not_t h)<|z0) (rfl:res_Lc false=res_Lc false) (by kernel_rfl)
 ·refine gm c_Lc_31 K_Lc_31 (s_Lc_31) (wL rZa p0<|v1 a<|z0) ?_ (by kernel_rfl)
  exact hout (.inr ()) (qj hm).symm
theorem ok_Lc_0 (p0 p1:LZ) (r:Bool) (hm:m_Lc_0 p0 p1=some r):EE c_Lc_0 K_Lc_0 (s_Lc_0 p0 p1) (Post vf_Lc (res_Lc r)):=by
 obtain ⟨a,hm⟩|⟨a,hm⟩:=split_ite hm
 ·exact ge (wL rZa p0<|wL rZa p1<|u1 a<|z0) (congrArg res_Lc (qj hm)) (by kernel_rfl)
 ·refine gm c_Lc_15 K_Lc_15 (s_Lc_15 p0 p1 0) (wL rZa p0<|wL rZa p1<|v1 a<|z0) ?_ (by kernel_rfl)
  obtain ⟨e,he,hm⟩:=bind_some hm
  refine loop_rule (u:=.c c_Lc_15) (K:=K_Lc_15) (Q:=(Post vf_Lc (res_Lc r))) (b:=lp_Lc_15 p0 p1) (We:=O_Lc_15 (Post vf_Lc (res_Lc r))) (stJ:=fun s=>s_Lc_15 p0 p1 s) (s:=0) (fun s y hb hin hout=>ok_Lc_15 p0 p1 s y hb (Post vf_Lc (res_Lc r)) hin hout) he ?_
  rcases e with e | e
  ·exact congrArg (fun r=>Post vf_Lc (res_Lc r)) (qj hm).symm
  ·show EE c_Lc_31 K_Lc_31 (s_Lc_31) _
   exact ok_Lc_31 r hm
theorem ok_Lc (p0 p1:LZ) (r:Bool) (hm:m_Lc p0 p1=some r):Runs ext tbl 12 (as_Lc p0 p1) (res_Lc r):=
 runs_of (vf:=vf_Lc) (by kernel_rfl) rfl (st:=(enter vf_Lc (as_Lc p0 p1)).getD default) (by kernel_rfl) (go_on [] 1000 J0 (ok_Lc_0 p0 p1 r hm) (by kernel_rfl))
def O_La_15 (Q:VX→St→Prop) (e:(Bool)⊕((Unit))):Prop:=match e with | .inl e=>Q=Post vf_La (res_La e) | .inr e=>EE c_La_31 K_La_31 (s_La_31) Q
theorem ok_La_31 (r:Bool) (hm:m_La_31=some r):EE c_La_31 K_La_31 (s_La_31) (Post vf_La (res_La r)):=by
 exact ge (z0) (congrArg res_La (qj hm)) (by kernel_rfl)
theorem ok_La_15 (p0 p1:LI) (f:Int) (y) (hm:m_La_15 p0 p1 f=some y) (Q)
  (hin:∀ s,y=.inl s→EE c_La_15 K_La_15 (s_La_15 p0 p1 s) Q) (hout:∀ e,y=.inr e→O_La_15 Q e):EE c_La_15 K_La_15 (s_La_15 p0 p1 f) Q:=by
 obtain ⟨a,hm⟩|⟨a,hm⟩:=split_ite hm
 ·obtain ⟨g,b,hm⟩:=bind_some hm
  obtain ⟨h,c,hm⟩:=bind_some hm
  obtain ⟨d,hm⟩|⟨d,hm⟩:=split_ite hm
  ·have hQ:Q=Post vf_La (res_La false):=hout (.inl false) (qj hm).symm
   subst hQ
   exact ge (wL (rI .u8) p0<|u1 a<|wO (.row ((rI .u8) g))<|wO (.row ((rI .u8) h))<|wP (rd_nn b)<|wP (at_row (rI .u8) (rd_get b))<|wP (rd_nn c)<|wP (at_row (rI .u8) (rd_get c))<|u1 d<|z0) (rfl:res_La false=res_La false) (by kernel_rfl)
  ·exact gw (hin _ (qj hm).symm) (wL (rI .u8) p0<|u1 a<|wO (.row ((rI .u8) g))<|wO (.row ((rI .u8) h))<|wP (rd_nn b)<|wP (at_row (rI .u8) (rd_get b))<|wP (rd_nn c)<|wP (at_row (rI .u8) (rd_get c))<|v1 d<|z0) (by kernel_rfl)
 ·refine gm c_La_31 K_La_31 (s_La_31) (wL (rI .u8) p0<|v1 a<|z0) ?_ (by kernel_rfl)
  exact hout (.inr ()) (qj hm).symm
theorem ok_La_0 (p0 p1:LI) (r:Bool) (hm:m_La_0 p0 p1=some r):EE c_La_0 K_La_0 (s_La_0 p0 p1) (Post vf_La (res_La r)):=by
 obtain ⟨a,hm⟩|⟨a,hm⟩:=split_ite hm
 ·exact ge (wL (rI .u8) p0<|wL (rI .u8) p1<|u1 a<|z0) (congrArg res_La (qj hm)) (by kernel_rfl)
 ·refine gm c_La_15 K_La_15 (s_La_15 p0 p1 0) (wL (rI .u8) p0<|wL (rI .u8) p1<|v1 a<|z0) ?_ (by kernel_rfl)
  obtain ⟨e,he,hm⟩:=bind_some hm
  refine loop_rule (u:=.c c_La_15) (K:=K_La_15) (Q:=(Post vf_La (res_La r))) (b:=lp_La_15 p0 p1) (We:=O_La_15 (Post vf_La (res_La r))) (stJ:=fun s=>s_La_15 p0 p1 s) (s:=0) (fun s y hb hin hout=>ok_La_15 p0 p1 s y hb (Post vf_La (res_La r)) hin hout) he ?_
  rcases e with e | e
  ·exact congrArg (fun r=>Post vf_La (res_La r)) (qj hm).symm
  ·show EE c_La_31 K_La_31 (s_La_31) _
   exact ok_La_31 r hm
theorem ok_La (p0 p1:LI) (r:Bool) (hm:m_La p0 p1=some r):Runs ext tbl 13 (as_La p0 p1) (res_La r):=
 runs_of (vf:=vf_La) (by kernel_rfl) rfl (st:=(enter vf_La (as_La p0 p1)).getD default) (by kernel_rfl) (go_on [] 1000 J0 (ok_La_0 p0 p1 r hm) (by kernel_rfl))
def O_Le_7 (Q:VX→St→Prop) (e:(Int×LI)):Prop:=EE c_Le_19 K_Le_19 (s_Le_19 e.1 e.2) Q
theorem ok_Le_19 (a:Int) (b:LI) (r:Int×LI) (hm:m_Le_19 a b=some r):EE c_Le_19 K_Le_19 (s_Le_19 a b) (Post vf_Le (res_Le r)):=by
 exact ge (z0) (congrArg res_Le (qj hm)) (by kernel_rfl)
theorem ok_Le_7 (a c:Int) (b:LI) (y) (hm:m_Le_7 a c b=some y) (Q)
  (hin:∀ s,y=.inl s→EE c_Le_7 K_Le_7 (s_Le_7 s.1 s.2.1 s.2.2) Q) (hout:∀ e,y=.inr e→O_Le_7 Q e):EE c_Le_7 K_Le_7 (s_Le_7 a c b) Q:=by
 obtain ⟨d,hm⟩|⟨d,hm⟩:=split_ite hm
 ·obtain ⟨g,f,hm⟩:=bind_some hm
  exact gw (hin _ (qj hm).symm) (u1 d<|wO (.rows (List.map (rI .u8) (b.set (0+Int.toNat c) (wr .u8 a))))<|wO (zn ((b.set (0+Int.toNat c) (wr .u8 a)).length))<|wP (rd_in rfl f)<|wP (put_ob (rI .u8) (wr .u8 a) 0 (.lit (.int .u8 (wr .u8 a))) (rd_get0 f) (by kernel_rfl) (by kernel_rfl))<|wP (lens b.length ((b.set (0+Int.toNat c) (wr .u8 a)).length) (set_len rfl))<|z0) (by kernel_rfl)
 ·refine gm c_Le_19 K_Le_19 (s_Le_19 a b) (v1 d<|wN b.length<|z0) ?_ (by kernel_rfl)
  exact hout (a,b) (qj hm).symm
theorem ok_Le_0 (p1:Int) (p0:LI) (r:Int×LI) (hm:m_Le_0 p1 p0=some r):EE c_Le_0 K_Le_0 (s_Le_0 p1 p0) (Post vf_Le (res_Le r)):=by
 refine gm c_Le_7 K_Le_7 (s_Le_7 p1 0 p0) (wN p0.length<|z0) ?_ (by kernel_rfl)
 obtain ⟨e,he,hm⟩:=bind_some hm
 refine loop_rule (u:=.c c_Le_7) (K:=K_Le_7) (Q:=(Post vf_Le (res_Le r))) (b:=lp_Le_7) (We:=O_Le_7 (Post vf_Le (res_Le r))) (stJ:=fun s=>s_Le_7 s.1 s.2.1 s.2.2) (s:=(p1,0,p0)) (fun s y hb hin hout=>ok_Le_7 s.1 s.2.1 s.2.2 y hb (Post vf_Le (res_Le r)) hin hout) he ?_
 show EE c_Le_19 K_Le_19 (s_Le_19 e.1 e.2) _
 exact ok_Le_19 e.1 e.2 r hm
theorem ok_Le (p0:LI) (p1:Int) (r:Int×LI) (hm:m_Le p0 p1=some r):Runs ext tbl 14 (as_Le p0 p1) (res_Le r):=
 runs_of (vf:=vf_Le) (by kernel_rfl) rfl (st:=(enter vf_Le (as_Le p0 p1)).getD default) (by kernel_rfl) (go_on [zn p0.length] 1000 (J (len_map (rI .u8) (rfl:p0.length=p0.length)) J0) (ok_Le_0 p1 p0 r hm) (by kernel_rfl))
def O_Lf_7 (Q:VX→St→Prop) (e:(Int×LZ)):Prop:=EE c_Lf_27 K_Lf_27 (s_Lf_27 e.1 e.2) Q
theorem ok_Lf_27 (a:Int) (b:LZ) (r:Int×LZ) (hm:m_Lf_27 a b=some r):EE c_Lf_27 K_Lf_27 (s_Lf_27 a b) (Post vf_Lf (res_Lf r)):=by
 exact ge (z0) (congrArg res_Lf (qj hm)) (by kernel_rfl)
theorem ok_Lf_7 (a d:Int) (b:LZ) (y) (hm:m_Lf_7 a d b=some y) (Q)
  (hin:∀ s,y=.inl s→EE c_Lf_7 K_Lf_7 (s_Lf_7 s.1 s.2.1 s.2.2) Q) (hout:∀ e,y=.inr e→O_Lf_7 Q e):EE c_Lf_7 K_Lf_7 (s_Lf_7 a d b) Q:=by
 obtain ⟨g,hm⟩|⟨g,hm⟩:=split_ite hm
 ·obtain ⟨c,f,hm⟩:=bind_some hm
  exact gw (hin _ (qj hm).symm) (u1 g<|wO (.rows (List.map rZa (b.set (0+Int.toNat d) (Za.mk a c.time c.at_))))<|wO (.rows (List.map rZa (b.set (0+Int.toNat d) (Za.mk a (w64 (a+1)) c.at_))))<|wO (.rows (List.map rZa (b.set (0+Int.toNat d) (Za.mk a (w64 (a+1)) (w64 ((w64 (a+1))+1))))))<|wO (zn ((b.set (0+Int.toNat d) (Za.mk a (w64 (a+1)) (w64 ((w64 (a+1))+1)))).length))<|wP (rd_in rfl f)<|wP (put_ob rZa (Za.mk a c.time c.at_) 0 (.lit (vI a)) (rd_get0 f) (by kernel_rfl) (by kernel_rfl))<|wP (rd_in rfl f)<|wP (put_ob2 rZa (Za.mk a (w64 (a+1)) c.at_) 1 (.lit (vI (w64 (a+1)))) (set_at (Za.mk a c.time c.at_) (rd_get0 f)) (by kernel_rfl) (by kernel_rfl))<|wP (rd_in rfl f)<|wP (put_ob2 rZa (Za.mk a (w64 (a+1)) (w64 ((w64 (a+1))+1))) 2 (.lit (vI (w64 ((w64 (a+1))+1)))) (set_at2 (Za.mk a (w64 (a+1)) c.at_) (set_at (Za.mk a c.time c.at_) (rd_get0 f))) (by kernel_rfl) (by kernel_rfl))<|wP (lens b.length ((b.set (0+Int.toNat d) (Za.mk a (w64 (a+1)) (w64 ((w64 (a+1))+1)))).length) (set_len rfl))<|z0) (by kernel_rfl)
 ·refine gm c_Lf_27 K_Lf_27 (s_Lf_27 a b) (v1 g<|wN b.length<|z0) ?_ (by kernel_rfl)
  exact hout (a,b) (qj hm).symm
theorem ok_Lf_0 (p1:Int) (p0:LZ) (r:Int×LZ) (hm:m_Lf_0 p1 p0=some r):EE c_Lf_0 K_Lf_0 (s_Lf_0 p1 p0) (Post vf_Lf (res_Lf r)):=by
 refine gm c_Lf_7 K_Lf_7 (s_Lf_7 p1 0 p0) (wN p0.length<|z0) ?_ (by kernel_rfl)
 obtain ⟨e,he,hm⟩:=bind_some hm
 refine loop_rule (u:=.c c_Lf_7) (K:=K_Lf_7) (Q:=(Post vf_Lf (res_Lf r))) (b:=lp_Lf_7) (We:=O_Lf_7 (Post vf_Lf (res_Lf r))) (stJ:=fun s=>s_Lf_7 s.1 s.2.1 s.2.2) (s:=(p1,0,p0)) (fun s y hb hin hout=>ok_Lf_7 s.1 s.2.1 s.2.2 y hb (Post vf_Lf (res_Lf r)) hin hout) he ?_
 show EE c_Lf_27 K_Lf_27 (s_Lf_27 e.1 e.2) _
 exact ok_Lf_27 e.1 e.2 r hm
theorem ok_Lf (p0:LZ) (p1:Int) (r:Int×LZ) (hm:m_Lf p0 p1=some r):Runs ext tbl 15 (as_Lf p0 p1) (res_Lf r):=
 runs_of (vf:=vf_Lf) (by kernel_rfl) rfl (st:=(enter vf_Lf (as_Lf p0 p1)).getD default) (by kernel_rfl) (go_on [zn p0.length] 1000 (J (len_map rZa (rfl:p0.length=p0.length)) J0) (ok_Lf_0 p1 p0 r hm) (by kernel_rfl))
def O_Ld_7 (Q:VX→St→Prop) (e:(Int)⊕((Int))):Prop:=match e with | .inl e=>Q=Post vf_Ld (res_Ld e) | .inr e=>EE c_Ld_45 K_Ld_45 (s_Ld_45 e) Q
theorem ok_Ld_45 (a r:Int) (hm:m_Ld_45 a=some r):EE c_Ld_45 K_Ld_45 (s_Ld_45 a) (Post vf_Ld (res_Ld r)):=by
 exact ge (z0) (congrArg res_Ld (qj hm)) (by kernel_rfl)
theorem ok_Ld_7 (p0:LZ) (f i:Int) (y) (hm:m_Ld_7 p0 f i=some y) (Q)
  (hin:∀ s,y=.inl s→EE c_Ld_7 K_Ld_7 (s_Ld_7 p0 s.1 s.2) Q) (hout:∀ e,y=.inr e→O_Ld_7 Q e):EE c_Ld_7 K_Ld_7 (s_Ld_7 p0 f i) Q:=by
 obtain ⟨c,hm⟩|⟨c,hm⟩:=split_ite hm
 ·obtain ⟨b,a,hm⟩:=bind_some hm
  obtain ⟨d,hm⟩|⟨d,hm⟩:=split_ite hm
  ·have hQ:Q=Post vf_Ld (res_Ld (-1)):=hout (.inl (-1)) (qj hm).symm
   subst hQ
   exact ge (wL rZa p0<|u1 c<|wO (.row (rZa b))<|wP (rd_nn a)<|wP (at_row rZa (rd_get a))<|u1 d<|z0) (rfl:res_Ld (-1)=res_Ld (-1)) (by kernel_rfl)
  ·obtain ⟨g,hm⟩|⟨g,hm⟩:=split_ite hm
   ·have hQ:Q=Post vf_Ld (res_Ld (-1)):=hout (.inl (-1)) (qj hm).symm
    subst hQ
    exact ge (wL rZa p0<|u1 c<|wO (.row (rZa b))<|wP (rd_nn a)<|wP (at_row rZa (rd_get a))<|v1 d<|wO (.row (rZa b))<|wP (rd_nn a)<|wP (at_row rZa (rd_get a))<|u1 g<|z0) (rfl:res_Ld (-1)=res_Ld (-1)) (by kernel_rfl)
   ·obtain ⟨h,hm⟩|⟨h,hm⟩:=split_ite hm
    ·have hQ:Q=Post vf_Ld (res_Ld (-1)):=hout (.inl (-1)) (qj hm).symm
     subst hQ
     exact ge (wL rZa p0<|u1 c<|wO (.row (rZa b))<|wP (rd_nn a)<|wP (at_row rZa (rd_get a))<|v1 d<|wO (.row (rZa b))<|wP (rd_nn a)<|wP (at_row rZa (rd_get a))<|v1 g<|wO (.row (rZa b))<|wP (rd_nn a)<|wP (at_row rZa (rd_get a))<|u1 h<|z0) (rfl:res_Ld (-1)=res_Ld (-1)) (by kernel_rfl)
    ·exact gw (hin _ (qj hm).symm) (wL rZa p0<|u1 c<|wO (.row (rZa b))<|wP (rd_nn a)<|wP (at_row rZa (rd_get a))<|v1 d<|wO (.row (rZa b))<|wP (rd_nn a)<|wP (at_row rZa (rd_get a))<|v1 g<|wO (.row (rZa b))<|wP (rd_nn a)<|wP (at_row rZa (rd_get a))<|v1 h<|z0) (by kernel_rfl)
 ·refine gm c_Ld_45 K_Ld_45 (s_Ld_45 f) (wL rZa p0<|v1 c<|z0) ?_ (by kernel_rfl)
  exact hout (.inr f) (qj hm).symm
theorem ok_Ld_0 (p0:LZ) (p1 r:Int) (hm:m_Ld_0 p0 p1=some r):EE c_Ld_0 K_Ld_0 (s_Ld_0 p0 p1) (Post vf_Ld (res_Ld r)):=by
 refine gm c_Ld_7 K_Ld_7 (s_Ld_7 p0 p1 0) (z0) ?_ (by kernel_rfl)
 obtain ⟨e,he,hm⟩:=bind_some hm
 refine loop_rule (u:=.c c_Ld_7) (K:=K_Ld_7) (Q:=(Post vf_Ld (res_Ld r))) (b:=lp_Ld_7 p0) (We:=O_Ld_7 (Post vf_Ld (res_Ld r))) (stJ:=fun s=>s_Ld_7 p0 s.1 s.2) (s:=(p1,0)) (fun s y hb hin hout=>ok_Ld_7 p0 s.1 s.2 y hb (Post vf_Ld (res_Ld r)) hin hout) he ?_
 rcases e with e | e
 ·exact congrArg (fun r=>Post vf_Ld (res_Ld r)) (qj hm).symm
 ·show EE c_Ld_45 K_Ld_45 (s_Ld_45 e) _
  exact ok_Ld_45 e r hm
theorem ok_Ld (p0:LZ) (p1 r:Int) (hm:m_Ld p0 p1=some r):Runs ext tbl 16 (as_Ld p0 p1) (res_Ld r):=
 runs_of (vf:=vf_Ld) (by kernel_rfl) rfl (st:=(enter vf_Ld (as_Ld p0 p1)).getD default) (by kernel_rfl) (go_on [] 1000 J0 (ok_Ld_0 p0 p1 r hm) (by kernel_rfl))
theorem ok_laws_FnExactReadIndex_0 (p0:LI) (r:Bool) (hm:m_laws_FnExactReadIndex_0 p0=some r):EE c_laws_FnExactReadIndex_0 K_laws_FnExactReadIndex_0 (s_laws_FnExactReadIndex_0 p0) (Post vf_laws_FnExactReadIndex (res_laws_FnExactReadIndex r)):=by
 obtain ⟨m,hm⟩|⟨m,hm⟩:=split_ite hm
 ·exact ge (wL (rI .u8) p0<|u1 m<|z0) (congrArg res_laws_FnExactReadIndex (qj hm)) (by kernel_rfl)
 ·obtain ⟨a,f,hm⟩:=bind_some hm
  obtain ⟨c,p,hm⟩:=bind_some hm
  obtain ⟨b,o,hm⟩:=bind_some hm
  obtain ⟨e,j,hm⟩:=bind_some hm
  obtain ⟨h,hm⟩|⟨h,hm⟩:=split_ite hm
  ·obtain ⟨k,s,hm⟩:=bind_some hm
   obtain ⟨q,hm⟩|⟨q,hm⟩:=split_ite hm
   ·obtain ⟨g,u,hm⟩:=bind_some hm
    obtain ⟨z,v,hm⟩:=bind_some hm
    obtain ⟨l,hm⟩|⟨l,hm⟩:=split_ite hm
    ·exact ge (wL (rI .u8) p0<|v1 m<|wO (.res (res_Lg a))<|wP (ok_Lg p0 a f)<|wL (rI .u8) a<|wO (.rows (List.map (rI .u8) a))<|wO (.res (res_Sd c))<|wP (all_le (rI .u8) a rfl)<|wP (all_dt (rI .u8) a rfl)<|wP (ok_Sd a c p)<|wL rZa c<|wO (.res (res_Lg a))<|wP (ok_Lg p0 a f)<|wL (rI .u8) a<|wO (.rows (List.map (rI .u8) a))<|wO (.res (res_If b))<|wP (all_le (rI .u8) a rfl)<|wP (all_dt (rI .u8) a rfl)<|wP (ok_If a b o)<|wL rZa b<|wO (.rows (List.map rZa b))<|wO (.rows (List.map rZa c))<|wO (.res (res_Lc e))<|wP (all_le rZa b rfl)<|wP (all_dt rZa b rfl)<|wP (all_le rZa c rfl)<|wP (all_dt rZa c rfl)<|wP (ok_Lc b c e j)<|v1 (not_f h)<|wO (.res (res_Lg a))<|wP (ok_Lg p0 a f)<|wL (rI .u8) a<|wO (.rows (List.map (rI .u8) a))<|wO (.rows (List.map (rI .u8) a))<|wO (.res (res_La k))<|wP (all_le (rI .u8) a rfl)<|wP (all_dt (rI .u8) a rfl)<|wP (all_le (rI .u8) a rfl)<|wP (all_dt (rI .u8) a rfl)<|wP (ok_La a a k s)<|v1 (not_f q)<|wO (.res (res_Le g))<|wP (all_eq (rI .u8) a rfl)<|wP (ok_Le a 1 g u)<|wP (len2 (rI .u8) g.2 a (ck_p v))<|u4 l<|u1 l<|u1 eT<|z0) (congrArg res_laws_FnExactReadIndex (qj hm)) (by kernel_rfl)
    ·obtain ⟨d,y,hm⟩:=bind_some hm
     obtain ⟨A,i,hm⟩:=bind_some hm
     obtain ⟨n,w,hm⟩:=bind_some hm
     obtain ⟨t,hm⟩|⟨t,hm⟩:=split_ite hm
     ·exact ge (wL (rI .u8) p0<|v1 m<|wO (.res (res_Lg a))<|wP (ok_Lg p0 a f)<|wL (rI .u8) a<|wO (.rows (List.map (rI .u8) a))<|wO (.res (res_Sd c))<|wP (all_le (rI .u8) a rfl)<|wP (all_dt (rI .u8) a rfl)<|wP (ok_Sd a c p)<|wL rZa c<|wO (.res (res_Lg a))<|wP (ok_Lg p0 a f)<|wL (rI .u8) a<|wO (.rows (List.map (rI .u8) a))<|wO (.res (res_If b))<|wP (all_le (rI .u8) a rfl)<|wP (all_dt (rI .u8) a rfl)<|wP (ok_If a b o)<|wL rZa b<|wO (.rows (List.map rZa b))<|wO (.rows (List.map rZa c))<|wO (.res (res_Lc e))<|wP (all_le rZa b rfl)<|wP (all_dt rZa b rfl)<|wP (all_le rZa c rfl)<|wP (all_dt rZa c rfl)<|wP (ok_Lc b c e j)<|v1 (not_f h)<|wO (.res (res_Lg a))<|wP (ok_Lg p0 a f)<|wL (rI .u8) a<|wO (.rows (List.map (rI .u8) a))<|wO (.rows (List.map (rI .u8) a))<|wO (.res (res_La k))<|wP (all_le (rI .u8) a rfl)<|wP (all_dt (rI .u8) a rfl)<|wP (all_le (rI .u8) a rfl)<|wP (all_dt (rI .u8) a rfl)<|wP (ok_La a a k s)<|v1 (not_f q)<|wO (.res (res_Le g))<|wP (all_eq (rI .u8) a rfl)<|wP (ok_Le a 1 g u)<|wP (len2 (rI .u8) g.2 a (ck_p v))<|v3 l<|wO (.rows (List.map rZa b))<|wO (.rows (List.map rZa c))<|wO (.res (res_Lc e))<|wP (all_le rZa b rfl)<|wP (all_dt rZa b rfl)<|wP (all_le rZa c rfl)<|wP (all_dt rZa c rfl)<|wP (ok_Lc b c e j)<|v2 l<|v1 (not_f h)<|wO (.res (res_Lf d))<|wO (.rows (List.map rZa d.2))<|wO (.res (res_Ld n))<|wO zT<|wP (all_eq rZa b rfl)<|wP (ok_Lf b 1 d y)<|wP (len2 rZa d.2 b (ck_p i))<|wP (all_le rZa d.2 (Eq.trans rfl (Eq.symm (ck_p i))))<|wP (all_dt rZa d.2 (Eq.trans rfl (Eq.symm (ck_p i))))<|wP (ok_Ld d.2 1 n w)<|wP t<|z0) (congrArg res_laws_FnExactReadIndex (qj hm)) (by kernel_rfl)
     ·obtain ⟨x,hm⟩|⟨x,hm⟩:=split_ite hm
      ·exact ge (wL (rI .u8) p0<|v1 m<|wO (.res (res_Lg a))<|wP (ok_Lg p0 a f)<|wL (rI .u8) a<|wO (.rows (List.map (rI .u8) a))<|wO (.res (res_Sd c))<|wP (all_le (rI .u8) a rfl)<|wP (all_dt (rI .u8) a rfl)<|wP (ok_Sd a c p)<|wL rZa c<|wO (.res (res_Lg a))<|wP (ok_Lg p0 a f)<|wL (rI .u8) a<|wO (.rows (List.map (rI .u8) a))<|wO (.res (res_If b))<|wP (all_le (rI .u8) a rfl)<|wP (all_dt (rI .u8) a rfl)<|wP (ok_If a b o)<|wL rZa b<|wO (.rows (List.map rZa b))<|wO (.rows (List.map rZa c))<|wO (.res (res_Lc e))<|wP (all_le rZa b rfl)<|wP (all_dt rZa b rfl)<|wP (all_le rZa c rfl)<|wP (all_dt rZa c rfl)<|wP (ok_Lc b c e j)<|v1 (not_f h)<|wO (.res (res_Lg a))<|wP (ok_Lg p0 a f)<|wL (rI .u8) a<|wO (.rows (List.map (rI .u8) a))<|wO (.rows (List.map (rI .u8) a))<|wO (.res (res_La k))<|wP (all_le (rI .u8) a rfl)<|wP (all_dt (rI .u8) a rfl)<|wP (all_le (rI .u8) a rfl)<|wP (all_dt (rI .u8) a rfl)<|wP (ok_La a a k s)<|v1 (not_f q)<|wO (.res (res_Le g))<|wP (all_eq (rI .u8) a rfl)<|wP (ok_Le a 1 g u)<|wP (len2 (rI .u8) g.2 a (ck_p v))<|v3 l<|wO (.rows (List.map rZa b))<|wO (.rows (List.map rZa c))<|wO (.res (res_Lc e))<|wP (all_le rZa b rfl)<|wP (all_dt rZa b rfl)<|wP (all_le rZa c rfl)<|wP (all_dt rZa c rfl)<|wP (ok_Lc b c e j)<|v2 l<|v1 (not_f h)<|wO (.res (res_Lf d))<|wO (.rows (List.map rZa d.2))<|wO (.res (res_Ld n))<|wO zF<|wO zT<|wP (all_eq rZa b rfl)<|wP (ok_Lf b 1 d y)<|wP (len2 rZa d.2 b (ck_p i))<|wP (all_le rZa d.2 (Eq.trans rfl (Eq.symm (ck_p i))))<|wP (all_dt rZa d.2 (Eq.trans rfl (Eq.symm (ck_p i))))<|wP (ok_Ld d.2 1 n w)<|wP t<|wP x<|z0) (congrArg res_laws_FnExactReadIndex (qj hm)) (by kernel_rfl)
      ·exact ge (wL (rI .u8) p0<|v1 m<|wO (.res (res_Lg a))<|wP (ok_Lg p0 a f)<|wL (rI .u8) a<|wO (.rows (List.map (rI .u8) a))<|wO (.res (res_Sd c))<|wP (all_le (rI .u8) a rfl)<|wP (all_dt (rI .u8) a rfl)<|wP (ok_Sd a c p)<|wL rZa c<|wO (.res (res_Lg a))<|wP (ok_Lg p0 a f)<|wL (rI .u8) a<|wO (.rows (List.map (rI .u8) a))<|wO (.res (res_If b))<|wP (all_le (rI .u8) a rfl)<|wP (all_dt (rI .u8) a rfl)<|wP (ok_If a b o)<|wL rZa b<|wO (.rows (List.map rZa b))<|wO (.rows (List.map rZa c))<|wO (.res (res_Lc e))<|wP (all_le rZa b rfl)<|wP (all_dt rZa b rfl)<|wP (all_le rZa c rfl)<|wP (all_dt rZa c rfl)<|wP (ok_Lc b c e j)<|v1 (not_f h)<|wO (.res (res_Lg a))<|wP (ok_Lg p0 a f)<|wL (rI .u8) a<|wO (.rows (List.map (rI .u8) a))<|wO (.rows (List.map (rI .u8) a))<|wO (.res (res_La k))<|wP (all_le (rI .u8) a rfl)<|wP (all_dt (rI .u8) a rfl)<|wP (all_le (rI .u8) a rfl)<|wP (all_dt (rI .u8) a rfl)<|wP (ok_La a a k s)<|v1 (not_f q)<|wO (.res (res_Le g))<|wP (all_eq (rI .u8) a rfl)<|wP (ok_Le a 1 g u)<|wP (len2 (rI .u8) g.2 a (ck_p v))<|v3 l<|wO (.rows (List.map rZa b))<|wO (.rows (List.map rZa c))<|wO (.res (res_Lc e))<|wP (all_le rZa b rfl)<|wP (all_dt rZa b rfl)<|wP (all_le rZa c rfl)<|wP (all_dt rZa c rfl)<|wP (ok_Lc b c e j)<|v2 l<|v1 (not_f h)<|wO (.res (res_Lf d))<|wO (.rows (List.map rZa d.2))<|wO (.res (res_Ld n))<|wO zF<|wO zF<|wO (.res (res_Lg a))<|wO (zn a.length)<|wO (.rows (List.map (rI .u8) a))<|wO (.res (res_If b))<|wO (zn b.length)<|wO (.rows (List.map rZa b))<|wO (.rows (List.map rZa c))<|wO (.res (res_Lc e))<|wO zF<|wO (.rows (List.map rZa d.2))<|wO (.res (res_Ld n))<|wO zF<|wO zF<|wP (all_eq rZa b rfl)<|wP (ok_Lf b 1 d y)<|wP (len2 rZa d.2 b (ck_p i))<|wP (all_le rZa d.2 (Eq.trans rfl (Eq.symm (ck_p i))))<|wP (all_dt rZa d.2 (Eq.trans rfl (Eq.symm (ck_p i))))<|wP (ok_Ld d.2 1 n w)<|wP t<|wP x<|wP (ok_Lg p0 a f)<|wP (lm (rI .u8) a)<|wP (all_le (rI .u8) a rfl)<|wP (all_dt (rI .u8) a rfl)<|wP (ok_If a b o)<|wP (lm rZa b)<|wP (all_le rZa b rfl)<|wP (all_dt rZa b rfl)<|wP (all_le rZa c rfl)<|wP (all_dt rZa c rfl)<|wP (ok_Lc b c e j)<|wP (not_f h)<|wP (all_le rZa d.2 (Eq.trans rfl (Eq.symm (ck_p i))))<|wP (all_dt rZa d.2 (Eq.trans rfl (Eq.symm (ck_p i))))<|wP (ok_Ld d.2 1 n w)<|wP t<|wP x<|z0) (congrArg res_laws_FnExactReadIndex (qj hm)) (by kernel_rfl)
   ·exact ge (wL (rI .u8) p0<|v1 m<|wO (.res (res_Lg a))<|wP (ok_Lg p0 a f)<|wL (rI .u8) a<|wO (.rows (List.map (rI .u8) a))<|wO (.res (res_Sd c))<|wP (all_le (rI .u8) a rfl)<|wP (all_dt (rI .u8) a rfl)<|wP (ok_Sd a c p)<|wL rZa c<|wO (.res (res_Lg a))<|wP (ok_Lg p0 a f)<|wL (rI .u8) a<|wO (.rows (List.map (rI .u8) a))<|wO (.res (res_If b))<|wP (all_le (rI .u8) a rfl)<|wP (all_dt (rI .u8) a rfl)<|wP (ok_If a b o)<|wL rZa b<|wO (.rows (List.map rZa b))<|wO (.rows (List.map rZa c))<|wO (.res (res_Lc e))<|wP (all_le rZa b rfl)<|wP (all_dt rZa b rfl)<|wP (all_le rZa c rfl)<|wP (all_dt rZa c rfl)<|wP (ok_Lc b c e j)<|v1 (not_f h)<|wO (.res (res_Lg a))<|wP (ok_Lg p0 a f)<|wL (rI .u8) a<|wO (.rows (List.map (rI .u8) a))<|wO (.rows (List.map (rI .u8) a))<|wO (.res (res_La k))<|wP (all_le (rI .u8) a rfl)<|wP (all_dt (rI .u8) a rfl)<|wP (all_le (rI .u8) a rfl)<|wP (all_dt (rI .u8) a rfl)<|wP (ok_La a a k s)<|u1 (not_t q)<|z0) (congrArg res_laws_FnExactReadIndex (qj hm)) (by kernel_rfl)
  ·exact ge (wL (rI .u8) p0<|v1 m<|wO (.res (res_Lg a))<|wP (ok_Lg p0 a f)<|wL (rI .u8) a<|wO (.rows (List.map (rI .u8) a))<|wO (.res (res_Sd c))<|wP (all_le (rI .u8) a rfl)<|wP (all_dt (rI .u8) a rfl)<|wP (ok_Sd a c p)<|wL rZa c<|wO (.res (res_Lg a))<|wP (ok_Lg p0 a f)<|wL (rI .u8) a<|wO (.rows (List.map (rI .u8) a))<|wO (.res (res_If b))<|wP (all_le (rI .u8) a rfl)<|wP (all_dt (rI .u8) a rfl)<|wP (ok_If a b o)<|wL rZa b<|wO (.rows (List.map rZa b))<|wO (.rows (List.map rZa c))<|wO (.res (res_Lc e))<|wP (all_le rZa b rfl)<|wP (all_dt rZa b rfl)<|wP (all_le rZa c rfl)<|wP (all_dt rZa c rfl)<|wP (ok_Lc b c e j)<|u1 (not_t h)<|z0) (congrArg res_laws_FnExactReadIndex (qj hm)) (by kernel_rfl)
theorem ok_laws_FnExactReadIndex (p0:LI) (r:Bool) (hm:m_laws_FnExactReadIndex p0=some r):Runs ext tbl 7 (as_laws_FnExactReadIndex p0) (res_laws_FnExactReadIndex r):=
 runs_of (vf:=vf_laws_FnExactReadIndex) (by kernel_rfl) rfl (st:=(enter vf_laws_FnExactReadIndex (as_laws_FnExactReadIndex p0)).getD default) (by kernel_rfl) (go_on [] 1000 J0 (ok_laws_FnExactReadIndex_0 p0 r hm) (by kernel_rfl))
end Go.Proofs.V

namespace Go.Proofs.V
open Go
theorem all_fi:∀ x ∈ tblL,x.2.given=false→funcIs Go.Proofs.Try.prog tbl x.1 x.2=true:=by
 simp only [tblL,List.forall_mem_cons]
 exact ⟨(fun _=>fi_Lg),(fun _=>fi_Sj),(fun _=>fi_Sr),(fun _=>fi_Si),(fun _=>fi_Sb),(fun _=>fi_Sn),(fun _=>fi_Se),(fun _=>fi_Sv),(fun _=>fi_Sx),(fun _=>fi_Sa),(fun _=>fi_Sq),(fun _=>fi_Sk),(fun _=>fi_Sh),(fun _=>fi_Sm),(fun _=>fi_Su),(fun _=>fi_So),(fun _=>fi_Sp),(fun _=>fi_Sg),(fun _=>fi_Sw),(fun _=>fi_St),(fun _=>fi_Sf),(fun _=>fi_Sc),(fun _=>fi_Sl),(fun _=>fi_Ss),(fun _=>fi_Sd),(fun _=>fi_Im),(fun _=>fi_Ii),(fun _=>fi_Il),(fun _=>fi_Ik),(fun _=>fi_Ib),(fun _=>fi_Io),(fun _=>fi_It),(fun _=>fi_Ih),(fun _=>fi_Ia),(fun _=>fi_Iq),(fun _=>fi_In),(fun _=>fi_Is),(fun _=>fi_Ip),(fun _=>fi_Ij),(fun _=>fi_Ir),(fun _=>fi_Ig),(fun _=>fi_Ic),(fun _=>fi_Ie),(fun _=>fi_Id),(fun _=>fi_If),(fun _=>fi_Lb),(fun _=>fi_Lc),(fun _=>fi_La),(fun _=>fi_Le),(fun _=>fi_Lf),(fun _=>fi_Ld),(fun _=>fi_laws_FnExactReadIndex),fun _ h=>by cases h⟩
theorem all_given:∀ x ∈ tblL,x.2.given=true→∀ ars res st0,enter x.2 ars=some st0→ext x.1 ars=some res→callable Go.Proofs.Try.prog x.1=true∧Does gI Go.Proofs.Try.prog x.1 x.2 st0 res:=by
 simp only [tblL,List.forall_mem_cons]
 exact ⟨(fun h=>by cases h),(fun h=>by cases h),(fun h=>by cases h),(fun h=>by cases h),(fun h=>by cases h),(fun h=>by cases h),(fun h=>by cases h),(fun h=>by cases h),(fun h=>by cases h),(fun h=>by cases h),(fun h=>by cases h),(fun h=>by cases h),(fun h=>by cases h),(fun h=>by cases h),(fun h=>by cases h),(fun h=>by cases h),(fun h=>by cases h),(fun h=>by cases h),(fun h=>by cases h),(fun h=>by cases h),(fun h=>by cases h),(fun h=>by cases h),(fun h=>by cases h),(fun h=>by cases h),(fun h=>by cases h),(fun h=>by cases h),(fun h=>by cases h),(fun h=>by cases h),(fun h=>by cases h),(fun h=>by cases h),(fun h=>by cases h),(fun h=>by cases h),(fun h=>by cases h),(fun h=>by cases h),(fun h=>by cases h),(fun h=>by cases h),(fun h=>by cases h),(fun h=>by cases h),(fun h=>by cases h),(fun h=>by cases h),(fun h=>by cases h),(fun h=>by cases h),(fun h=>by cases h),(fun h=>by cases h),(fun h=>by cases h),(fun h=>by cases h),(fun h=>by cases h),(fun h=>by cases h),(fun h=>by cases h),(fun h=>by cases h),(fun h=>by cases h),(fun h=>by cases h),fun _ h=>by cases h⟩
theorem sound:∀ n,FSound gI Go.Proofs.Try.prog tbl (vrun ext tbl n):=table_sound (fun _=>rfl) ext all_given all_fi
def lawPs:List (Bool×List Ty):=[(false,[.sl [.int .u8]])]
theorem pure_law:LawPure ext tbl 7 lawPs:=by
 intro tss hl hw
 match tss,hl with
 | [t0],_=>
  obtain ⟨x0,rfl,w0⟩ :=(dec_sl (dec_int .u8)) t0 (hw 0 _ t0 rfl rfl)
  exact ok_laws_FnExactReadIndex x0 true (final_FnExactReadIndex x0 w0)
end Go.Proofs.V
