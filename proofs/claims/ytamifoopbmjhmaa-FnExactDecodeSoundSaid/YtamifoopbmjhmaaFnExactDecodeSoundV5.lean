import Derived.Test.YtamifoopbmjhmaaFnExactDecodeSoundV4
set_option linter.unusedVariables false
set_option maxRecDepth 100000
namespace Go.Proofs.V
open Go
theorem ok_Sk_2 (a:LI) (b c:Int) (y) (hm:m_Sk_2 a b c=some y) (Q)
  (hin:∀ s,y=.inl s→EE c_Sk_2 K_Sk_2 (s_Sk_2 s.1 s.2.1 s.2.2) Q) (hout:∀ e,y=.inr e→O_Sk_2 Q e):EE c_Sk_2 K_Sk_2 (s_Sk_2 a b c) Q:=by
 obtain ⟨d,hm⟩|⟨d,hm⟩:=split_ite hm
 ·obtain ⟨g,hm⟩|⟨g,hm⟩:=split_ite hm
  ·obtain ⟨f,i,hm⟩:=bind_some hm
   obtain ⟨h,hm⟩|⟨h,hm⟩:=split_ite hm
   ·obtain ⟨j,k,hm⟩:=bind_some hm
    exact gw (hin _ (qj hm).symm) (wP (by decide:(8:Int)≠0)<|u4 d<|u2 d<|u1 g<|wO (.res (res_Sq f))<|wP (ok_Sq (Zc.mk a b c) 1 f i)<|u1 h<|wO (.res (res_Sj j))<|wP (ok_Sj f.2 4 j k)<|z0) (by kernel_rfl)
   ·exact gw (hin _ (qj hm).symm) (wP (by decide:(8:Int)≠0)<|u4 d<|u2 d<|u1 g<|wO (.res (res_Sq f))<|wP (ok_Sq (Zc.mk a b c) 1 f i)<|v1 h<|z0) (by kernel_rfl)
  ·have hQ:Q=Post vf_Sk (res_Sk (Zc.mk a b c)):=hout (Zc.mk a b c) (qj hm).symm
   subst hQ
   exact ge (wP (by decide:(8:Int)≠0)<|u4 d<|u2 d<|v1 g<|z0) (rfl:res_Sk (Zc.mk a b c)=res_Sk (Zc.mk a b c)) (by kernel_rfl)
 ·have hQ:Q=Post vf_Sk (res_Sk (Zc.mk a b c)):=hout (Zc.mk a b c) (qj hm).symm
  subst hQ
  exact ge (wP (by decide:(8:Int)≠0)<|v4 d<|v2 d<|v1 eF<|z0) (rfl:res_Sk (Zc.mk a b c)=res_Sk (Zc.mk a b c)) (by kernel_rfl)
theorem ok_Sk_0 (p0 r:Zc) (hm:m_Sk_0 p0=some r):EE c_Sk_0 K_Sk_0 (s_Sk_0 p0) (Post vf_Sk (res_Sk r)):=by
 refine gm c_Sk_2 K_Sk_2 (s_Sk_2 p0.data p0.at_ p0.err) (z0) ?_ (by kernel_rfl)
 obtain ⟨e,he,hm⟩:=bind_some hm
 refine loop_rule (u:=.c c_Sk_2) (K:=K_Sk_2) (Q:=(Post vf_Sk (res_Sk r))) (b:=lp_Sk_2) (We:=O_Sk_2 (Post vf_Sk (res_Sk r))) (stJ:=fun s=>s_Sk_2 s.1 s.2.1 s.2.2) (s:=(p0.data,p0.at_,p0.err)) (fun s y hb hin hout=>ok_Sk_2 s.1 s.2.1 s.2.2 y hb (Post vf_Sk (res_Sk r)) hin hout) he ?_
 exact congrArg (fun r=>Post vf_Sk (res_Sk r)) (qj hm).symm
theorem ok_Sk (p0 r:Zc) (hm:m_Sk p0=some r):Runs ext tbl 78 (as_Sk p0) (res_Sk r):=
 runs_of (vf:=vf_Sk) (by kernel_rfl) rfl (st:=(enter vf_Sk (as_Sk p0)).getD default) (by kernel_rfl) (go_on [] 1000 J0 (ok_Sk_0 p0 r hm) (by kernel_rfl))
def O_Sa_25 (p0:LI) (a:Int) (Q:VX→St→Prop) (e:(Int)):Prop:=EE c_Sa_43 K_Sa_43 (s_Sa_43 p0 a e) Q
def O_Sa_9 (Q:VX→St→Prop) (e:(Int)):Prop:=EE c_Sa_44 K_Sa_44 (s_Sa_44 e) Q
theorem ok_Sa_43 (p0:LI) (a b:Int) (y) (hm:m_Sa_43 p0 a b=some y) (Q)
  (hin:∀ s,y=.inl s→EE c_Sa_9 K_Sa_9 (s_Sa_9 p0 s.1 s.2) Q) (hout:∀ e,y=.inr e→O_Sa_9 Q e):EE c_Sa_43 K_Sa_43 (s_Sa_43 p0 a b) Q:=by
 exact gw (hin _ (qj hm).symm) (z0) (by kernel_rfl)
theorem ok_Sa_25 (p0:LI) (a b f:Int) (y) (hm:m_Sa_25 p0 a b f=some y) (Q)
  (hin:∀ s,y=.inl s→EE c_Sa_25 K_Sa_25 (s_Sa_25 p0 a s.1 s.2) Q) (hout:∀ e,y=.inr e→O_Sa_25 p0 a Q e):EE c_Sa_25 K_Sa_25 (s_Sa_25 p0 a b f) Q:=by
 obtain ⟨c,hm⟩|⟨c,hm⟩:=split_ite hm
 ·obtain ⟨d,hm⟩|⟨d,hm⟩:=split_ite hm
  ·exact gw (hin _ (qj hm).symm) (u1 c<|wP (by decide:(0:Int)≤1)<|u1 d<|z0) (by kernel_rfl)
  ·exact gw (hin _ (qj hm).symm) (u1 c<|wP (by decide:(0:Int)≤1)<|v1 d<|z0) (by kernel_rfl)
 ·refine gm c_Sa_43 K_Sa_43 (s_Sa_43 p0 a b) (v1 c<|z0) ?_ (by kernel_rfl)
  exact hout b (qj hm).symm
theorem ok_Sa_44 (a r:Int) (hm:m_Sa_44 a=some r):EE c_Sa_44 K_Sa_44 (s_Sa_44 a) (Post vf_Sa (res_Sa r)):=by
 exact ge (z0) (congrArg res_Sa (qj hm)) (by kernel_rfl)
theorem ok_Sa_9 (p0:LI) (d a:Int) (y) (hm:m_Sa_9 p0 d a=some y) (Q)
  (hin:∀ s,y=.inl s→EE c_Sa_9 K_Sa_9 (s_Sa_9 p0 s.1 s.2) Q) (hout:∀ e,y=.inr e→O_Sa_9 Q e):EE c_Sa_9 K_Sa_9 (s_Sa_9 p0 d a) Q:=by
 obtain ⟨f,hm⟩|⟨f,hm⟩:=split_ite hm
 ·obtain ⟨g,h,hm⟩:=bind_some hm
  refine gm c_Sa_25 K_Sa_25 (s_Sa_25 p0 a (xorI .u32 d (wr .u32 g)) 0) (u1 f<|wO (.row ((rI .u8) g))<|wP (rd_nn h)<|wP (at_row (rI .u8) (rd_get h))<|z0) ?_ (by kernel_rfl)
  obtain ⟨e,he,hm⟩:=bind_some hm
  refine loop_rule (u:=.c c_Sa_25) (K:=K_Sa_25) (Q:=Q) (b:=lp_Sa_25 p0 a) (We:=O_Sa_25 p0 a Q) (stJ:=fun s=>s_Sa_25 p0 a s.1 s.2) (s:=((xorI .u32 d (wr .u32 g)),0)) (fun s y hb hin hout=>ok_Sa_25 p0 a s.1 s.2 y hb Q hin hout) he ?_
  show EE c_Sa_43 K_Sa_43 (s_Sa_43 p0 a e) _
  exact ok_Sa_43 p0 a e y hm Q hin hout
 ·refine gm c_Sa_44 K_Sa_44 (s_Sa_44 d) (v1 f<|z0) ?_ (by kernel_rfl)
  exact hout d (qj hm).symm
theorem ok_Sa_0 (p0:LI) (r:Int) (hm:m_Sa_0 p0=some r):EE c_Sa_0 K_Sa_0 (s_Sa_0 p0) (Post vf_Sa (res_Sa r)):=by
 refine gm c_Sa_9 K_Sa_9 (s_Sa_9 p0 4294967295 0) (wL (rI .u8) p0<|z0) ?_ (by kernel_rfl)
 obtain ⟨e,he,hm⟩:=bind_some hm
 refine loop_rule (u:=.c c_Sa_9) (K:=K_Sa_9) (Q:=(Post vf_Sa (res_Sa r))) (b:=lp_Sa_9 p0) (We:=O_Sa_9 (Post vf_Sa (res_Sa r))) (stJ:=fun s=>s_Sa_9 p0 s.1 s.2) (s:=(4294967295,0)) (fun s y hb hin hout=>ok_Sa_9 p0 s.1 s.2 y hb (Post vf_Sa (res_Sa r)) hin hout) he ?_
 show EE c_Sa_44 K_Sa_44 (s_Sa_44 e) _
 exact ok_Sa_44 e r hm
theorem ok_Sa (p0:LI) (r:Int) (hm:m_Sa p0=some r):Runs ext tbl 66 (as_Sa p0) (res_Sa r):=
 runs_of (vf:=vf_Sa) (by kernel_rfl) rfl (st:=(enter vf_Sa (as_Sa p0)).getD default) (by kernel_rfl) (go_on [] 1000 J0 (ok_Sa_0 p0 r hm) (by kernel_rfl))
theorem ok_Se_0 (p0:Int) (p1:LI) (p2 r:Int) (hm:m_Se_0 p0 p1 p2=some r):EE c_Se_0 K_Se_0 (s_Se_0 p0 p1 p2) (Post vf_Se (res_Se r)):=by
 obtain ⟨d,hm⟩|⟨d,hm⟩:=split_ite hm
 ·obtain ⟨l,b,hm⟩:=bind_some hm
  exact ge (u1 d<|wO (.row ((rI .i64) l))<|wP (rd_nn b)<|wP (at_row (rI .i64) (rd_get b))<|z0) (congrArg res_Se (qj hm)) (by kernel_rfl)
 ·obtain ⟨b,hm⟩|⟨b,hm⟩:=split_ite hm
  ·obtain ⟨m,c,hm⟩:=bind_some hm
   obtain ⟨g,a,hm⟩:=bind_some hm
   exact ge (v1 d<|u1 b<|wO (.row ((rI .i64) m))<|wO (.row ((rI .i64) g))<|wP (rd_nn c)<|wP (at_row (rI .i64) (rd_get c))<|wP (rd_nn a)<|wP (at_row (rI .i64) (rd_get a))<|z0) (congrArg res_Se (qj hm)) (by kernel_rfl)
  ·obtain ⟨c,hm⟩|⟨c,hm⟩:=split_ite hm
   ·obtain ⟨g,a,hm⟩:=bind_some hm
    obtain ⟨h,e,hm⟩:=bind_some hm
    obtain ⟨i,f,hm⟩:=bind_some hm
    exact ge (v1 d<|v1 b<|u1 c<|wO (.row ((rI .i64) g))<|wO (.row ((rI .i64) h))<|wO (.row ((rI .i64) i))<|wP (rd_nn a)<|wP (at_row (rI .i64) (rd_get a))<|wP (rd_nn e)<|wP (at_row (rI .i64) (rd_get e))<|wP (rd_nn f)<|wP (at_row (rI .i64) (rd_get f))<|z0) (congrArg res_Se (qj hm)) (by kernel_rfl)
   ·obtain ⟨a,hm⟩|⟨a,hm⟩:=split_ite hm
    ·obtain ⟨h,e,hm⟩:=bind_some hm
     obtain ⟨i,f,hm⟩:=bind_some hm
     obtain ⟨n,j,hm⟩:=bind_some hm
     obtain ⟨o,k,hm⟩:=bind_some hm
     exact ge (v1 d<|v1 b<|v1 c<|u1 a<|wO (.row ((rI .i64) h))<|wO (.row ((rI .i64) i))<|wO (.row ((rI .i64) n))<|wO (.row ((rI .i64) o))<|wP (rd_nn e)<|wP (at_row (rI .i64) (rd_get e))<|wP (rd_nn f)<|wP (at_row (rI .i64) (rd_get f))<|wP (rd_nn j)<|wP (at_row (rI .i64) (rd_get j))<|wP (rd_nn k)<|wP (at_row (rI .i64) (rd_get k))<|z0) (congrArg res_Se (qj hm)) (by kernel_rfl)
    ·exact ge (v1 d<|v1 b<|v1 c<|v1 a<|z0) (congrArg res_Se (qj hm)) (by kernel_rfl)
theorem ok_Se (p0:Int) (p1:LI) (p2 r:Int) (hm:m_Se p0 p1 p2=some r):Runs ext tbl 95 (as_Se p0 p1 p2) (res_Se r):=
 runs_of (vf:=vf_Se) (by kernel_rfl) rfl (st:=(enter vf_Se (as_Se p0 p1 p2)).getD default) (by kernel_rfl) (go_on [] 1000 J0 (ok_Se_0 p0 p1 p2 r hm) (by kernel_rfl))
def O_Sc_40 (Q:VX→St→Prop) (e:((LI))⊕((LI))):Prop:=match e with | .inl e=>EE c_Sc_66 K_Sc_66 (s_Sc_66 e) Q | .inr e=>Q=Post vf_Sc (res_Sc e)
def O_Sc_15 (p0:Int) (p1:LI) (Q:VX→St→Prop) (e:((LI))⊕((Unit))):Prop:=match e with | .inl e=>Q=Post vf_Sc (res_Sc e) | .inr e=>EE c_Sc_33 K_Sc_33 (s_Sc_33 p0 p1) Q
theorem ok_Sc_58 (p0:Int) (p1:LI) (g:Int) (d:LI) (y) (hm:m_Sc_58 p0 p1 g d=some y) (Q)
  (hin:∀ s,y=.inl s→EE c_Sc_40 K_Sc_40 (s_Sc_40 p0 p1 s.1 s.2) Q) (hout:∀ e,y=.inr e→O_Sc_40 Q e):EE c_Sc_58 K_Sc_58 (s_Sc_58 p0 p1 g d) Q:=by
 obtain ⟨c,a,hm⟩:=bind_some hm
 obtain ⟨b,hm⟩|⟨b,hm⟩:=split_ite hm
 ·have hQ:Q=Post vf_Sc (res_Sc ([]:LI)):=hout (.inr ([]:LI)) (qj hm).symm
  subst hQ
  exact ge (wO (.row ((rI .i64) c))<|wP (rd_in rfl a)<|wP (at_row (rI .i64) (rd_get0 a))<|u4 b<|u2 b<|u1 eT<|wO (.rows (mi ([]:LI)))<|wP (all_le0 (rI .i64) ([]:LI) rfl)<|wP (all_t (rI .i64) ([]:LI) rfl)<|z0) (rfl:res_Sc ([]:LI)=res_Sc ([]:LI)) (by kernel_rfl)
 ·obtain ⟨f,hm⟩|⟨f,hm⟩:=split_ite hm
  ·have hQ:Q=Post vf_Sc (res_Sc ([]:LI)):=hout (.inr ([]:LI)) (qj hm).symm
   subst hQ
   exact ge (wO (.row ((rI .i64) c))<|wP (rd_in rfl a)<|wP (at_row (rI .i64) (rd_get0 a))<|v3 b<|wP (rd_in rfl a)<|v1 b<|wO (.row ((rI .i64) c))<|wP (at_row (rI .i64) (rd_get0 a))<|v2 b<|u1 f<|wO (.rows (mi ([]:LI)))<|wP (all_le0 (rI .i64) ([]:LI) rfl)<|wP (all_t (rI .i64) ([]:LI) rfl)<|z0) (rfl:res_Sc ([]:LI)=res_Sc ([]:LI)) (by kernel_rfl)
  ·exact gw (hin _ (qj hm).symm) (wO (.row ((rI .i64) c))<|wP (rd_in rfl a)<|wP (at_row (rI .i64) (rd_get0 a))<|v3 b<|wP (rd_in rfl a)<|v1 b<|wO (.row ((rI .i64) c))<|wP (at_row (rI .i64) (rd_get0 a))<|v2 b<|v1 f<|wN d.length<|z0) (by kernel_rfl)
theorem ok_Sc_66 (a r:LI) (hm:m_Sc_66 a=some r):EE c_Sc_66 K_Sc_66 (s_Sc_66 a) (Post vf_Sc (res_Sc r)):=by
 exact ge (wR (rI .i64) a<|z0) (congrArg res_Sc (qj hm)) (by kernel_rfl)
theorem ok_Sc_40 (p0:Int) (p1:LI) (c:Int) (b:LI) (y) (hm:m_Sc_40 p0 p1 c b=some y) (Q)
  (hin:∀ s,y=.inl s→EE c_Sc_40 K_Sc_40 (s_Sc_40 p0 p1 s.1 s.2) Q) (hout:∀ e,y=.inr e→O_Sc_40 Q e):EE c_Sc_40 K_Sc_40 (s_Sc_40 p0 p1 c b) Q:=by
 obtain ⟨g,hm⟩|⟨g,hm⟩:=split_ite hm
 ·obtain ⟨a,h,hm⟩:=bind_some hm
  obtain ⟨k,d,hm⟩:=bind_some hm
  obtain ⟨i,hm⟩|⟨i,hm⟩:=split_ite hm
  ·obtain ⟨f,j,hm⟩:=bind_some hm
   exact gw (ok_Sc_58 _ _ _ _ y hm Q hin hout) (u1 g<|wO (.row ((rI .i64) a))<|wO (.rows (mi (b.set (0+Int.toNat c) a)))<|wP (rd_nn h)<|wP (at_row (rI .i64) (rd_get h))<|wP (rd_in rfl d)<|wP (put_ob (rI .i64) a 0 (.lit (vI a)) (rd_get0 d) (by kernel_rfl) (by kernel_rfl))<|u1 i<|wO (.row ((rI .i64) a))<|wO (.rows (mi (b.set (0+Int.toNat c) a)))<|wO (.res (res_Se f))<|wO (.rows (mi (b.set (0+Int.toNat c) (w64 (a+f)))))<|wO (zn ((b.set (0+Int.toNat c) (w64 (a+f))).length))<|wP (rd_in rfl d)<|wP (at_row (rI .i64) (set_at a (rd_get0 d)))<|wP (all_le (rI .i64) (b.set (0+Int.toNat c) a) (set_len rfl))<|wP (all_dt (rI .i64) (b.set (0+Int.toNat c) a) (set_len rfl))<|wP (ok_Se p0 (b.set (0+Int.toNat c) a) c f j)<|wP (rd_in rfl d)<|wP (put_ob2 (rI .i64) (w64 (a+f)) 0 (.lit (vI (w64 (a+f)))) (set_at a (rd_get0 d)) (by kernel_rfl) (by kernel_rfl))<|wP (lens b.length ((b.set (0+Int.toNat c) (w64 (a+f))).length) (set_len rfl))<|z0) (by kernel_rfl)
  ·exact gw (ok_Sc_58 _ _ _ _ y hm Q hin hout) (u1 g<|wO (.row ((rI .i64) a))<|wO (.rows (mi (b.set (0+Int.toNat c) a)))<|wP (rd_nn h)<|wP (at_row (rI .i64) (rd_get h))<|wP (rd_in rfl d)<|wP (put_ob (rI .i64) a 0 (.lit (vI a)) (rd_get0 d) (by kernel_rfl) (by kernel_rfl))<|v1 i<|wO (zn ((b.set (0+Int.toNat c) a).length))<|wP (lens b.length ((b.set (0+Int.toNat c) a).length) (set_len rfl))<|z0) (by kernel_rfl)
 ·refine gm c_Sc_66 K_Sc_66 (s_Sc_66 b) (v1 g<|wN b.length<|z0) ?_ (by kernel_rfl)
  exact hout (.inl b) (qj hm).symm
theorem ok_Sc_33 (p0:Int) (p1 r:LI) (hm:m_Sc_33 p0 p1=some r):EE c_Sc_33 K_Sc_33 (s_Sc_33 p0 p1) (Post vf_Sc (res_Sc r)):=by
 obtain ⟨d,a,hm⟩:=bind_some hm
 refine gm c_Sc_40 K_Sc_40 (s_Sc_40 p0 p1 0 (List.replicate (Int.toNat (p1.length:Int)) (0:Int))) (wL (rI .i64) p1<|wO (.rows (mi (List.replicate (Int.toNat (p1.length:Int)) (0:Int))))<|wO (zn (Int.toNat (p1.length:Int)))<|wP (ck_p a)<|wP (rep_ob (rI .i64) (Int.toNat (p1.length:Int)) (0:Int) [.lit (vI 0)] (by kernel_rfl))<|wP (len_map (rI .i64) (show (Int.toNat (p1.length:Int))=(List.replicate (Int.toNat (p1.length:Int)) (0:Int)).length from (rep_len (Int.toNat (p1.length:Int)) (0:Int))))<|wL (rI .i64) p1<|wO (zn ((List.replicate (Int.toNat (p1.length:Int)) (0:Int)).length))<|wP (lens (Int.toNat (p1.length:Int)) ((List.replicate (Int.toNat (p1.length:Int)) (0:Int)).length) (rep_len (Int.toNat (p1.length:Int)) (0:Int)))<|z0) ?_ (by kernel_rfl)
 obtain ⟨e,he,hm⟩:=bind_some hm
 refine loop_rule (u:=.c c_Sc_40) (K:=K_Sc_40) (Q:=(Post vf_Sc (res_Sc r))) (b:=lp_Sc_40 p0 p1) (We:=O_Sc_40 (Post vf_Sc (res_Sc r))) (stJ:=fun s=>s_Sc_40 p0 p1 s.1 s.2) (s:=(0,(List.replicate (Int.toNat (p1.length:Int)) (0:Int)))) (fun s y hb hin hout=>ok_Sc_40 p0 p1 s.1 s.2 y hb (Post vf_Sc (res_Sc r)) hin hout) he ?_
 rcases e with e | e
 ·show EE c_Sc_66 K_Sc_66 (s_Sc_66 e) _
  exact ok_Sc_66 e r hm
 ·exact congrArg (fun r=>Post vf_Sc (res_Sc r)) (qj hm).symm
theorem ok_Sc_15 (p0:Int) (p1:LI) (g:Int) (y) (hm:m_Sc_15 p0 p1 g=some y) (Q)
  (hin:∀ s,y=.inl s→EE c_Sc_15 K_Sc_15 (s_Sc_15 p0 p1 s) Q) (hout:∀ e,y=.inr e→O_Sc_15 p0 p1 Q e):EE c_Sc_15 K_Sc_15 (s_Sc_15 p0 p1 g) Q:=by
 obtain ⟨b,hm⟩|⟨b,hm⟩:=split_ite hm
 ·obtain ⟨d,a,hm⟩:=bind_some hm
  obtain ⟨c,hm⟩|⟨c,hm⟩:=split_ite hm
  ·have hQ:Q=Post vf_Sc (res_Sc ([]:LI)):=hout (.inl ([]:LI)) (qj hm).symm
   subst hQ
   exact ge (u1 b<|wO (.row ((rI .i64) d))<|wP (rd_nn a)<|wP (at_row (rI .i64) (rd_get a))<|u3 c<|u1 eT<|wO (.rows (mi ([]:LI)))<|wP (all_le0 (rI .i64) ([]:LI) rfl)<|wP (all_t (rI .i64) ([]:LI) rfl)<|z0) (rfl:res_Sc ([]:LI)=res_Sc ([]:LI)) (by kernel_rfl)
  ·obtain ⟨f,hm⟩|⟨f,hm⟩:=split_ite hm
   ·have hQ:Q=Post vf_Sc (res_Sc ([]:LI)):=hout (.inl ([]:LI)) (qj hm).symm
    subst hQ
    exact ge (u1 b<|wO (.row ((rI .i64) d))<|wP (rd_nn a)<|wP (at_row (rI .i64) (rd_get a))<|v3 c<|u1 f<|wO (.rows (mi ([]:LI)))<|wP (all_le0 (rI .i64) ([]:LI) rfl)<|wP (all_t (rI .i64) ([]:LI) rfl)<|z0) (rfl:res_Sc ([]:LI)=res_Sc ([]:LI)) (by kernel_rfl)
   ·exact gw (hin _ (qj hm).symm) (u1 b<|wO (.row ((rI .i64) d))<|wP (rd_nn a)<|wP (at_row (rI .i64) (rd_get a))<|v3 c<|v1 f<|z0) (by kernel_rfl)
 ·refine gm c_Sc_33 K_Sc_33 (s_Sc_33 p0 p1) (v1 b<|z0) ?_ (by kernel_rfl)
  exact hout (.inr ()) (qj hm).symm
theorem ok_Sc_0 (p0:Int) (p1 r:LI) (hm:m_Sc_0 p0 p1=some r):EE c_Sc_0 K_Sc_0 (s_Sc_0 p0 p1) (Post vf_Sc (res_Sc r)):=by
 obtain ⟨d,hm⟩|⟨d,hm⟩:=split_ite hm
 ·exact ge (u3 d<|u4 eT<|u1 eT<|wO (.rows (mi ([]:LI)))<|wP (all_le0 (rI .i64) ([]:LI) rfl)<|wP (all_t (rI .i64) ([]:LI) rfl)<|z0) (congrArg res_Sc (qj hm)) (by kernel_rfl)
 ·obtain ⟨a,hm⟩|⟨a,hm⟩:=split_ite hm
  ·exact ge (v3 d<|u4 a<|u1 eT<|wO (.rows (mi ([]:LI)))<|wP (all_le0 (rI .i64) ([]:LI) rfl)<|wP (all_t (rI .i64) ([]:LI) rfl)<|z0) (congrArg res_Sc (qj hm)) (by kernel_rfl)
  ·obtain ⟨f,hm⟩|⟨f,hm⟩:=split_ite hm
   ·exact ge (v3 d<|v2 a<|wL (rI .i64) p1<|v2 a<|u1 f<|wO (.rows (mi ([]:LI)))<|wP (all_le0 (rI .i64) ([]:LI) rfl)<|wP (all_t (rI .i64) ([]:LI) rfl)<|z0) (congrArg res_Sc (qj hm)) (by kernel_rfl)
   ·refine gm c_Sc_15 K_Sc_15 (s_Sc_15 p0 p1 0) (v3 d<|v2 a<|wL (rI .i64) p1<|v2 a<|v1 f<|wL (rI .i64) p1<|z0) ?_ (by kernel_rfl)
    obtain ⟨e,he,hm⟩:=bind_some hm
    refine loop_rule (u:=.c c_Sc_15) (K:=K_Sc_15) (Q:=(Post vf_Sc (res_Sc r))) (b:=lp_Sc_15 p0 p1) (We:=O_Sc_15 p0 p1 (Post vf_Sc (res_Sc r))) (stJ:=fun s=>s_Sc_15 p0 p1 s) (s:=0) (fun s y hb hin hout=>ok_Sc_15 p0 p1 s y hb (Post vf_Sc (res_Sc r)) hin hout) he ?_
    rcases e with e | e
    ·exact congrArg (fun r=>Post vf_Sc (res_Sc r)) (qj hm).symm
    ·show EE c_Sc_33 K_Sc_33 (s_Sc_33 p0 p1) _
     exact ok_Sc_33 p0 p1 r hm
theorem ok_Sc (p0:Int) (p1 r:LI) (hm:m_Sc p0 p1=some r):Runs ext tbl 79 (as_Sc p0 p1) (res_Sc r):=
 runs_of (vf:=vf_Sc) (by kernel_rfl) rfl (st:=(enter vf_Sc (as_Sc p0 p1)).getD default) (by kernel_rfl) (go_on [] 1000 J0 (ok_Sc_0 p0 p1 r hm) (by kernel_rfl))
def O_Sh_7 (p0:LI) (Q:VX→St→Prop) (e:(Bool)⊕((Unit))):Prop:=match e with | .inl e=>Q=Post vf_Sh (res_Sh e) | .inr e=>EE c_Sh_25 K_Sh_25 (s_Sh_25 p0) Q
theorem ok_Sh_25 (p0:LI) (r:Bool) (hm:m_Sh_25 p0=some r):EE c_Sh_25 K_Sh_25 (s_Sh_25 p0) (Post vf_Sh (res_Sh r)):=by
 exact ge (wL (rI .i64) p0<|z0) (congrArg res_Sh (qj hm)) (by kernel_rfl)
theorem ok_Sh_7 (p0:LI) (g:Int) (y) (hm:m_Sh_7 p0 g=some y) (Q)
  (hin:∀ s,y=.inl s→EE c_Sh_7 K_Sh_7 (s_Sh_7 p0 s) Q) (hout:∀ e,y=.inr e→O_Sh_7 p0 Q e):EE c_Sh_7 K_Sh_7 (s_Sh_7 p0 g) Q:=by
 obtain ⟨b,hm⟩|⟨b,hm⟩:=split_ite hm
 ·obtain ⟨d,a,hm⟩:=bind_some hm
  obtain ⟨c,hm⟩|⟨c,hm⟩:=split_ite hm
  ·have hQ:Q=Post vf_Sh (res_Sh false):=hout (.inl false) (qj hm).symm
   subst hQ
   exact ge (u1 b<|wO (.row ((rI .i64) d))<|wP (rd_nn a)<|wP (at_row (rI .i64) (rd_get a))<|u3 c<|u1 eT<|z0) (rfl:res_Sh false=res_Sh false) (by kernel_rfl)
  ·obtain ⟨f,hm⟩|⟨f,hm⟩:=split_ite hm
   ·have hQ:Q=Post vf_Sh (res_Sh false):=hout (.inl false) (qj hm).symm
    subst hQ
    exact ge (u1 b<|wO (.row ((rI .i64) d))<|wP (rd_nn a)<|wP (at_row (rI .i64) (rd_get a))<|v3 c<|u1 f<|z0) (rfl:res_Sh false=res_Sh false) (by kernel_rfl)
   ·exact gw (hin _ (qj hm).symm) (u1 b<|wO (.row ((rI .i64) d))<|wP (rd_nn a)<|wP (at_row (rI .i64) (rd_get a))<|v3 c<|v1 f<|z0) (by kernel_rfl)
 ·refine gm c_Sh_25 K_Sh_25 (s_Sh_25 p0) (v1 b<|z0) ?_ (by kernel_rfl)
  exact hout (.inr ()) (qj hm).symm
theorem ok_Sh_0 (p0:LI) (r:Bool) (hm:m_Sh_0 p0=some r):EE c_Sh_0 K_Sh_0 (s_Sh_0 p0) (Post vf_Sh (res_Sh r)):=by
 refine gm c_Sh_7 K_Sh_7 (s_Sh_7 p0 0) (wL (rI .i64) p0<|z0) ?_ (by kernel_rfl)
 obtain ⟨e,he,hm⟩:=bind_some hm
 refine loop_rule (u:=.c c_Sh_7) (K:=K_Sh_7) (Q:=(Post vf_Sh (res_Sh r))) (b:=lp_Sh_7 p0) (We:=O_Sh_7 p0 (Post vf_Sh (res_Sh r))) (stJ:=fun s=>s_Sh_7 p0 s) (s:=0) (fun s y hb hin hout=>ok_Sh_7 p0 s y hb (Post vf_Sh (res_Sh r)) hin hout) he ?_
 rcases e with e | e
 ·exact congrArg (fun r=>Post vf_Sh (res_Sh r)) (qj hm).symm
 ·show EE c_Sh_25 K_Sh_25 (s_Sh_25 p0) _
  exact ok_Sh_25 p0 r hm
theorem ok_Sh (p0:LI) (r:Bool) (hm:m_Sh p0=some r):Runs ext tbl 96 (as_Sh p0) (res_Sh r):=
 runs_of (vf:=vf_Sh) (by kernel_rfl) rfl (st:=(enter vf_Sh (as_Sh p0)).getD default) (by kernel_rfl) (go_on [] 1000 J0 (ok_Sh_0 p0 r hm) (by kernel_rfl))
def O_Sr_11 (Q:VX→St→Prop) (e:((LI×LI))⊕((LI×LI))):Prop:=match e with | .inl e=>EE c_Sr_47 K_Sr_47 (s_Sr_47 e.1 e.2) Q | .inr e=>Q=Post vf_Sr (res_Sr e)
theorem ok_Sr_39 (p0:Int) (p1 p2:LI) (c:Int) (d f:LI) (y) (hm:m_Sr_39 p0 p1 p2 c d f=some y) (Q)
  (hin:∀ s,y=.inl s→EE c_Sr_11 K_Sr_11 (s_Sr_11 p0 p1 p2 s.1 s.2.1 s.2.2) Q) (hout:∀ e,y=.inr e→O_Sr_11 Q e):EE c_Sr_39 K_Sr_39 (s_Sr_39 p0 p1 p2 c d f) Q:=by
 obtain ⟨i,hm⟩|⟨i,hm⟩:=split_ite hm
 ·obtain ⟨b,j,hm⟩:=bind_some hm
  obtain ⟨a,g,hm⟩:=bind_some hm
  obtain ⟨l,h,hm⟩:=bind_some hm
  obtain ⟨m,k,hm⟩:=bind_some hm
  exact gw (hin _ (qj hm).symm) (u1 i<|wO (.row ((rI .i64) b))<|wO (.row ((rI .i64) a))<|wO (.row ((rI .i64) a))<|wO (.rows (mi (d.set (0+Int.toNat c) (w64 (Int.tdiv (w64 ((w64 ((w64 (2*b))+(andI .i64 a 1)))+a)) 2)))))<|wO (.row ((rI .i64) (w64 (Int.tdiv (w64 ((w64 ((w64 (2*b))+(andI .i64 a 1)))+a)) 2))))<|wO (.row ((rI .i64) a))<|wO (.rows (mi (f.set (0+Int.toNat c) (w64 ((w64 (Int.tdiv (w64 ((w64 ((w64 (2*b))+(andI .i64 a 1)))+a)) 2)) - a)))))<|wO (zn ((d.set (0+Int.toNat c) (w64 (Int.tdiv (w64 ((w64 ((w64 (2*b))+(andI .i64 a 1)))+a)) 2))).length))<|wO (zn ((f.set (0+Int.toNat c) (w64 ((w64 (Int.tdiv (w64 ((w64 ((w64 (2*b))+(andI .i64 a 1)))+a)) 2)) - a))).length))<|wP (rd_nn j)<|wP (at_row (rI .i64) (rd_get j))<|wP (rd_nn g)<|wP (at_row (rI .i64) (rd_get g))<|wP (rd_nn g)<|wP (at_row (rI .i64) (rd_get g))<|wP (by decide:(2:Int)≠0)<|wP (rd_in rfl h)<|wP (put_ob (rI .i64) (w64 (Int.tdiv (w64 ((w64 ((w64 (2*b))+(andI .i64 a 1)))+a)) 2)) 0 (.lit (vI (w64 (Int.tdiv (w64 ((w64 ((w64 (2*b))+(andI .i64 a 1)))+a)) 2)))) (rd_get0 h) (by kernel_rfl) (by kernel_rfl))<|wP (rd_in rfl h)<|wP (at_row (rI .i64) (set_at (w64 (Int.tdiv (w64 ((w64 ((w64 (2*b))+(andI .i64 a 1)))+a)) 2)) (rd_get0 h)))<|wP (rd_nn g)<|wP (at_row (rI .i64) (rd_get g))<|wP (rd_in rfl k)<|wP (put_ob (rI .i64) (w64 ((w64 (Int.tdiv (w64 ((w64 ((w64 (2*b))+(andI .i64 a 1)))+a)) 2)) - a)) 0 (.lit (vI (w64 ((w64 (Int.tdiv (w64 ((w64 ((w64 (2*b))+(andI .i64 a 1)))+a)) 2)) - a)))) (rd_get0 k) (by kernel_rfl) (by kernel_rfl))<|wP (lens d.length ((d.set (0+Int.toNat c) (w64 (Int.tdiv (w64 ((w64 ((w64 (2*b))+(andI .i64 a 1)))+a)) 2))).length) (set_len rfl))<|wP (lens f.length ((f.set (0+Int.toNat c) (w64 ((w64 (Int.tdiv (w64 ((w64 ((w64 (2*b))+(andI .i64 a 1)))+a)) 2)) - a))).length) (set_len rfl))<|z0) (by kernel_rfl)
 ·exact gw (hin _ (qj hm).symm) (v1 i<|wN d.length<|wN f.length<|z0) (by kernel_rfl)
theorem ok_Sr_24 (p0:Int) (p1 p2:LI) (c:Int) (f d:LI) (m:Bool) (y) (hm:m_Sr_24 p0 p1 p2 c f d m=some y) (Q)
  (hin:∀ s,y=.inl s→EE c_Sr_11 K_Sr_11 (s_Sr_11 p0 p1 p2 s.1 s.2.1 s.2.2) Q) (hout:∀ e,y=.inr e→O_Sr_11 Q e):EE c_Sr_24 K_Sr_24 (s_Sr_24 p0 p1 p2 c f d m) Q:=by
 obtain ⟨j,hm⟩|⟨j,hm⟩:=split_ite hm
 ·have hQ:Q=Post vf_Sr (res_Sr (([]:LI),([]:LI))):=hout (.inr (([]:LI),([]:LI))) (qj hm).symm
  subst hQ
  exact ge (u1 j<|wO (.rows (mi ([]:LI)))<|wO (.rows (mi ([]:LI)))<|wP (all_le0 (rI .i64) ([]:LI) rfl)<|wP (all_t (rI .i64) ([]:LI) rfl)<|wP (all_le0 (rI .i64) ([]:LI) rfl)<|wP (all_t (rI .i64) ([]:LI) rfl)<|z0) (rfl:res_Sr (([]:LI),([]:LI))=res_Sr (([]:LI),([]:LI))) (by kernel_rfl)
 ·obtain ⟨a,g,hm⟩:=bind_some hm
  obtain ⟨n,k,hm⟩:=bind_some hm
  obtain ⟨b,h,hm⟩:=bind_some hm
  obtain ⟨o,i,hm⟩:=bind_some hm
  obtain ⟨l,hm⟩|⟨l,hm⟩:=split_ite hm
  ·exact gw (ok_Sr_39 _ _ _ _ _ _ y hm Q hin hout) (v1 j<|wO (.row ((rI .i64) a))<|wO (.rows (mi (f.set (0+Int.toNat c) a)))<|wO (.row ((rI .i64) b))<|wO (.rows (mi (d.set (0+Int.toNat c) b)))<|wO zT<|wO (.row ((rI .i64) a))<|wO (.row ((rI .i64) b))<|wO (.rows (mi (d.set (0+Int.toNat c) (w64 (a - b)))))<|wO (zn ((f.set (0+Int.toNat c) a).length))<|wO (zn ((d.set (0+Int.toNat c) (w64 (a - b))).length))<|wP (rd_nn g)<|wP (at_row (rI .i64) (rd_get g))<|wP (rd_in rfl k)<|wP (put_ob (rI .i64) a 0 (.lit (vI a)) (rd_get0 k) (by kernel_rfl) (by kernel_rfl))<|wP (rd_nn h)<|wP (at_row (rI .i64) (rd_get h))<|wP (rd_in rfl i)<|wP (put_ob (rI .i64) b 0 (.lit (vI b)) (rd_get0 i) (by kernel_rfl) (by kernel_rfl))<|wP l<|wP (rd_nn g)<|wP (at_row (rI .i64) (rd_get g))<|wP (rd_nn h)<|wP (at_row (rI .i64) (rd_get h))<|wP (rd_in rfl i)<|wP (put_ob2 (rI .i64) (w64 (a - b)) 0 (.lit (vI (w64 (a - b)))) (set_at b (rd_get0 i)) (by kernel_rfl) (by kernel_rfl))<|wP (lens f.length ((f.set (0+Int.toNat c) a).length) (set_len rfl))<|wP (lens d.length ((d.set (0+Int.toNat c) (w64 (a - b))).length) (set_len rfl))<|z0) (by kernel_rfl)
  ·exact gw (ok_Sr_39 _ _ _ _ _ _ y hm Q hin hout) (v1 j<|wO (.row ((rI .i64) a))<|wO (.rows (mi (f.set (0+Int.toNat c) a)))<|wO (.row ((rI .i64) b))<|wO (.rows (mi (d.set (0+Int.toNat c) b)))<|wO zF<|wO (zn ((f.set (0+Int.toNat c) a).length))<|wO (zn ((d.set (0+Int.toNat c) b).length))<|wP (rd_nn g)<|wP (at_row (rI .i64) (rd_get g))<|wP (rd_in rfl k)<|wP (put_ob (rI .i64) a 0 (.lit (vI a)) (rd_get0 k) (by kernel_rfl) (by kernel_rfl))<|wP (rd_nn h)<|wP (at_row (rI .i64) (rd_get h))<|wP (rd_in rfl i)<|wP (put_ob (rI .i64) b 0 (.lit (vI b)) (rd_get0 i) (by kernel_rfl) (by kernel_rfl))<|wP l<|wP (lens f.length ((f.set (0+Int.toNat c) a).length) (set_len rfl))<|wP (lens d.length ((d.set (0+Int.toNat c) b).length) (set_len rfl))<|z0) (by kernel_rfl)
theorem ok_Sr_50 (a b:LI) (d:Bool) (r:LI×LI) (hm:m_Sr_50 a b d=some r):EE c_Sr_50 K_Sr_50 (s_Sr_50 a b d) (Post vf_Sr (res_Sr r)):=by
 obtain ⟨c,hm⟩|⟨c,hm⟩:=split_ite hm
 ·exact ge (u1 c<|wO (.rows (mi ([]:LI)))<|wO (.rows (mi ([]:LI)))<|wP (all_le0 (rI .i64) ([]:LI) rfl)<|wP (all_t (rI .i64) ([]:LI) rfl)<|wP (all_le0 (rI .i64) ([]:LI) rfl)<|wP (all_t (rI .i64) ([]:LI) rfl)<|z0) (congrArg res_Sr (qj hm)) (by kernel_rfl)
 ·exact ge (v1 c<|wR (rI .i64) a<|wR (rI .i64) b<|z0) (congrArg res_Sr (qj hm)) (by kernel_rfl)
theorem ok_Sr_47 (a b:LI) (r:LI×LI) (hm:m_Sr_47 a b=some r):EE c_Sr_47 K_Sr_47 (s_Sr_47 a b) (Post vf_Sr (res_Sr r)):=by
 obtain ⟨c,e,hm⟩:=bind_some hm
 obtain ⟨d,hm⟩|⟨d,hm⟩:=split_ite hm
 ·obtain ⟨f,g,hm⟩:=bind_some hm
  exact gw (ok_Sr_50 _ _ _ r hm) (wO (zi a)<|wO (.res (res_Sh c))<|wP (all_le (rI .i64) a rfl)<|wP (all_dt (rI .i64) a rfl)<|wP (ok_Sh a c e)<|v2 (not_f d)<|wO (zi b)<|wO (.res (res_Sh f))<|wP (all_le (rI .i64) b rfl)<|wP (all_dt (rI .i64) b rfl)<|wP (ok_Sh b f g)<|v2 (not_f d)<|wN a.length<|wN b.length<|z0) (by kernel_rfl)
 ·exact gw (ok_Sr_50 _ _ _ r hm) (wO (zi a)<|wO (.res (res_Sh c))<|wP (all_le (rI .i64) a rfl)<|wP (all_dt (rI .i64) a rfl)<|wP (ok_Sh a c e)<|u4 (not_t d)<|wN a.length<|wN b.length<|z0) (by kernel_rfl)
theorem ok_Sr_11 (p0:Int) (p1 p2:LI) (l:Int) (b c:LI) (y) (hm:m_Sr_11 p0 p1 p2 l b c=some y) (Q)
  (hin:∀ s,y=.inl s→EE c_Sr_11 K_Sr_11 (s_Sr_11 p0 p1 p2 s.1 s.2.1 s.2.2) Q) (hout:∀ e,y=.inr e→O_Sr_11 Q e):EE c_Sr_11 K_Sr_11 (s_Sr_11 p0 p1 p2 l b c) Q:=by
 obtain ⟨h,hm⟩|⟨h,hm⟩:=split_ite hm
 ·obtain ⟨f,a,hm⟩:=bind_some hm
  obtain ⟨d,hm⟩|⟨d,hm⟩:=split_ite hm
  ·exact gw (ok_Sr_24 _ _ _ _ _ _ _ y hm Q hin hout) (u1 h<|wO (.row ((rI .i64) f))<|wP (rd_nn a)<|wP (at_row (rI .i64) (rd_get a))<|u4 d<|u2 d<|u4 eT<|u4 eT<|u4 eT<|wN b.length<|wN c.length<|z0) (by kernel_rfl)
  ·obtain ⟨g,hm⟩|⟨g,hm⟩:=split_ite hm
   ·exact gw (ok_Sr_24 _ _ _ _ _ _ _ y hm Q hin hout) (u1 h<|wO (.row ((rI .i64) f))<|wP (rd_nn a)<|wP (at_row (rI .i64) (rd_get a))<|v3 d<|wO (.row ((rI .i64) f))<|wP (rd_nn a)<|wP (at_row (rI .i64) (rd_get a))<|v3 d<|u4 g<|u2 g<|u4 eT<|u2 eT<|wN b.length<|wN c.length<|z0) (by kernel_rfl)
   ·obtain ⟨k,i,hm⟩:=bind_some hm
    obtain ⟨j,hm⟩|⟨j,hm⟩:=split_ite hm
    ·exact gw (ok_Sr_24 _ _ _ _ _ _ _ y hm Q hin hout) (u1 h<|wO (.row ((rI .i64) f))<|wP (rd_nn a)<|wP (at_row (rI .i64) (rd_get a))<|v3 d<|wO (.row ((rI .i64) f))<|wP (rd_nn a)<|wP (at_row (rI .i64) (rd_get a))<|v3 d<|v3 g<|wO (.row ((rI .i64) k))<|wP (rd_nn i)<|wP (at_row (rI .i64) (rd_get i))<|v3 g<|u4 j<|u2 j<|wN b.length<|wN c.length<|z0) (by kernel_rfl)
    ·exact gw (ok_Sr_24 _ _ _ _ _ _ _ y hm Q hin hout) (u1 h<|wO (.row ((rI .i64) f))<|wP (rd_nn a)<|wP (at_row (rI .i64) (rd_get a))<|v3 d<|wO (.row ((rI .i64) f))<|wP (rd_nn a)<|wP (at_row (rI .i64) (rd_get a))<|v3 d<|v3 g<|wO (.row ((rI .i64) k))<|wP (rd_nn i)<|wP (at_row (rI .i64) (rd_get i))<|v3 g<|v3 j<|wO (.row ((rI .i64) k))<|wP (rd_nn i)<|wP (at_row (rI .i64) (rd_get i))<|v3 j<|wN b.length<|wN c.length<|z0) (by kernel_rfl)
 ·refine gm c_Sr_47 K_Sr_47 (s_Sr_47 b c) (v1 h<|wN b.length<|wN c.length<|z0) ?_ (by kernel_rfl)
  exact hout (.inl (b,c)) (qj hm).symm
theorem ok_Sr_0 (p0:Int) (p1 p2:LI) (r:LI×LI) (hm:m_Sr_0 p0 p1 p2=some r):EE c_Sr_0 K_Sr_0 (s_Sr_0 p0 p1 p2) (Post vf_Sr (res_Sr r)):=by
 obtain ⟨d,a,hm⟩:=bind_some hm
 refine gm c_Sr_11 K_Sr_11 (s_Sr_11 p0 p1 p2 0 (List.replicate (Int.toNat (p1.length:Int)) (0:Int)) (List.replicate (Int.toNat (p1.length:Int)) (0:Int))) (wL (rI .i64) p1<|wO (.rows (mi (List.replicate (Int.toNat (p1.length:Int)) (0:Int))))<|wO (zn (Int.toNat (p1.length:Int)))<|wP (ck_p a)<|wP (rep_ob (rI .i64) (Int.toNat (p1.length:Int)) (0:Int) [.lit (vI 0)] (by kernel_rfl))<|wP (len_map (rI .i64) (show (Int.toNat (p1.length:Int))=(List.replicate (Int.toNat (p1.length:Int)) (0:Int)).length from (rep_len (Int.toNat (p1.length:Int)) (0:Int))))<|wL (rI .i64) p1<|wO (.rows (mi (List.replicate (Int.toNat (p1.length:Int)) (0:Int))))<|wO (zn (Int.toNat (p1.length:Int)))<|wP (ck_p a)<|wP (rep_ob (rI .i64) (Int.toNat (p1.length:Int)) (0:Int) [.lit (vI 0)] (by kernel_rfl))<|wP (len_map (rI .i64) (show (Int.toNat (p1.length:Int))=(List.replicate (Int.toNat (p1.length:Int)) (0:Int)).length from (rep_len (Int.toNat (p1.length:Int)) (0:Int))))<|wL (rI .i64) p1<|wO (zn ((List.replicate (Int.toNat (p1.length:Int)) (0:Int)).length))<|wO (zn ((List.replicate (Int.toNat (p1.length:Int)) (0:Int)).length))<|wP (lens (Int.toNat (p1.length:Int)) ((List.replicate (Int.toNat (p1.length:Int)) (0:Int)).length) (rep_len (Int.toNat (p1.length:Int)) (0:Int)))<|wP (lens (Int.toNat (p1.length:Int)) ((List.replicate (Int.toNat (p1.length:Int)) (0:Int)).length) (rep_len (Int.toNat (p1.length:Int)) (0:Int)))<|z0) ?_ (by kernel_rfl)
 obtain ⟨e,he,hm⟩:=bind_some hm
 refine loop_rule (u:=.c c_Sr_11) (K:=K_Sr_11) (Q:=(Post vf_Sr (res_Sr r))) (b:=lp_Sr_11 p0 p1 p2) (We:=O_Sr_11 (Post vf_Sr (res_Sr r))) (stJ:=fun s=>s_Sr_11 p0 p1 p2 s.1 s.2.1 s.2.2) (s:=(0,(List.replicate (Int.toNat (p1.length:Int)) (0:Int)),(List.replicate (Int.toNat (p1.length:Int)) (0:Int)))) (fun s y hb hin hout=>ok_Sr_11 p0 p1 p2 s.1 s.2.1 s.2.2 y hb (Post vf_Sr (res_Sr r)) hin hout) he ?_
 rcases e with e | e
 ·show EE c_Sr_47 K_Sr_47 (s_Sr_47 e.1 e.2) _
  exact ok_Sr_47 e.1 e.2 r hm
 ·exact congrArg (fun r=>Post vf_Sr (res_Sr r)) (qj hm).symm
theorem ok_Sr (p0:Int) (p1 p2:LI) (r:LI×LI) (hm:m_Sr p0 p1 p2=some r):Runs ext tbl 80 (as_Sr p0 p1 p2) (res_Sr r):=
 runs_of (vf:=vf_Sr) (by kernel_rfl) rfl (st:=(enter vf_Sr (as_Sr p0 p1 p2)).getD default) (by kernel_rfl) (go_on [] 1000 J0 (ok_Sr_0 p0 p1 p2 r hm) (by kernel_rfl))
def O_Sg_9 (Q:VX→St→Prop) (e:(Bool)⊕((Unit))):Prop:=match e with | .inl e=>Q=Post vf_Sg (res_Sg e) | .inr e=>EE c_Sg_27 K_Sg_27 (s_Sg_27) Q
theorem ok_Sg_27 (r:Bool) (hm:m_Sg_27=some r):EE c_Sg_27 K_Sg_27 (s_Sg_27) (Post vf_Sg (res_Sg r)):=by
 exact ge (z0) (congrArg res_Sg (qj hm)) (by kernel_rfl)
theorem ok_Sg_9 (p1:LI) (g h:Int) (y) (hm:m_Sg_9 p1 g h=some y) (Q)
  (hin:∀ s,y=.inl s→EE c_Sg_9 K_Sg_9 (s_Sg_9 p1 s.1 s.2) Q) (hout:∀ e,y=.inr e→O_Sg_9 Q e):EE c_Sg_9 K_Sg_9 (s_Sg_9 p1 g h) Q:=by
 obtain ⟨b,hm⟩|⟨b,hm⟩:=split_ite hm
 ·obtain ⟨d,a,hm⟩:=bind_some hm
  obtain ⟨c,hm⟩|⟨c,hm⟩:=split_ite hm
  ·have hQ:Q=Post vf_Sg (res_Sg false):=hout (.inl false) (qj hm).symm
   subst hQ
   exact ge (u1 b<|wO (.row ((rI .i64) d))<|wP (rd_nn a)<|wP (at_row (rI .i64) (rd_get a))<|u4 c<|u1 eT<|z0) (rfl:res_Sg false=res_Sg false) (by kernel_rfl)
  ·obtain ⟨f,hm⟩|⟨f,hm⟩:=split_ite hm
   ·have hQ:Q=Post vf_Sg (res_Sg false):=hout (.inl false) (qj hm).symm
    subst hQ
    exact ge (u1 b<|wO (.row ((rI .i64) d))<|wP (rd_nn a)<|wP (at_row (rI .i64) (rd_get a))<|v4 c<|u1 f<|z0) (rfl:res_Sg false=res_Sg false) (by kernel_rfl)
   ·exact gw (hin _ (qj hm).symm) (u1 b<|wO (.row ((rI .i64) d))<|wP (rd_nn a)<|wP (at_row (rI .i64) (rd_get a))<|v4 c<|v1 f<|z0) (by kernel_rfl)
 ·refine gm c_Sg_27 K_Sg_27 (s_Sg_27) (v1 b<|z0) ?_ (by kernel_rfl)
  exact hout (.inr ()) (qj hm).symm
theorem ok_Sg_0 (p0:Int) (p1:LI) (r:Bool) (hm:m_Sg_0 p0 p1=some r):EE c_Sg_0 K_Sg_0 (s_Sg_0 p0 p1) (Post vf_Sg (res_Sg r)):=by
 obtain ⟨d,a,hm⟩:=bind_some hm
 refine gm c_Sg_9 K_Sg_9 (s_Sg_9 p1 (shlI .i64 1 (wr .u64 (w64 (p0 - 1)))) 0) (wP (ck_p a)<|wL (rI .i64) p1<|z0) ?_ (by kernel_rfl)
 obtain ⟨e,he,hm⟩:=bind_some hm
 refine loop_rule (u:=.c c_Sg_9) (K:=K_Sg_9) (Q:=(Post vf_Sg (res_Sg r))) (b:=lp_Sg_9 p1) (We:=O_Sg_9 (Post vf_Sg (res_Sg r))) (stJ:=fun s=>s_Sg_9 p1 s.1 s.2) (s:=((shlI .i64 1 (wr .u64 (w64 (p0 - 1)))),0)) (fun s y hb hin hout=>ok_Sg_9 p1 s.1 s.2 y hb (Post vf_Sg (res_Sg r)) hin hout) he ?_
 rcases e with e | e
 ·exact congrArg (fun r=>Post vf_Sg (res_Sg r)) (qj hm).symm
 ·show EE c_Sg_27 K_Sg_27 (s_Sg_27) _
  exact ok_Sg_27 r hm
theorem ok_Sg (p0:Int) (p1:LI) (r:Bool) (hm:m_Sg p0 p1=some r):Runs ext tbl 60 (as_Sg p0 p1) (res_Sg r):=
 runs_of (vf:=vf_Sg) (by kernel_rfl) rfl (st:=(enter vf_Sg (as_Sg p0 p1)).getD default) (by kernel_rfl) (go_on [] 1000 J0 (ok_Sg_0 p0 p1 r hm) (by kernel_rfl))
def O_Sl_103 (p1:Za) (a:(List LI)) (Q:VX→St→Prop) (e:(LI×Int×Int)):Prop:=EE c_Sl_119 K_Sl_119 (s_Sl_119 p1 a e.1 e.2.1 e.2.2) Q
def O_Sl_68 (p1:Za) (p2 p3:Int) (a:Int×Zc) (b:LI) (c d:Int) (Q:VX→St→Prop) (e:(((List LI)×Zc×Za))⊕(((List LI)))):Prop:=match e with | .inl e=>Q=Post vf_Sl (res_Sl e) | .inr e=>EE c_Sl_90 K_Sl_90 (s_Sl_90 p1 p2 p3 a b c d e) Q
def O_Sl_21 (p1:Za) (p2 p3 a:Int) (b:Int×Zc) (Q:VX→St→Prop) (e:(LI×Int×Int×LI×(List LI))):Prop:=EE c_Sl_35 K_Sl_35 (s_Sl_35 p1 p2 p3 a b e.1 e.2.1 e.2.2.1 e.2.2.2.1 e.2.2.2.2) Q
theorem ok_Sl_115 (p1:Za) (p3:Int) (a:(List LI)) (g:Int) (b:LI) (c d:Int) (h:Bool) (y) (hm:m_Sl_115 p1 p3 a g b c d h=some y) (Q)
  (hin:∀ s,y=.inl s→EE c_Sl_103 K_Sl_103 (s_Sl_103 p1 p3 a s.1 s.2.1 s.2.2.1 s.2.2.2) Q) (hout:∀ e,y=.inr e→O_Sl_103 p1 a Q e):EE c_Sl_115 K_Sl_115 (s_Sl_115 p1 p3 a g b c d h) Q:=by
 obtain ⟨f,hm⟩|⟨f,hm⟩:=split_ite hm
 ·obtain ⟨i,j,hm⟩:=bind_some hm
  exact gw (hin _ (qj hm).symm) (u1 f<|wO (.res (res_Sj i))<|wP (ok_Sj (Zc.mk b c d) 5 i j)<|wK p1.channels.length a.length a.length<|wN p1.channels.length<|z0) (by kernel_rfl)
 ·exact gw (hin _ (qj hm).symm) (v1 f<|wK p1.channels.length a.length a.length<|wN p1.channels.length<|z0) (by kernel_rfl)
theorem ok_Sl_119 (p1:Za) (a:(List LI)) (b:LI) (c d:Int) (r:(List LI)×Zc×Za) (hm:m_Sl_119 p1 a b c d=some r):EE c_Sl_119 K_Sl_119 (s_Sl_119 p1 a b c d) (Post vf_Sl (res_Sl r)):=by
 exact ge (wO (.rows (List.map (rL (rI .i64)) a))<|wP (all_le0 (rL (rI .i64)) a rfl)<|wP (all_t (rL (rI .i64)) a rfl)<|z0) (congrArg res_Sl (qj hm)) (by kernel_rfl)
theorem ok_Sl_103 (p1:Za) (p3:Int) (a:(List LI)) (j:Int) (f:LI) (g h:Int) (y) (hm:m_Sl_103 p1 p3 a j f g h=some y) (Q)
  (hin:∀ s,y=.inl s→EE c_Sl_103 K_Sl_103 (s_Sl_103 p1 p3 a s.1 s.2.1 s.2.2.1 s.2.2.2) Q) (hout:∀ e,y=.inr e→O_Sl_103 p1 a Q e):EE c_Sl_103 K_Sl_103 (s_Sl_103 p1 p3 a j f g h) Q:=by
 obtain ⟨i,hm⟩|⟨i,hm⟩:=split_ite hm
 ·obtain ⟨b,c,hm⟩:=bind_some hm
  obtain ⟨d,hm⟩|⟨d,hm⟩:=split_ite hm
  ·exact gw (ok_Sl_115 _ _ _ _ _ _ _ _ y hm Q hin hout) (u1 i<|wO (.row ((rL (rI .i64)) b))<|wP (rd_in rfl c)<|wP (at_row (rL (rI .i64)) (rd_get0 c))<|wL (rI .i64) b<|u4 d<|u2 d<|wK p1.channels.length a.length a.length<|wN p1.channels.length<|z0) (by kernel_rfl)
  ·obtain ⟨k,l,hm⟩:=bind_some hm
   exact gw (ok_Sl_115 _ _ _ _ _ _ _ _ y hm Q hin hout) (u1 i<|wO (.row ((rL (rI .i64)) b))<|wP (rd_in rfl c)<|wP (at_row (rL (rI .i64)) (rd_get0 c))<|wL (rI .i64) b<|v4 d<|wO (.row ((rL (rI .i64)) b))<|wO (zi b)<|wO (.res (res_Sg k))<|wP (at_row (rL (rI .i64)) (rd_get0 c))<|wP (all_le (rI .i64) b rfl)<|wP (all_dt (rI .i64) b rfl)<|wP (ok_Sg p1.bits b k l)<|v2 d<|wK p1.channels.length a.length a.length<|wN p1.channels.length<|z0) (by kernel_rfl)
 ·refine gm c_Sl_119 K_Sl_119 (s_Sl_119 p1 a f g h) (v1 i<|wN p1.channels.length<|wN a.length<|z0) ?_ (by kernel_rfl)
  exact hout (f,g,h) (qj hm).symm
theorem ok_Sl_98 (p1:Za) (p3:Int) (d:LI) (f g:Int) (a:(List LI)) (r:(List LI)×Zc×Za) (hm:m_Sl_98 p1 p3 d f g a=some r):EE c_Sl_98 K_Sl_98 (s_Sl_98 p1 p3 d f g a) (Post vf_Sl (res_Sl r)):=by
 refine gm c_Sl_103 K_Sl_103 (s_Sl_103 p1 p3 a 0 d f g) (wK p1.channels.length a.length a.length<|wN p1.channels.length<|z0) ?_ (by kernel_rfl)
 obtain ⟨e,he,hm⟩:=bind_some hm
 refine loop_rule (u:=.c c_Sl_103) (K:=K_Sl_103) (Q:=(Post vf_Sl (res_Sl r))) (b:=lp_Sl_103 p1 p3 a) (We:=O_Sl_103 p1 a (Post vf_Sl (res_Sl r))) (stJ:=fun s=>s_Sl_103 p1 p3 a s.1 s.2.1 s.2.2.1 s.2.2.2) (s:=(0,d,f,g)) (fun s y hb hin hout=>ok_Sl_103 p1 p3 a s.1 s.2.1 s.2.2.1 s.2.2.2 y hb (Post vf_Sl (res_Sl r)) hin hout) he ?_
 show EE c_Sl_119 K_Sl_119 (s_Sl_119 p1 a e.1 e.2.1 e.2.2) _
 exact ok_Sl_119 p1 a e.1 e.2.1 e.2.2 r hm
theorem ok_Sl_90 (p1:Za) (p2 p3:Int) (d:Int×Zc) (i:LI) (j k:Int) (e:(List LI)) (r:(List LI)×Zc×Za) (hm:m_Sl_90 p1 p2 p3 d i j k e=some r):EE c_Sl_90 K_Sl_90 (s_Sl_90 p1 p2 p3 d i j k e) (Post vf_Sl (res_Sl r)):=by
 obtain ⟨f,hm⟩|⟨f,hm⟩:=split_ite hm
 ·obtain ⟨b,g,hm⟩:=bind_some hm
  obtain ⟨c,h,hm⟩:=bind_some hm
  obtain ⟨a,l,hm⟩:=bind_some hm
  exact gw (ok_Sl_98 _ _ _ _ _ _ r hm) (u1 f<|wO (.row ((rL (rI .i64)) b))<|wP (rd_in rfl g)<|wP (at_row (rL (rI .i64)) (rd_get0 g))<|wL (rI .i64) b<|wO (.row ((rL (rI .i64)) c))<|wP (rd_in rfl h)<|wP (at_row (rL (rI .i64)) (rd_get0 h))<|wL (rI .i64) c<|wO (.row ((rL (rI .i64)) b))<|wO (zi b)<|wO (.row ((rL (rI .i64)) c))<|wO (zi c)<|wO (.res (res_Sr a))<|wO (zn a.1.length)<|wO (zn a.2.length)<|wO (zi a.2)<|wO (zi a.1)<|wO (.rows (List.map (rL (rI .i64)) ([a.1,a.2]:List LI)))<|wO (zn 2)<|wO (zn p1.channels.length)<|wO (zn (([a.1,a.2]:List LI).length))<|wO (zn p1.channels.length)<|wP (at_row (rL (rI .i64)) (rd_get0 g))<|wP (all_le (rI .i64) b rfl)<|wP (all_dt (rI .i64) b rfl)<|wP (at_row (rL (rI .i64)) (rd_get0 h))<|wP (all_le (rI .i64) c rfl)<|wP (all_dt (rI .i64) c rfl)<|wP (ok_Sr d.1 b c a l)<|wP (lm (rI .i64) a.1)<|wP (lm (rI .i64) a.2)<|wA (rI .i64) a.2<|wA (rI .i64) a.1<|wP (Eq.refl (List.map (rL (rI .i64)) ([a.1,a.2]:List LI)))<|wP (len_map (rL (rI .i64)) (show 2=([a.1,a.2]:List LI).length from rfl))<|wP (ln p1.channels.length)<|wP (lens 2 (([a.1,a.2]:List LI).length) rfl)<|wP (ln p1.channels.length)<|z0) (by kernel_rfl)
 ·exact gw (ok_Sl_98 _ _ _ _ _ _ r hm) (v1 f<|wK p1.channels.length e.length p1.channels.length<|z0) (by kernel_rfl)
theorem ok_Sl_68 (p1:Za) (p2 p3:Int) (k:Int×Zc) (p:(List LI)) (f:LI) (g h:Int) (l:LI) (i:Int) (d:(List LI)) (y) (hm:m_Sl_68 p1 p2 p3 k p f g h l i d=some y) (Q)
  (hin:∀ s,y=.inl s→EE c_Sl_68 K_Sl_68 (s_Sl_68 p1 p2 p3 k p f g h l s.1 s.2) Q) (hout:∀ e,y=.inr e→O_Sl_68 p1 p2 p3 k f g h Q e):EE c_Sl_68 K_Sl_68 (s_Sl_68 p1 p2 p3 k p f g h l i d) Q:=by
 obtain ⟨m,hm⟩|⟨m,hm⟩:=split_ite hm
 ·obtain ⟨n,o,hm⟩:=bind_some hm
  obtain ⟨b,c,hm⟩:=bind_some hm
  obtain ⟨a,r,hm⟩:=bind_some hm
  obtain ⟨q,hm⟩|⟨q,hm⟩:=split_ite hm
  ·obtain ⟨j,t,hm⟩:=bind_some hm
   have hQ:Q=Post vf_Sl (res_Sl (([]:List LI),j,p1)):=hout (.inl (([]:List LI),j,p1)) (qj hm).symm
   subst hQ
   exact ge (u1 m<|wO (.row ((rI .i64) n))<|wO (.row ((rL (rI .i64)) b))<|wP (rd_in rfl o)<|wP (at_row (rI .i64) (rd_get0 o))<|wP (rd_in rfl c)<|wP (at_row (rL (rI .i64)) (rd_get0 c))<|wL (rI .i64) b<|wO (.row ((rL (rI .i64)) b))<|wO (zi b)<|wO (.res (res_Sc a))<|wP (at_row (rL (rI .i64)) (rd_get0 c))<|wP (all_le (rI .i64) b rfl)<|wP (all_dt (rI .i64) b rfl)<|wP (ok_Sc n b a r)<|wL (rI .i64) a<|wP (rd_in rfl c)<|wR (rI .i64) a<|wO (.rows (List.map (rL (rI .i64)) (d.set (0+Int.toNat i) a)))<|wO (.row ((rL (rI .i64)) a))<|wP (put_ob (rL (rI .i64)) a 0 (.sl (a.map (rI .i64))) (rd_get0 c) (by kernel_rfl) (by kernel_rfl))<|wP (rd_in rfl c)<|wP (at_row (rL (rI .i64)) (set_at a (rd_get0 c)))<|wL (rI .i64) a<|u1 q<|wO (.res (res_Sj j))<|wO (.rows (List.map (rL (rI .i64)) ([]:List LI)))<|wP (ok_Sj (Zc.mk f g h) 5 j t)<|wP (all_le0 (rL (rI .i64)) ([]:List LI) rfl)<|wP (all_t (rL (rI .i64)) ([]:List LI) rfl)<|z0) (rfl:res_Sl (([]:List LI),j,p1)=res_Sl (([]:List LI),j,p1)) (by kernel_rfl)
  ·exact gw (hin _ (qj hm).symm) (u1 m<|wO (.row ((rI .i64) n))<|wO (.row ((rL (rI .i64)) b))<|wP (rd_in rfl o)<|wP (at_row (rI .i64) (rd_get0 o))<|wP (rd_in rfl c)<|wP (at_row (rL (rI .i64)) (rd_get0 c))<|wL (rI .i64) b<|wO (.row ((rL (rI .i64)) b))<|wO (zi b)<|wO (.res (res_Sc a))<|wP (at_row (rL (rI .i64)) (rd_get0 c))<|wP (all_le (rI .i64) b rfl)<|wP (all_dt (rI .i64) b rfl)<|wP (ok_Sc n b a r)<|wL (rI .i64) a<|wP (rd_in rfl c)<|wR (rI .i64) a<|wO (.rows (List.map (rL (rI .i64)) (d.set (0+Int.toNat i) a)))<|wO (.row ((rL (rI .i64)) a))<|wP (put_ob (rL (rI .i64)) a 0 (.sl (a.map (rI .i64))) (rd_get0 c) (by kernel_rfl) (by kernel_rfl))<|wP (rd_in rfl c)<|wP (at_row (rL (rI .i64)) (set_at a (rd_get0 c)))<|wL (rI .i64) a<|v1 q<|wN p1.channels.length<|wN l.length<|wO (zn ((d.set (0+Int.toNat i) a).length))<|wP (lens d.length ((d.set (0+Int.toNat i) a).length) (set_len rfl))<|wN p1.channels.length<|z0) (by kernel_rfl)
 ·refine gm c_Sl_90 K_Sl_90 (s_Sl_90 p1 p2 p3 k f g h d) (v1 m<|wK p1.channels.length d.length p1.channels.length<|z0) ?_ (by kernel_rfl)
  exact hout (.inr d) (qj hm).symm
theorem ok_Sl_55 (p1:Za) (p2 p3:Int) (a:Int×Zc) (i:LI) (d:(List LI)) (f:LI) (g h:Int) (r:(List LI)×Zc×Za) (hm:m_Sl_55 p1 p2 p3 a i d f g h=some r):EE c_Sl_55 K_Sl_55 (s_Sl_55 p1 p2 p3 a i d f g h) (Post vf_Sl (res_Sl r)):=by
 obtain ⟨j,hm⟩|⟨j,hm⟩:=split_ite hm
 ·exact ge (u1 j<|wO (.rows (List.map (rL (rI .i64)) ([]:List LI)))<|wP (all_le0 (rL (rI .i64)) ([]:List LI) rfl)<|wP (all_t (rL (rI .i64)) ([]:List LI) rfl)<|z0) (congrArg res_Sl (qj hm)) (by kernel_rfl)
 ·refine gm c_Sl_68 K_Sl_68 (s_Sl_68 p1 p2 p3 a d f g h i 0 d) (v1 j<|wK p1.channels.length i.length d.length<|wN p1.channels.length<|z0) ?_ (by kernel_rfl)
  obtain ⟨e,he,hm⟩:=bind_some hm
  refine loop_rule (u:=.c c_Sl_68) (K:=K_Sl_68) (Q:=(Post vf_Sl (res_Sl r))) (b:=lp_Sl_68 p1 p2 p3 a d f g h i) (We:=O_Sl_68 p1 p2 p3 a f g h (Post vf_Sl (res_Sl r))) (stJ:=fun s=>s_Sl_68 p1 p2 p3 a d f g h i s.1 s.2) (s:=(0,d)) (fun s y hb hin hout=>ok_Sl_68 p1 p2 p3 a d f g h i s.1 s.2 y hb (Post vf_Sl (res_Sl r)) hin hout) he ?_
  rcases e with e | e
  ·exact congrArg (fun r=>Post vf_Sl (res_Sl r)) (qj hm).symm
  ·show EE c_Sl_90 K_Sl_90 (s_Sl_90 p1 p2 p3 a f g h e) _
   exact ok_Sl_90 p1 p2 p3 a f g h e r hm
theorem ok_Sl_52 (p1:Za) (p2 p3:Int) (e:Int×Zc) (c:Int×Zc) (a:LI) (b:(List LI)) (f:Bool) (r:(List LI)×Zc×Za) (hm:m_Sl_52 p1 p2 p3 e c a b f=some r):EE c_Sl_52 K_Sl_52 (s_Sl_52 p1 p2 p3 e c a b f) (Post vf_Sl (res_Sl r)):=by
 obtain ⟨d,hm⟩|⟨d,hm⟩:=split_ite hm
 ·obtain ⟨g,h,hm⟩:=bind_some hm
  exact gw (ok_Sl_55 _ _ _ _ _ _ _ _ _ r hm) (u1 d<|wO (.res (res_Sj g))<|wP (ok_Sj c.2 3 g h)<|wK p1.channels.length a.length b.length<|wN p1.channels.length<|z0) (by kernel_rfl)
 ·exact gw (ok_Sl_55 _ _ _ _ _ _ _ _ _ r hm) (v1 d<|wK p1.channels.length a.length b.length<|wN p1.channels.length<|z0) (by kernel_rfl)
theorem ok_Sl_35 (p1:Za) (p2 p3 c:Int) (m:Int×Zc) (f:LI) (g h:Int) (d:LI) (e:(List LI)) (r:(List LI)×Zc×Za) (hm:m_Sl_35 p1 p2 p3 c m f g h d e=some r):EE c_Sl_35 K_Sl_35 (s_Sl_35 p1 p2 p3 c m f g h d e) (Post vf_Sl (res_Sl r)):=by
 obtain ⟨a,l,hm⟩:=bind_some hm
 obtain ⟨i,hm⟩|⟨i,hm⟩:=split_ite hm
 ·exact ge (wO (.res (res_Sk a))<|wP (ok_Sk (Zc.mk f g h) a l)<|u1 i<|wO (.rows (List.map (rL (rI .i64)) ([]:List LI)))<|wP (all_le0 (rL (rI .i64)) ([]:List LI) rfl)<|wP (all_t (rL (rI .i64)) ([]:List LI) rfl)<|z0) (congrArg res_Sl (qj hm)) (by kernel_rfl)
 ·obtain ⟨s,n,hm⟩:=bind_some hm
  obtain ⟨t,o,hm⟩:=bind_some hm
  obtain ⟨j,p,hm⟩:=bind_some hm
  obtain ⟨k,q,hm⟩:=bind_some hm
  obtain ⟨b,hm⟩|⟨b,hm⟩:=split_ite hm
  ·exact gw (ok_Sl_52 _ _ _ _ _ _ _ _ r hm) (wO (.res (res_Sk a))<|wP (ok_Sk (Zc.mk f g h) a l)<|v1 i<|wO (.rows (List.map (rI .u8) ((a.data.take (Int.toNat (w64 (Int.tdiv a.at_ 8)))).drop (Int.toNat c))))<|wO (.res (res_Sa j))<|wO (.res (res_Sq k))<|wO zT<|wO zT<|wO zT<|wO zT<|wO zT<|wO (zn p1.channels.length)<|wO (zn d.length)<|wO (zn e.length)<|wO (zn p1.channels.length)<|wP (by decide:(8:Int)≠0)<|wP (slc_hi (rI .u8) a.data (ck_p n))<|wP (ck_p o)<|wP (slc_tell (rI .u8) a.data (Int.toNat c) (Int.toNat (w64 (Int.tdiv a.at_ 8))))<|wP (ok_Sa ((a.data.take (Int.toNat (w64 (Int.tdiv a.at_ 8)))).drop (Int.toNat c)) j p)<|wP (ok_Sq a 16 k q)<|wP b<|wP b<|wP b<|wP b<|wP b<|wP (ln p1.channels.length)<|wP (ln d.length)<|wP (ln e.length)<|wP (ln p1.channels.length)<|z0) (by kernel_rfl)
  ·exact gw (ok_Sl_52 _ _ _ _ _ _ _ _ r hm) (wO (.res (res_Sk a))<|wP (ok_Sk (Zc.mk f g h) a l)<|v1 i<|wO (.rows (List.map (rI .u8) ((a.data.take (Int.toNat (w64 (Int.tdiv a.at_ 8)))).drop (Int.toNat c))))<|wO (.res (res_Sa j))<|wO (.res (res_Sq k))<|wO zF<|wO zF<|wO zF<|wO zF<|wO zF<|wO (zn p1.channels.length)<|wO (zn d.length)<|wO (zn e.length)<|wO (zn p1.channels.length)<|wP (by decide:(8:Int)≠0)<|wP (slc_hi (rI .u8) a.data (ck_p n))<|wP (ck_p o)<|wP (slc_tell (rI .u8) a.data (Int.toNat c) (Int.toNat (w64 (Int.tdiv a.at_ 8))))<|wP (ok_Sa ((a.data.take (Int.toNat (w64 (Int.tdiv a.at_ 8)))).drop (Int.toNat c)) j p)<|wP (ok_Sq a 16 k q)<|wP b<|wP b<|wP b<|wP b<|wP b<|wP (ln p1.channels.length)<|wP (ln d.length)<|wP (ln e.length)<|wP (ln p1.channels.length)<|z0) (by kernel_rfl)
theorem ok_Sl_21 (p1:Za) (p2 p3 i:Int) (j:Int×Zc) (l:Int) (d:LI) (f g:Int) (b:LI) (c:(List LI)) (y) (hm:m_Sl_21 p1 p2 p3 i j l d f g b c=some y) (Q)
  (hin:∀ s,y=.inl s→EE c_Sl_21 K_Sl_21 (s_Sl_21 p1 p2 p3 i j s.1 s.2.1 s.2.2.1 s.2.2.2.1 s.2.2.2.2.1 s.2.2.2.2.2) Q) (hout:∀ e,y=.inr e→O_Sl_21 p1 p2 p3 i j Q e):EE c_Sl_21 K_Sl_21 (s_Sl_21 p1 p2 p3 i j l d f g b c) Q:=by
 obtain ⟨h,hm⟩|⟨h,hm⟩:=split_ite hm
 ·obtain ⟨k,hm⟩|⟨k,hm⟩:=split_ite hm
  ·obtain ⟨a,m,hm⟩:=bind_some hm
   obtain ⟨p,n,hm⟩:=bind_some hm
   obtain ⟨q,o,hm⟩:=bind_some hm
   exact gw (hin _ (qj hm).symm) (u4 h<|u2 h<|u1 k<|wO (.res (res_Sm a))<|wP (ok_Sm (Zc.mk d f g) p3 a m)<|wL (rI .i64) a.2.1<|wO (.rows (mi ([a.1]:LI)))<|wO (zn 1)<|wO (.rows (mi (b++([a.1]:LI))))<|wO (zn ((b++([a.1]:LI)).length))<|wO (zi a.2.1)<|wO (.rows (List.map (rL (rI .i64)) ([a.2.1]:List LI)))<|wO (zn 1)<|wO (.rows (List.map (rL (rI .i64)) (c++([a.2.1]:List LI))))<|wO (zn ((c++([a.2.1]:List LI)).length))<|wO (zn p1.channels.length)<|wO (zn ((b++([a.1]:LI)).length))<|wO (zn ((c++([a.2.1]:List LI)).length))<|wO (zn p1.channels.length)<|wP (Eq.refl (mi ([a.1]:LI)))<|wP (len_map (rI .i64) (show 1=([a.1]:LI).length from rfl))<|wP (all_le (rI .i64) ([a.1]:LI) rfl)<|wP (app_ck (rI .i64) b ([a.1]:LI) rfl rfl n)<|wP (app_tell (rI .i64) b ([a.1]:LI) rfl rfl)<|wP (len_map (rI .i64) (show (b++([a.1]:LI)).length=(b++([a.1]:LI)).length from rfl))<|wA (rI .i64) a.2.1<|wP (Eq.refl (List.map (rL (rI .i64)) ([a.2.1]:List LI)))<|wP (len_map (rL (rI .i64)) (show 1=([a.2.1]:List LI).length from rfl))<|wP (all_eq (rL (rI .i64)) ([a.2.1]:List LI) rfl)<|wP (all_le (rL (rI .i64)) ([a.2.1]:List LI) rfl)<|wP (app_ck_ro (rL (rI .i64)) c ([a.2.1]:List LI) rfl o)<|wP (app_tell_ro (rL (rI .i64)) c ([a.2.1]:List LI) rfl)<|wP (len_map (rL (rI .i64)) (show (c++([a.2.1]:List LI)).length=(c++([a.2.1]:List LI)).length from rfl))<|wP (ln p1.channels.length)<|wP (lens ((b++([a.1]:LI)).length) ((b++([a.1]:LI)).length) rfl)<|wP (lens ((c++([a.2.1]:List LI)).length) ((c++([a.2.1]:List LI)).length) rfl)<|wP (ln p1.channels.length)<|z0) (by kernel_rfl)
  ·refine gm c_Sl_35 K_Sl_35 (s_Sl_35 p1 p2 p3 i j d f g b c) (u4 h<|u2 h<|v1 k<|wK p1.channels.length b.length c.length<|wN p1.channels.length<|z0) ?_ (by kernel_rfl)
   exact hout (d,f,g,b,c) (qj hm).symm
 ·refine gm c_Sl_35 K_Sl_35 (s_Sl_35 p1 p2 p3 i j d f g b c) (v4 h<|v2 h<|v1 eF<|wK p1.channels.length b.length c.length<|wN p1.channels.length<|z0) ?_ (by kernel_rfl)
  exact hout (d,f,g,b,c) (qj hm).symm
theorem ok_Sl_12 (p1:Za) (p2 p3 a:Int) (d:Int×Zc) (f:LI) (g h:Int) (r:(List LI)×Zc×Za) (hm:m_Sl_12 p1 p2 p3 a d f g h=some r):EE c_Sl_12 K_Sl_12 (s_Sl_12 p1 p2 p3 a d f g h) (Post vf_Sl (res_Sl r)):=by
 refine gm c_Sl_21 K_Sl_21 (s_Sl_21 p1 p2 p3 a d 0 f g h ([]:LI) ([]:List LI)) (wN p1.channels.length<|wO (zn (([]:LI).length))<|wO (zn (([]:List LI).length))<|wP (lens 0 (([]:LI).length) rfl)<|wP (lens 0 (([]:List LI).length) rfl)<|wN p1.channels.length<|z0) ?_ (by kernel_rfl)
 obtain ⟨e,he,hm⟩:=bind_some hm
 refine loop_rule (u:=.c c_Sl_21) (K:=K_Sl_21) (Q:=(Post vf_Sl (res_Sl r))) (b:=lp_Sl_21 p1 p2 p3 a d) (We:=O_Sl_21 p1 p2 p3 a d (Post vf_Sl (res_Sl r))) (stJ:=fun s=>s_Sl_21 p1 p2 p3 a d s.1 s.2.1 s.2.2.1 s.2.2.2.1 s.2.2.2.2.1 s.2.2.2.2.2) (s:=(0,f,g,h,([]:LI),([]:List LI))) (fun s y hb hin hout=>ok_Sl_21 p1 p2 p3 a d s.1 s.2.1 s.2.2.1 s.2.2.2.1 s.2.2.2.2.1 s.2.2.2.2.2 y hb (Post vf_Sl (res_Sl r)) hin hout) he ?_
 show EE c_Sl_35 K_Sl_35 (s_Sl_35 p1 p2 p3 a d e.1 e.2.1 e.2.2.1 e.2.2.2.1 e.2.2.2.2) _
 exact ok_Sl_35 p1 p2 p3 a d e.1 e.2.1 e.2.2.1 e.2.2.2.1 e.2.2.2.2 r hm
theorem ok_Sl_9 (p1:Za) (p2 p3:Int) (a:Int×Zc) (c:Int) (d:Bool) (r:(List LI)×Zc×Za) (hm:m_Sl_9 p1 p2 p3 a c d=some r):EE c_Sl_9 K_Sl_9 (s_Sl_9 p1 p2 p3 a c d) (Post vf_Sl (res_Sl r)):=by
 obtain ⟨b,hm⟩|⟨b,hm⟩:=split_ite hm
 ·obtain ⟨e,f,hm⟩:=bind_some hm
  exact gw (ok_Sl_12 _ _ _ _ _ _ _ _ r hm) (u1 b<|wO (.res (res_Sj e))<|wP (ok_Sj a.2 5 e f)<|wN p1.channels.length<|wN p1.channels.length<|z0) (by kernel_rfl)
 ·exact gw (ok_Sl_12 _ _ _ _ _ _ _ _ r hm) (v1 b<|wN p1.channels.length<|wN p1.channels.length<|z0) (by kernel_rfl)
theorem ok_Sl_0 (p1:Za) (p2 p3:Int) (p0:Zc) (r:(List LI)×Zc×Za) (hm:m_Sl_0 p1 p2 p3 p0=some r):EE c_Sl_0 K_Sl_0 (s_Sl_0 p1 p2 p3 p0) (Post vf_Sl (res_Sl r)):=by
 obtain ⟨c,e,hm⟩:=bind_some hm
 obtain ⟨a,hm⟩|⟨a,hm⟩:=split_ite hm
 ·obtain ⟨b,hm⟩|⟨b,hm⟩:=split_ite hm
  ·exact gw (ok_Sl_9 _ _ _ _ _ _ r hm) (wO (.res (res_Sq c))<|wP (by decide:(8:Int)≠0)<|wP (ok_Sq p0 2 c e)<|u3 a<|u4 b<|u1 a<|u1 b<|u1 a<|wN p1.channels.length<|wN p1.channels.length<|z0) (by kernel_rfl)
  ·obtain ⟨d,hm⟩|⟨d,hm⟩:=split_ite hm
   ·exact gw (ok_Sl_9 _ _ _ _ _ _ r hm) (wO (.res (res_Sq c))<|wP (by decide:(8:Int)≠0)<|wP (ok_Sq p0 2 c e)<|u3 a<|v3 b<|u2 d<|v1 b<|u1 d<|u1 a<|v1 b<|u1 a<|wN p1.channels.length<|wN p1.channels.length<|z0) (by kernel_rfl)
   ·exact gw (ok_Sl_9 _ _ _ _ _ _ r hm) (wO (.res (res_Sq c))<|wP (by decide:(8:Int)≠0)<|wP (ok_Sq p0 2 c e)<|u3 a<|v3 b<|v2 d<|v1 b<|v1 d<|u1 a<|v1 b<|u1 a<|wN p1.channels.length<|wN p1.channels.length<|z0) (by kernel_rfl)
 ·exact gw (ok_Sl_9 _ _ _ _ _ _ r hm) (wO (.res (res_Sq c))<|wP (by decide:(8:Int)≠0)<|wP (ok_Sq p0 2 c e)<|v4 a<|v1 a<|wN p1.channels.length<|wN p1.channels.length<|z0) (by kernel_rfl)
theorem ok_Sl (p0:Zc) (p1:Za) (p2 p3:Int) (r:(List LI)×Zc×Za) (hm:m_Sl p0 p1 p2 p3=some r):Runs ext tbl 44 (as_Sl p0 p1 p2 p3) (res_Sl r):=
 runs_of (vf:=vf_Sl) (by kernel_rfl) rfl (st:=(enter vf_Sl (as_Sl p0 p1 p2 p3)).getD default) (by kernel_rfl) (go_on [zn p1.channels.length] 1000 (J (len_map (rL (rI .i64)) (rfl:p1.channels.length=p1.channels.length)) J0) (ok_Sl_0 p1 p2 p3 p0 r hm) (by kernel_rfl))
def O_Sb_67 (p0:LI) (a:Int) (b:Int×Zc) (c:Int) (d:(List LI)×Zc×Za) (f:Int×Zc) (g:Int×Zc) (h:Int×Zc) (Q:VX→St→Prop) (e:((List LI))):Prop:=EE c_Sb_79 K_Sb_79 (s_Sb_79 p0 a b c d f g h e) Q
def O_Sb_47 (p0:LI) (a:Int×Zc) (b:Int×Zc) (c:Int×Zc) (Q:VX→St→Prop) (e:(LI×Int×Int×(List LI))):Prop:=EE c_Sb_80 K_Sb_80 (s_Sb_80 p0 a b c e.1 e.2.1 e.2.2.1 e.2.2.2) Q
theorem ok_Sb_79 (p0:LI) (d:Int) (f:Int×Zc) (h:Int) (i:(List LI)×Zc×Za) (a:Int×Zc) (b:Int×Zc) (c:Int×Zc) (g:(List LI)) (y) (hm:m_Sb_79 p0 d f h i a b c g=some y) (Q)
  (hin:∀ s,y=.inl s→EE c_Sb_47 K_Sb_47 (s_Sb_47 p0 d f a b c s.1 s.2.1 s.2.2.1 s.2.2.2.1 s.2.2.2.2) Q) (hout:∀ e,y=.inr e→O_Sb_47 p0 a b c Q e):EE c_Sb_79 K_Sb_79 (s_Sb_79 p0 d f h i a b c g) Q:=by
 exact gw (hin _ (qj hm).symm) (wO (zn (([]:List LI).length))<|wP (lens (([]:List LI).length) (([]:List LI).length) rfl)<|wN g.length<|z0) (by kernel_rfl)
theorem ok_Sb_67 (p0:LI) (g:Int) (h:Int×Zc) (i:Int) (d:(List LI)×Zc×Za) (j:Int×Zc) (k:Int×Zc) (l:Int×Zc) (f:Int) (c:(List LI)) (y) (hm:m_Sb_67 p0 g h i d j k l f c=some y) (Q)
  (hin:∀ s,y=.inl s→EE c_Sb_67 K_Sb_67 (s_Sb_67 p0 g h i d j k l s.1 s.2) Q) (hout:∀ e,y=.inr e→O_Sb_67 p0 g h i d j k l Q e):EE c_Sb_67 K_Sb_67 (s_Sb_67 p0 g h i d j k l f c) Q:=by
 obtain ⟨n,hm⟩|⟨n,hm⟩:=split_ite hm
 ·obtain ⟨a,o,hm⟩:=bind_some hm
  obtain ⟨b,m,hm⟩:=bind_some hm
  obtain ⟨q,p,hm⟩:=bind_some hm
  exact gw (hin _ (qj hm).symm) (u1 n<|wO (.row ((rL (rI .i64)) a))<|wP (rd_in rfl o)<|wP (at_row (rL (rI .i64)) (rd_get0 o))<|wL (rI .i64) a<|wO (.row ((rL (rI .i64)) b))<|wP (rd_in rfl m)<|wP (at_row (rL (rI .i64)) (rd_get0 m))<|wL (rI .i64) b<|wO (.row ((rL (rI .i64)) b))<|wO (.row ((rL (rI .i64)) a))<|wO (.rows (mi (b++a)))<|wO (zn ((b++a).length))<|wO (.rows (mi (b++a)))<|wO (.rows (List.map (rL (rI .i64)) (c.set (0+Int.toNat f) (b++a))))<|wO (zn d.1.length)<|wO (zn (([]:List LI).length))<|wO (zn ((c.set (0+Int.toNat f) (b++a)).length))<|wP (at_row (rL (rI .i64)) (rd_get0 m))<|wP (at_row (rL (rI .i64)) (rd_get0 o))<|wP (all_le (rI .i64) a rfl)<|wP (app_ck (rI .i64) b a rfl rfl p)<|wP (app_tell (rI .i64) b a rfl rfl)<|wP (len_map (rI .i64) (show (b++a).length=(b++a).length from rfl))<|wP (rd_in rfl m)<|wP (all_le0 (rI .i64) (b++a) rfl)<|wP (all_t (rI .i64) (b++a) rfl)<|wP (put_hole (rL (rI .i64)) (b++a) 0 0 (.sl ((b++a).map (rI .i64))) (rd_get0 m) (by kernel_rfl) (by kernel_rfl))<|wP (noPt_of (rL (rI .i64)) (c.set (0+Int.toNat f) (b++a)) 0 (fun x=>⟨_,rfl⟩))<|wP (ln d.1.length)<|wP (lens (([]:List LI).length) (([]:List LI).length) rfl)<|wP (lens c.length ((c.set (0+Int.toNat f) (b++a)).length) (set_len rfl))<|z0) (by kernel_rfl)
 ·refine gm c_Sb_79 K_Sb_79 (s_Sb_79 p0 g h i d j k l c) (v1 n<|wO (zn (([]:List LI).length))<|wP (lens (([]:List LI).length) (([]:List LI).length) rfl)<|wN c.length<|z0) ?_ (by kernel_rfl)
  exact hout c (qj hm).symm
theorem ok_Sb_63 (p0:LI) (h:Int) (i:Int×Zc) (j:Int) (l:LI) (m n:Int) (d:Int×Zc) (f:Int×Zc) (g:Int×Zc) (k:(List LI)) (o:Int) (y) (hm:m_Sb_63 p0 h i j l m n d f g k o=some y) (Q)
  (hin:∀ s,y=.inl s→EE c_Sb_47 K_Sb_47 (s_Sb_47 p0 h i d f g s.1 s.2.1 s.2.2.1 s.2.2.2.1 s.2.2.2.2) Q) (hout:∀ e,y=.inr e→O_Sb_47 p0 d f g Q e):EE c_Sb_63 K_Sb_63 (s_Sb_63 p0 h i j l m n d f g k o) Q:=by
 obtain ⟨a,q,hm⟩:=bind_some hm
 obtain ⟨r,p,hm⟩:=bind_some hm
 refine gm c_Sb_67 K_Sb_67 (s_Sb_67 p0 h i j a d f g 0 a.2.2.channels) (wO (.rows (List.map (rL (rI .i64)) k))<|wO (.res (res_Sl a))<|wO (zn a.1.length)<|wO (zn a.1.length)<|wO (zn (([]:List LI).length))<|wO (zn a.2.2.channels.length)<|wP (all_le0 (rL (rI .i64)) k rfl)<|wP (all_t (rL (rI .i64)) k rfl)<|wP (all_eq (rL (rI .i64)) k rfl)<|wP (ok_Sl (Zc.mk l m n) (Za.mk d.1 f.1 g.1 k) h o a q)<|wP (len2 (rL (rI .i64)) a.2.2.channels k (ck_p p))<|wP (len_map (rL (rI .i64)) (show a.1.length=a.1.length from rfl))<|wP (ln a.1.length)<|wP (lens (([]:List LI).length) (([]:List LI).length) rfl)<|wP (lens k.length a.2.2.channels.length (Eq.trans rfl (Eq.symm (ck_p p))))<|z0) ?_ (by kernel_rfl)
 obtain ⟨e,he,hm⟩:=bind_some hm
 refine loop_rule (u:=.c c_Sb_67) (K:=K_Sb_67) (Q:=Q) (b:=lp_Sb_67 p0 h i j a d f g) (We:=O_Sb_67 p0 h i j a d f g Q) (stJ:=fun s=>s_Sb_67 p0 h i j a d f g s.1 s.2) (s:=(0,a.2.2.channels)) (fun s y hb hin hout=>ok_Sb_67 p0 h i j a d f g s.1 s.2 y hb Q hin hout) he ?_
 show EE c_Sb_79 K_Sb_79 (s_Sb_79 p0 h i j a d f g e) _
 exact ok_Sb_79 p0 h i j a d f g e y hm Q hin hout
theorem ok_Sb_86 (c:Int×Zc) (d:Int×Zc) (e:Int×Zc) (a:(List LI)) (f:LI) (g h:Int) (r:Zb) (hm:m_Sb_86 c d e a f g h=some r):EE c_Sb_86 K_Sb_86 (s_Sb_86 c d e a f g h) (Post vf_Sb (res_Sb r)):=by
 obtain ⟨b,hm⟩|⟨b,hm⟩:=split_ite hm
 ·exact ge (u1 b<|wO (.rows (List.map (rL (rI .i64)) ([]:List LI)))<|wP (all_le0 (rL (rI .i64)) ([]:List LI) rfl)<|wP (all_t (rL (rI .i64)) ([]:List LI) rfl)<|z0) (congrArg res_Sb (qj hm)) (by kernel_rfl)
 ·exact ge (v1 b<|wO (.rows (List.map (rL (rI .i64)) a))<|wP (all_le0 (rL (rI .i64)) a rfl)<|wP (all_t (rL (rI .i64)) a rfl)<|z0) (congrArg res_Sb (qj hm)) (by kernel_rfl)
theorem ok_Sb_83 (b:LI) (c d:Int) (f:Int×Zc) (g:Int×Zc) (h:Int×Zc) (a:(List LI)) (i:Bool) (r:Zb) (hm:m_Sb_83 b c d f g h a i=some r):EE c_Sb_83 K_Sb_83 (s_Sb_83 b c d f g h a i) (Post vf_Sb (res_Sb r)):=by
 obtain ⟨e,hm⟩|⟨e,hm⟩:=split_ite hm
 ·obtain ⟨j,k,hm⟩:=bind_some hm
  exact gw (ok_Sb_86 _ _ _ _ _ _ _ r hm) (u1 e<|wO (.res (res_Sj j))<|wO (zn (([]:List LI).length))<|wP (ok_Sj (Zc.mk b c d) 8 j k)<|wP (lens (([]:List LI).length) (([]:List LI).length) rfl)<|wN a.length<|z0) (by kernel_rfl)
 ·exact gw (ok_Sb_86 _ _ _ _ _ _ _ r hm) (v1 e<|wO (zn (([]:List LI).length))<|wP (lens (([]:List LI).length) (([]:List LI).length) rfl)<|wN a.length<|z0) (by kernel_rfl)
theorem ok_Sb_80 (p0:LI) (c:Int×Zc) (d:Int×Zc) (e:Int×Zc) (f:LI) (g h:Int) (b:(List LI)) (r:Zb) (hm:m_Sb_80 p0 c d e f g h b=some r):EE c_Sb_80 K_Sb_80 (s_Sb_80 p0 c d e f g h b) (Post vf_Sb (res_Sb r)):=by
 obtain ⟨a,hm⟩|⟨a,hm⟩:=split_ite hm
 ·exact gw (ok_Sb_83 _ _ _ _ _ _ _ _ r hm) (u4 a<|u2 a<|wL (rI .u8) p0<|u3 a<|wO (zn (([]:List LI).length))<|wP (lens (([]:List LI).length) (([]:List LI).length) rfl)<|wN b.length<|z0) (by kernel_rfl)
 ·exact gw (ok_Sb_83 _ _ _ _ _ _ _ _ r hm) (v4 a<|v4 a<|v1 a<|wO (zn (([]:List LI).length))<|wP (lens (([]:List LI).length) (([]:List LI).length) rfl)<|wN b.length<|z0) (by kernel_rfl)
theorem ok_Sb_47 (p0:LI) (k:Int) (l:Int×Zc) (c:Int×Zc) (d:Int×Zc) (f:Int×Zc) (n:Int) (g:LI) (h i:Int) (a:(List LI)) (y) (hm:m_Sb_47 p0 k l c d f n g h i a=some y) (Q)
  (hin:∀ s,y=.inl s→EE c_Sb_47 K_Sb_47 (s_Sb_47 p0 k l c d f s.1 s.2.1 s.2.2.1 s.2.2.2.1 s.2.2.2.2) Q) (hout:∀ e,y=.inr e→O_Sb_47 p0 c d f Q e):EE c_Sb_47 K_Sb_47 (s_Sb_47 p0 k l c d f n g h i a) Q:=by
 obtain ⟨b,hm⟩|⟨b,hm⟩:=split_ite hm
 ·obtain ⟨j,hm⟩|⟨j,hm⟩:=split_ite hm
  ·obtain ⟨m,hm⟩|⟨m,hm⟩:=split_ite hm
   ·exact gw (ok_Sb_63 _ _ _ _ _ _ _ _ _ _ _ _ y hm Q hin hout) (u4 b<|u2 b<|u1 j<|u1 m<|wO (zn (([]:List LI).length))<|wP (lens (([]:List LI).length) (([]:List LI).length) rfl)<|wN a.length<|z0) (by kernel_rfl)
   ·exact gw (ok_Sb_63 _ _ _ _ _ _ _ _ _ _ _ _ y hm Q hin hout) (u4 b<|u2 b<|u1 j<|v1 m<|wO (zn (([]:List LI).length))<|wP (lens (([]:List LI).length) (([]:List LI).length) rfl)<|wN a.length<|z0) (by kernel_rfl)
  ·refine gm c_Sb_80 K_Sb_80 (s_Sb_80 p0 c d f g h i a) (u4 b<|u2 b<|v1 j<|wO (zn (([]:List LI).length))<|wP (lens (([]:List LI).length) (([]:List LI).length) rfl)<|wN a.length<|z0) ?_ (by kernel_rfl)
   exact hout (g,h,i,a) (qj hm).symm
 ·refine gm c_Sb_80 K_Sb_80 (s_Sb_80 p0 c d f g h i a) (v4 b<|v2 b<|v1 eF<|wO (zn (([]:List LI).length))<|wP (lens (([]:List LI).length) (([]:List LI).length) rfl)<|wN a.length<|z0) ?_ (by kernel_rfl)
  exact hout (g,h,i,a) (qj hm).symm
theorem ok_Sb_32 (p0:LI) (a:Int) (h:Int×Zc) (d:Int×Zc) (f:Int×Zc) (g:Int×Zc) (i:LI) (j k:Int) (r:Zb) (hm:m_Sb_32 p0 a h d f g i j k=some r):EE c_Sb_32 K_Sb_32 (s_Sb_32 p0 a h d f g i j k) (Post vf_Sb (res_Sb r)):=by
 obtain ⟨l,hm⟩|⟨l,hm⟩:=split_ite hm
 ·exact ge (u1 l<|wO (.rows (List.map (rL (rI .i64)) ([]:List LI)))<|wP (all_le0 (rL (rI .i64)) ([]:List LI) rfl)<|wP (all_t (rL (rI .i64)) ([]:List LI) rfl)<|z0) (congrArg res_Sb (qj hm)) (by kernel_rfl)
 ·obtain ⟨n,m,hm⟩:=bind_some hm
  refine gm c_Sb_47 K_Sb_47 (s_Sb_47 p0 a h d f g 0 i j k (List.replicate (Int.toNat a) ([]:LI))) (v1 l<|wO (.rows (List.map (rL (rI .i64)) (List.replicate (Int.toNat a) ([]:LI))))<|wO (zn (Int.toNat a))<|wO (zn (([]:List LI).length))<|wO (zn ((List.replicate (Int.toNat a) ([]:LI)).length))<|wP (ck_p m)<|wP (rep_ob (rL (rI .i64)) (Int.toNat a) ([]:LI) [.sl []] (by kernel_rfl))<|wP (len_map (rL (rI .i64)) (show (Int.toNat a)=(List.replicate (Int.toNat a) ([]:LI)).length from (rep_len (Int.toNat a) ([]:LI))))<|wP (lens (([]:List LI).length) (([]:List LI).length) rfl)<|wP (lens (Int.toNat a) ((List.replicate (Int.toNat a) ([]:LI)).length) (rep_len (Int.toNat a) ([]:LI)))<|z0) ?_ (by kernel_rfl)
  obtain ⟨e,he,hm⟩:=bind_some hm
  refine loop_rule (u:=.c c_Sb_47) (K:=K_Sb_47) (Q:=(Post vf_Sb (res_Sb r))) (b:=lp_Sb_47 p0 a h d f g) (We:=O_Sb_47 p0 d f g (Post vf_Sb (res_Sb r))) (stJ:=fun s=>s_Sb_47 p0 a h d f g s.1 s.2.1 s.2.2.1 s.2.2.2.1 s.2.2.2.2) (s:=(0,i,j,k,(List.replicate (Int.toNat a) ([]:LI)))) (fun s y hb hin hout=>ok_Sb_47 p0 a h d f g s.1 s.2.1 s.2.2.1 s.2.2.2.1 s.2.2.2.2 y hb (Post vf_Sb (res_Sb r)) hin hout) he ?_
  show EE c_Sb_80 K_Sb_80 (s_Sb_80 p0 d f g e.1 e.2.1 e.2.2.1 e.2.2.2) _
  exact ok_Sb_80 p0 d f g e.1 e.2.1 e.2.2.1 e.2.2.2 r hm
theorem ok_Sb_29 (p0:LI) (a:Int×Zc) (c:Int×Zc) (d:Int×Zc) (e:Int×Zc) (f:Int) (g:Bool) (r:Zb) (hm:m_Sb_29 p0 a c d e f g=some r):EE c_Sb_29 K_Sb_29 (s_Sb_29 p0 a c d e f g) (Post vf_Sb (res_Sb r)):=by
 obtain ⟨b,hm⟩|⟨b,hm⟩:=split_ite hm
 ·obtain ⟨h,i,hm⟩:=bind_some hm
  exact gw (ok_Sb_32 _ _ _ _ _ _ _ _ _ r hm) (u1 b<|wO (.res (res_Sj h))<|wO (zn (([]:List LI).length))<|wO (zn (([]:List LI).length))<|wP (ok_Sj a.2 5 h i)<|wP (lens (([]:List LI).length) (([]:List LI).length) rfl)<|wP (lens (([]:List LI).length) (([]:List LI).length) rfl)<|z0) (by kernel_rfl)
 ·exact gw (ok_Sb_32 _ _ _ _ _ _ _ _ _ r hm) (v1 b<|wO (zn (([]:List LI).length))<|wO (zn (([]:List LI).length))<|wP (lens (([]:List LI).length) (([]:List LI).length) rfl)<|wP (lens (([]:List LI).length) (([]:List LI).length) rfl)<|z0) (by kernel_rfl)
theorem ok_Sb_0 (p0:LI) (r:Zb) (hm:m_Sb_0 p0=some r):EE c_Sb_0 K_Sb_0 (s_Sb_0 p0) (Post vf_Sb (res_Sb r)):=by
 obtain ⟨h,hm⟩|⟨h,hm⟩:=split_ite hm
 ·exact ge (wL (rI .u8) p0<|u1 h<|wO (.rows (List.map (rL (rI .i64)) ([]:List LI)))<|wP (all_le0 (rL (rI .i64)) ([]:List LI) rfl)<|wP (all_t (rL (rI .i64)) ([]:List LI) rfl)<|z0) (congrArg res_Sb (qj hm)) (by kernel_rfl)
 ·obtain ⟨f,i,hm⟩:=bind_some hm
  obtain ⟨b,j,hm⟩:=bind_some hm
  obtain ⟨c,k,hm⟩:=bind_some hm
  obtain ⟨d,l,hm⟩:=bind_some hm
  obtain ⟨e,m,hm⟩:=bind_some hm
  obtain ⟨g,n,hm⟩:=bind_some hm
  obtain ⟨a,hm⟩|⟨a,hm⟩:=split_ite hm
  ·obtain ⟨o,p,hm⟩:=bind_some hm
   exact gw (ok_Sb_29 _ _ _ _ _ _ _ r hm) (wL (rI .u8) p0<|v1 h<|wO (.rows (List.map (rI .u8) ([83,78,68,49]:LI)))<|wO (zn 4)<|wO (.rows (List.map (rI .u8) ([83,78,68,49]:LI)))<|wO (.res (res_Sn f))<|wO (.res (res_Sq b))<|wO (.res (res_Sq c))<|wO (.res (res_Sq d))<|wO (.res (res_Sq e))<|wO (.res (res_Sq g))<|wO zT<|wO zT<|wO zT<|wO zT<|wO (.rows (List.map (rL (rI .i64)) ([]:List LI)))<|wO (.res (res_Sf o))<|wO zT<|wO zT<|wO (zn (([]:List LI).length))<|wO (zn (([]:List LI).length))<|wP (Eq.refl (List.map (rI .u8) ([83,78,68,49]:LI)))<|wP (len_map (rI .u8) (show 4=([83,78,68,49]:LI).length from rfl))<|wP (all_le (rI .u8) ([83,78,68,49]:LI) rfl)<|wP (all_dt (rI .u8) ([83,78,68,49]:LI) rfl)<|wP (ok_Sn (Zc.mk p0 0 0) ([83,78,68,49]:LI) f i)<|wP (ok_Sq f 20 b j)<|wP (ok_Sq b.2 5 c k)<|wP (ok_Sq c.2 10 d l)<|wP (ok_Sq d.2 1 e m)<|wP (ok_Sq e.2 12 g n)<|wP a<|wP a<|wP a<|wP a<|wP (all_le (rL (rI .i64)) ([]:List LI) rfl)<|wP (all_dt (rL (rI .i64)) ([]:List LI) rfl)<|wP (ok_Sf (Za.mk b.1 c.1 d.1 ([]:List LI)) (w64 (e.1+1)) g.1 o p)<|wP a<|wP a<|wP (lens 0 (([]:List LI).length) rfl)<|wP (lens 0 (([]:List LI).length) rfl)<|z0) (by kernel_rfl)
  ·exact gw (ok_Sb_29 _ _ _ _ _ _ _ r hm) (wL (rI .u8) p0<|v1 h<|wO (.rows (List.map (rI .u8) ([83,78,68,49]:LI)))<|wO (zn 4)<|wO (.rows (List.map (rI .u8) ([83,78,68,49]:LI)))<|wO (.res (res_Sn f))<|wO (.res (res_Sq b))<|wO (.res (res_Sq c))<|wO (.res (res_Sq d))<|wO (.res (res_Sq e))<|wO (.res (res_Sq g))<|wO zF<|wO zF<|wO zF<|wO zF<|wO zF<|wO zF<|wO (zn (([]:List LI).length))<|wO (zn (([]:List LI).length))<|wP (Eq.refl (List.map (rI .u8) ([83,78,68,49]:LI)))<|wP (len_map (rI .u8) (show 4=([83,78,68,49]:LI).length from rfl))<|wP (all_le (rI .u8) ([83,78,68,49]:LI) rfl)<|wP (all_dt (rI .u8) ([83,78,68,49]:LI) rfl)<|wP (ok_Sn (Zc.mk p0 0 0) ([83,78,68,49]:LI) f i)<|wP (ok_Sq f 20 b j)<|wP (ok_Sq b.2 5 c k)<|wP (ok_Sq c.2 10 d l)<|wP (ok_Sq d.2 1 e m)<|wP (ok_Sq e.2 12 g n)<|wP a<|wP a<|wP a<|wP a<|wP a<|wP a<|wP (lens 0 (([]:List LI).length) rfl)<|wP (lens 0 (([]:List LI).length) rfl)<|z0) (by kernel_rfl)
theorem ok_Sb (p0:LI) (r:Zb) (hm:m_Sb p0=some r):Runs ext tbl 15 (as_Sb p0) (res_Sb r):=
 runs_of (vf:=vf_Sb) (by kernel_rfl) rfl (st:=(enter vf_Sb (as_Sb p0)).getD default) (by kernel_rfl) (go_on [] 1000 J0 (ok_Sb_0 p0 r hm) (by kernel_rfl))
theorem ok_Ic_0 (p0:Int) (r:Zb) (hm:m_Ic_0 p0=some r):EE c_Ic_0 K_Ic_0 (s_Ic_0 p0) (Post vf_Ic (res_Ic r)):=by
 exact ge (wO (.rows (List.map (rL (rI .i64)) ([]:List LI)))<|wP (all_le0 (rL (rI .i64)) ([]:List LI) rfl)<|wP (all_t (rL (rI .i64)) ([]:List LI) rfl)<|z0) (congrArg res_Ic (qj hm)) (by kernel_rfl)
theorem ok_Ic (p0:Int) (r:Zb) (hm:m_Ic p0=some r):Runs ext tbl 45 (as_Ic p0) (res_Ic r):=
 runs_of (vf:=vf_Ic) (by kernel_rfl) rfl (st:=(enter vf_Ic (as_Ic p0)).getD default) (by kernel_rfl) (go_on [] 1000 J0 (ok_Ic_0 p0 r hm) (by kernel_rfl))
def O_Il_7 (Q:VX→St→Prop) (e:(Int)⊕((Unit))):Prop:=match e with | .inl e=>Q=Post vf_Il (res_Il e) | .inr e=>EE c_Il_33 K_Il_33 (s_Il_33) Q
theorem ok_Il_33 (r:Int) (hm:m_Il_33=some r):EE c_Il_33 K_Il_33 (s_Il_33) (Post vf_Il (res_Il r)):=by
 exact ge (z0) (congrArg res_Il (qj hm)) (by kernel_rfl)
theorem ok_Il_7 (p0:LI) (p1:ByteArray) (g:Int) (y) (hm:m_Il_7 p0 p1 g=some y) (Q)
  (hin:∀ s,y=.inl s→EE c_Il_7 K_Il_7 (s_Il_7 p0 p1 s) Q) (hout:∀ e,y=.inr e→O_Il_7 Q e):EE c_Il_7 K_Il_7 (s_Il_7 p0 p1 g) Q:=by
 obtain ⟨a,hm⟩|⟨a,hm⟩:=split_ite hm
 ·obtain ⟨b,hm⟩|⟨b,hm⟩:=split_ite hm
  ·have hQ:Q=Post vf_Il (res_Il 2):=hout (.inl 2) (qj hm).symm
   subst hQ
   exact ge (u1 a<|wL (rI .u8) p0<|u1 b<|z0) (rfl:res_Il 2=res_Il 2) (by kernel_rfl)
  ·obtain ⟨h,c,hm⟩:=bind_some hm
   obtain ⟨i,d,hm⟩:=bind_some hm
   obtain ⟨f,hm⟩|⟨f,hm⟩:=split_ite hm
   ·have hQ:Q=Post vf_Il (res_Il 4):=hout (.inl 4) (qj hm).symm
    subst hQ
    exact ge (u1 a<|wL (rI .u8) p0<|v1 b<|wO (.row ((rI .u8) h))<|wO (.int i)<|wP (rd_nn c)<|wP (at_row (rI .u8) (rd_get c))<|wP (sat_nn d)<|wP (sat_at d)<|u1 f<|z0) (rfl:res_Il 4=res_Il 4) (by kernel_rfl)
   ·exact gw (hin _ (qj hm).symm) (u1 a<|wL (rI .u8) p0<|v1 b<|wO (.row ((rI .u8) h))<|wO (.int i)<|wP (rd_nn c)<|wP (at_row (rI .u8) (rd_get c))<|wP (sat_nn d)<|wP (sat_at d)<|v1 f<|z0) (by kernel_rfl)
 ·refine gm c_Il_33 K_Il_33 (s_Il_33) (v1 a<|z0) ?_ (by kernel_rfl)
  exact hout (.inr ()) (qj hm).symm
theorem ok_Il_0 (p0:LI) (p1:ByteArray) (r:Int) (hm:m_Il_0 p0 p1=some r):EE c_Il_0 K_Il_0 (s_Il_0 p0 p1) (Post vf_Il (res_Il r)):=by
 refine gm c_Il_7 K_Il_7 (s_Il_7 p0 p1 0) (z0) ?_ (by kernel_rfl)
 obtain ⟨e,he,hm⟩:=bind_some hm
 refine loop_rule (u:=.c c_Il_7) (K:=K_Il_7) (Q:=(Post vf_Il (res_Il r))) (b:=lp_Il_7 p0 p1) (We:=O_Il_7 (Post vf_Il (res_Il r))) (stJ:=fun s=>s_Il_7 p0 p1 s) (s:=0) (fun s y hb hin hout=>ok_Il_7 p0 p1 s y hb (Post vf_Il (res_Il r)) hin hout) he ?_
 rcases e with e | e
 ·exact congrArg (fun r=>Post vf_Il (res_Il r)) (qj hm).symm
 ·show EE c_Il_33 K_Il_33 (s_Il_33) _
  exact ok_Il_33 r hm
theorem ok_Il (p0:LI) (p1:ByteArray) (r:Int) (hm:m_Il p0 p1=some r):Runs ext tbl 46 (as_Il p0 p1) (res_Il r):=
 runs_of (vf:=vf_Il) (by kernel_rfl) rfl (st:=(enter vf_Il (as_Il p0 p1)).getD default) (by kernel_rfl) (go_on [] 1000 J0 (ok_Il_0 p0 p1 r hm) (by kernel_rfl))
theorem ok_Io_0 (p0:Ze) (r:Int×Ze) (hm:m_Io_0 p0=some r):EE c_Io_0 K_Io_0 (s_Io_0 p0) (Post vf_Io (res_Io r)):=by
 obtain ⟨a,hm⟩|⟨a,hm⟩:=split_ite hm
 ·exact ge (wL (rI .u8) p0.b<|u1 a<|z0) (congrArg res_Io (qj hm)) (by kernel_rfl)
 ·obtain ⟨d,c,hm⟩:=bind_some hm
  obtain ⟨f,e,hm⟩:=bind_some hm
  exact ge (wL (rI .u8) p0.b<|v1 a<|wO (.row ((rI .u8) d))<|wP (by decide:(8:Int)≠0)<|wP (rd_nn c)<|wP (at_row (rI .u8) (rd_get c))<|wP (by decide:(8:Int)≠0)<|wP (ck_p e)<|z0) (congrArg res_Io (qj hm)) (by kernel_rfl)
theorem ok_Io (p0:Ze) (r:Int×Ze) (hm:m_Io p0=some r):Runs ext tbl 50 (as_Io p0) (res_Io r):=
 runs_of (vf:=vf_Io) (by kernel_rfl) rfl (st:=(enter vf_Io (as_Io p0)).getD default) (by kernel_rfl) (go_on [] 1000 J0 (ok_Io_0 p0 r hm) (by kernel_rfl))
def O_Iq_9 (Q:VX→St→Prop) (e:(Int×LI×Int×Bool)):Prop:=EE c_Iq_19 K_Iq_19 (s_Iq_19 e.1 e.2.1 e.2.2.1 e.2.2.2) Q
theorem ok_Iq_19 (a:Int) (b:LI) (c:Int) (d:Bool) (r:Int×Ze) (hm:m_Iq_19 a b c d=some r):EE c_Iq_19 K_Iq_19 (s_Iq_19 a b c d) (Post vf_Iq (res_Iq r)):=by
 exact ge (z0) (congrArg res_Iq (qj hm)) (by kernel_rfl)
theorem ok_Iq_9 (p1 d g:Int) (a:LI) (b:Int) (c:Bool) (y) (hm:m_Iq_9 p1 d g a b c=some y) (Q)
  (hin:∀ s,y=.inl s→EE c_Iq_9 K_Iq_9 (s_Iq_9 p1 s.1 s.2.1 s.2.2.1 s.2.2.2.1 s.2.2.2.2) Q) (hout:∀ e,y=.inr e→O_Iq_9 Q e):EE c_Iq_9 K_Iq_9 (s_Iq_9 p1 d g a b c) Q:=by
 obtain ⟨f,hm⟩|⟨f,hm⟩:=split_ite hm
 ·obtain ⟨h,i,hm⟩:=bind_some hm
  exact gw (hin _ (qj hm).symm) (u1 f<|wO (.res (res_Io h))<|wP (by decide:(0:Int)≤1)<|wP (ok_Io (Ze.mk a b c) h i)<|z0) (by kernel_rfl)
 ·refine gm c_Iq_19 K_Iq_19 (s_Iq_19 d a b c) (v1 f<|z0) ?_ (by kernel_rfl)
  exact hout (d,a,b,c) (qj hm).symm
theorem ok_Iq_0 (p1:Int) (p0:Ze) (r:Int×Ze) (hm:m_Iq_0 p1 p0=some r):EE c_Iq_0 K_Iq_0 (s_Iq_0 p1 p0) (Post vf_Iq (res_Iq r)):=by
 refine gm c_Iq_9 K_Iq_9 (s_Iq_9 p1 0 0 p0.b p0.at_ p0.short) (z0) ?_ (by kernel_rfl)
 obtain ⟨e,he,hm⟩:=bind_some hm
 refine loop_rule (u:=.c c_Iq_9) (K:=K_Iq_9) (Q:=(Post vf_Iq (res_Iq r))) (b:=lp_Iq_9 p1) (We:=O_Iq_9 (Post vf_Iq (res_Iq r))) (stJ:=fun s=>s_Iq_9 p1 s.1 s.2.1 s.2.2.1 s.2.2.2.1 s.2.2.2.2) (s:=(0,0,p0.b,p0.at_,p0.short)) (fun s y hb hin hout=>ok_Iq_9 p1 s.1 s.2.1 s.2.2.1 s.2.2.2.1 s.2.2.2.2 y hb (Post vf_Iq (res_Iq r)) hin hout) he ?_
 show EE c_Iq_19 K_Iq_19 (s_Iq_19 e.1 e.2.1 e.2.2.1 e.2.2.2) _
 exact ok_Iq_19 e.1 e.2.1 e.2.2.1 e.2.2.2 r hm
theorem ok_Iq (p0:Ze) (p1:Int) (r:Int×Ze) (hm:m_Iq p0 p1=some r):Runs ext tbl 47 (as_Iq p0 p1) (res_Iq r):=
 runs_of (vf:=vf_Iq) (by kernel_rfl) rfl (st:=(enter vf_Iq (as_Iq p0 p1)).getD default) (by kernel_rfl) (go_on [] 1000 J0 (ok_Iq_0 p1 p0 r hm) (by kernel_rfl))
def O_Im_15 (Q:VX→St→Prop) (e:(Bool)⊕((Unit))):Prop:=match e with | .inl e=>Q=Post vf_Im (res_Im e) | .inr e=>EE c_Im_33 K_Im_33 (s_Im_33) Q
theorem ok_Im_33 (r:Bool) (hm:m_Im_33=some r):EE c_Im_33 K_Im_33 (s_Im_33) (Post vf_Im (res_Im r)):=by
 exact ge (z0) (congrArg res_Im (qj hm)) (by kernel_rfl)
theorem ok_Im_15 (p1 p2:Int) (p0:LI) (g:Int) (y) (hm:m_Im_15 p1 p2 p0 g=some y) (Q)
  (hin:∀ s,y=.inl s→EE c_Im_15 K_Im_15 (s_Im_15 p1 p2 p0 s) Q) (hout:∀ e,y=.inr e→O_Im_15 Q e):EE c_Im_15 K_Im_15 (s_Im_15 p1 p2 p0 g) Q:=by
 obtain ⟨b,hm⟩|⟨b,hm⟩:=split_ite hm
 ·obtain ⟨d,a,hm⟩:=bind_some hm
  obtain ⟨c,hm⟩|⟨c,hm⟩:=split_ite hm
  ·have hQ:Q=Post vf_Im (res_Im false):=hout (.inl false) (qj hm).symm
   subst hQ
   exact ge (u1 b<|wO (.row ((rI .i64) d))<|wP (rd_nn a)<|wP (at_row (rI .i64) (rd_get a))<|u4 c<|u1 eT<|z0) (rfl:res_Im false=res_Im false) (by kernel_rfl)
  ·obtain ⟨f,hm⟩|⟨f,hm⟩:=split_ite hm
   ·have hQ:Q=Post vf_Im (res_Im false):=hout (.inl false) (qj hm).symm
    subst hQ
    exact ge (u1 b<|wO (.row ((rI .i64) d))<|wP (rd_nn a)<|wP (at_row (rI .i64) (rd_get a))<|v4 c<|u1 f<|z0) (rfl:res_Im false=res_Im false) (by kernel_rfl)
   ·exact gw (hin _ (qj hm).symm) (u1 b<|wO (.row ((rI .i64) d))<|wP (rd_nn a)<|wP (at_row (rI .i64) (rd_get a))<|v4 c<|v1 f<|z0) (by kernel_rfl)
 ·refine gm c_Im_33 K_Im_33 (s_Im_33) (v1 b<|z0) ?_ (by kernel_rfl)
  exact hout (.inr ()) (qj hm).symm
theorem ok_Im_0 (p0:LI) (p1 p2 p3:Int) (r:Bool) (hm:m_Im_0 p0 p1 p2 p3=some r):EE c_Im_0 K_Im_0 (s_Im_0 p0 p1 p2 p3) (Post vf_Im (res_Im r)):=by
 obtain ⟨a,hm⟩|⟨a,hm⟩:=split_ite hm
 ·exact ge (wL (rI .i64) p0<|u1 a<|z0) (congrArg res_Im (qj hm)) (by kernel_rfl)
 ·refine gm c_Im_15 K_Im_15 (s_Im_15 p1 p2 p0 0) (wL (rI .i64) p0<|v1 a<|wL (rI .i64) p0<|z0) ?_ (by kernel_rfl)
  obtain ⟨e,he,hm⟩:=bind_some hm
  refine loop_rule (u:=.c c_Im_15) (K:=K_Im_15) (Q:=(Post vf_Im (res_Im r))) (b:=lp_Im_15 p1 p2 p0) (We:=O_Im_15 (Post vf_Im (res_Im r))) (stJ:=fun s=>s_Im_15 p1 p2 p0 s) (s:=0) (fun s y hb hin hout=>ok_Im_15 p1 p2 p0 s y hb (Post vf_Im (res_Im r)) hin hout) he ?_
  rcases e with e | e
  ·exact congrArg (fun r=>Post vf_Im (res_Im r)) (qj hm).symm
  ·show EE c_Im_33 K_Im_33 (s_Im_33) _
   exact ok_Im_33 r hm
theorem ok_Im (p0:LI) (p1 p2 p3:Int) (r:Bool) (hm:m_Im p0 p1 p2 p3=some r):Runs ext tbl 55 (as_Im p0 p1 p2 p3) (res_Im r):=
 runs_of (vf:=vf_Im) (by kernel_rfl) rfl (st:=(enter vf_Im (as_Im p0 p1 p2 p3)).getD default) (by kernel_rfl) (go_on [] 1000 J0 (ok_Im_0 p0 p1 p2 p3 r hm) (by kernel_rfl))
def O_Id_17 (Q:VX→St→Prop) (e:(Bool)⊕((Unit))):Prop:=match e with | .inl e=>Q=Post vf_Id (res_Id e) | .inr e=>EE c_Id_35 K_Id_35 (s_Id_35) Q
theorem ok_Id_35 (r:Bool) (hm:m_Id_35=some r):EE c_Id_35 K_Id_35 (s_Id_35) (Post vf_Id (res_Id r)):=by
 exact ge (z0) (congrArg res_Id (qj hm)) (by kernel_rfl)
theorem ok_Id_17 (p0:Za) (k:Int) (y) (hm:m_Id_17 p0 k=some y) (Q)
  (hin:∀ s,y=.inl s→EE c_Id_17 K_Id_17 (s_Id_17 p0 s) Q) (hout:∀ e,y=.inr e→O_Id_17 Q e):EE c_Id_17 K_Id_17 (s_Id_17 p0 k) Q:=by
 obtain ⟨g,hm⟩|⟨g,hm⟩:=split_ite hm
 ·obtain ⟨b,c,hm⟩:=bind_some hm
  obtain ⟨d,f,hm⟩:=bind_some hm
  obtain ⟨a,hm⟩|⟨a,hm⟩:=split_ite hm
  ·have hQ:Q=Post vf_Id (res_Id false):=hout (.inl false) (qj hm).symm
   subst hQ
   exact ge (u1 g<|wO (.row ((rL (rI .i64)) b))<|wP (rd_nn c)<|wP (at_row (rL (rI .i64)) (rd_get c))<|wL (rI .i64) b<|wO (.row ((rL (rI .i64)) d))<|wP (rd_nn f)<|wP (at_row (rL (rI .i64)) (rd_get f))<|wL (rI .i64) d<|u4 a<|u4 a<|u4 a<|u1 a<|u1 eT<|z0) (rfl:res_Id false=res_Id false) (by kernel_rfl)
  ·obtain ⟨m,h,hm⟩:=bind_some hm
   obtain ⟨i,l,hm⟩:=bind_some hm
   obtain ⟨j,hm⟩|⟨j,hm⟩:=split_ite hm
   ·exact gw (hin _ (qj hm).symm) (u1 g<|wO (.row ((rL (rI .i64)) b))<|wP (rd_nn c)<|wP (at_row (rL (rI .i64)) (rd_get c))<|wL (rI .i64) b<|wO (.row ((rL (rI .i64)) d))<|wP (rd_nn f)<|wP (at_row (rL (rI .i64)) (rd_get f))<|wL (rI .i64) d<|v4 a<|v1 a<|wP (ck_p h)<|v4 a<|wP (ck_p h)<|v2 a<|wO (.res (res_Im i))<|wP (ok_Im b (shlI .i64 (-1) (w64 (p0.bits - 1))) (w64 ((shlI .i64 1 (w64 (p0.bits - 1))) - 1)) 4000 i l)<|v2 a<|v1 (not_f j)<|z0) (by kernel_rfl)
   ·have hQ:Q=Post vf_Id (res_Id false):=hout (.inl false) (qj hm).symm
    subst hQ
    exact ge (u1 g<|wO (.row ((rL (rI .i64)) b))<|wP (rd_nn c)<|wP (at_row (rL (rI .i64)) (rd_get c))<|wL (rI .i64) b<|wO (.row ((rL (rI .i64)) d))<|wP (rd_nn f)<|wP (at_row (rL (rI .i64)) (rd_get f))<|wL (rI .i64) d<|v4 a<|v1 a<|wP (ck_p h)<|v4 a<|wP (ck_p h)<|v2 a<|wO (.res (res_Im i))<|wP (ok_Im b (shlI .i64 (-1) (w64 (p0.bits - 1))) (w64 ((shlI .i64 1 (w64 (p0.bits - 1))) - 1)) 4000 i l)<|v2 a<|u1 (not_t j)<|z0) (rfl:res_Id false=res_Id false) (by kernel_rfl)
 ·refine gm c_Id_35 K_Id_35 (s_Id_35) (v1 g<|z0) ?_ (by kernel_rfl)
  exact hout (.inr ()) (qj hm).symm
theorem ok_Id_0 (p0:Za) (r:Bool) (hm:m_Id_0 p0=some r):EE c_Id_0 K_Id_0 (s_Id_0 p0) (Post vf_Id (res_Id r)):=by
 obtain ⟨a,hm⟩|⟨a,hm⟩:=split_ite hm
 ·exact ge (wO (zn p0.channels.length)<|wP (len_map (rL (rI .i64)) (show p0.channels.length=p0.channels.length from rfl))<|u4 a<|u4 eT<|u4 eT<|u4 eT<|u4 eT<|u4 eT<|u3 eT<|z0) (congrArg res_Id (qj hm)) (by kernel_rfl)
 ·obtain ⟨d,hm⟩|⟨d,hm⟩:=split_ite hm
  ·exact ge (wO (zn p0.channels.length)<|wP (len_map (rL (rI .i64)) (show p0.channels.length=p0.channels.length from rfl))<|v4 a<|u4 d<|u4 eT<|u4 eT<|u4 eT<|u4 eT<|u3 eT<|z0) (congrArg res_Id (qj hm)) (by kernel_rfl)
  ·obtain ⟨f,hm⟩|⟨f,hm⟩:=split_ite hm
   ·exact ge (wO (zn p0.channels.length)<|wP (len_map (rL (rI .i64)) (show p0.channels.length=p0.channels.length from rfl))<|v4 a<|v4 d<|u4 f<|u4 eT<|u4 eT<|u4 eT<|u3 eT<|z0) (congrArg res_Id (qj hm)) (by kernel_rfl)
   ·obtain ⟨g,hm⟩|⟨g,hm⟩:=split_ite hm
    ·exact ge (wO (zn p0.channels.length)<|wP (len_map (rL (rI .i64)) (show p0.channels.length=p0.channels.length from rfl))<|v4 a<|v4 d<|v4 f<|u4 g<|u4 eT<|u4 eT<|u3 eT<|z0) (congrArg res_Id (qj hm)) (by kernel_rfl)
    ·obtain ⟨h,hm⟩|⟨h,hm⟩:=split_ite hm
     ·exact ge (wO (zn p0.channels.length)<|wP (len_map (rL (rI .i64)) (show p0.channels.length=p0.channels.length from rfl))<|v4 a<|v4 d<|v4 f<|v4 g<|u4 h<|u4 eT<|u3 eT<|z0) (congrArg res_Id (qj hm)) (by kernel_rfl)
     ·obtain ⟨i,hm⟩|⟨i,hm⟩:=split_ite hm
      ·exact ge (wO (zn p0.channels.length)<|wP (len_map (rL (rI .i64)) (show p0.channels.length=p0.channels.length from rfl))<|v4 a<|v4 d<|v4 f<|v4 g<|v4 h<|u3 i<|u4 eT<|z0) (congrArg res_Id (qj hm)) (by kernel_rfl)
      ·obtain ⟨j,hm⟩|⟨j,hm⟩:=split_ite hm
       ·exact ge (wO (zn p0.channels.length)<|wP (len_map (rL (rI .i64)) (show p0.channels.length=p0.channels.length from rfl))<|v4 a<|v4 d<|v4 f<|v4 g<|v4 h<|v3 i<|u3 j<|u1 eT<|z0) (congrArg res_Id (qj hm)) (by kernel_rfl)
       ·obtain ⟨k,hm⟩|⟨k,hm⟩:=split_ite hm
        ·exact ge (wO (zn p0.channels.length)<|wP (len_map (rL (rI .i64)) (show p0.channels.length=p0.channels.length from rfl))<|v4 a<|v4 d<|v4 f<|v4 g<|v4 h<|v3 i<|v3 j<|u1 k<|z0) (congrArg res_Id (qj hm)) (by kernel_rfl)
        ·refine gm c_Id_17 K_Id_17 (s_Id_17 p0 0) (wO (zn p0.channels.length)<|wP (len_map (rL (rI .i64)) (show p0.channels.length=p0.channels.length from rfl))<|v4 a<|v4 d<|v4 f<|v4 g<|v4 h<|v3 i<|v3 j<|v1 k<|wO (zn p0.channels.length)<|wP (len_map (rL (rI .i64)) (show p0.channels.length=p0.channels.length from rfl))<|z0) ?_ (by kernel_rfl)
         obtain ⟨e,he,hm⟩:=bind_some hm
         refine loop_rule (u:=.c c_Id_17) (K:=K_Id_17) (Q:=(Post vf_Id (res_Id r))) (b:=lp_Id_17 p0) (We:=O_Id_17 (Post vf_Id (res_Id r))) (stJ:=fun s=>s_Id_17 p0 s) (s:=0) (fun s y hb hin hout=>ok_Id_17 p0 s y hb (Post vf_Id (res_Id r)) hin hout) he ?_
         rcases e with e | e
         ·exact congrArg (fun r=>Post vf_Id (res_Id r)) (qj hm).symm
         ·show EE c_Id_35 K_Id_35 (s_Id_35) _
          exact ok_Id_35 r hm
theorem ok_Id (p0:Za) (r:Bool) (hm:m_Id p0=some r):Runs ext tbl 29 (as_Id p0) (res_Id r):=
 runs_of (vf:=vf_Id) (by kernel_rfl) rfl (st:=(enter vf_Id (as_Id p0)).getD default) (by kernel_rfl) (go_on [] 1000 J0 (ok_Id_0 p0 r hm) (by kernel_rfl))
theorem ok_In_0 (p0 p1 r:Int) (hm:m_In_0 p0 p1=some r):EE c_In_0 K_In_0 (s_In_0 p0 p1) (Post vf_In (res_In r)):=by
 obtain ⟨b,a,hm⟩:=bind_some hm
 exact ge (wP (ck_p a)<|wP (ck_p a)<|z0) (congrArg res_In (qj hm)) (by kernel_rfl)
theorem ok_In (p0 p1 r:Int) (hm:m_In p0 p1=some r):Runs ext tbl 48 (as_In p0 p1) (res_In r):=
 runs_of (vf:=vf_In) (by kernel_rfl) rfl (st:=(enter vf_In (as_In p0 p1)).getD default) (by kernel_rfl) (go_on [] 1000 J0 (ok_In_0 p0 p1 r hm) (by kernel_rfl))
theorem ok_Ii_0 (p0 p1 p2:Int) (r:Bool) (hm:m_Ii_0 p0 p1 p2=some r):EE c_Ii_0 K_Ii_0 (s_Ii_0 p0 p1 p2) (Post vf_Ii (res_Ii r)):=by
 obtain ⟨b,hm⟩|⟨b,hm⟩:=split_ite hm
 ·obtain ⟨c,hm⟩|⟨c,hm⟩:=split_ite hm
  ·obtain ⟨d,hm⟩|⟨d,hm⟩:=split_ite hm
   ·obtain ⟨e,hm⟩|⟨e,hm⟩:=split_ite hm
    ·obtain ⟨a,hm⟩|⟨a,hm⟩:=split_ite hm
     ·obtain ⟨i,g,hm⟩:=bind_some hm
      obtain ⟨j,h,hm⟩:=bind_some hm
      obtain ⟨f,hm⟩|⟨f,hm⟩:=split_ite hm
      ·exact ge (u3 b<|u4 c<|u3 d<|u3 e<|u3 a<|wP (ck_p g)<|u1 a<|wP (ck_p h)<|u2 a<|u3 f<|wP (ck_p g)<|u3 f<|z0) (congrArg res_Ii (qj hm)) (by kernel_rfl)
      ·exact ge (u3 b<|u4 c<|u3 d<|u3 e<|u3 a<|wP (ck_p g)<|u1 a<|wP (ck_p h)<|u2 a<|v4 f<|v2 f<|z0) (congrArg res_Ii (qj hm)) (by kernel_rfl)
     ·exact ge (u3 b<|u4 c<|u3 d<|u3 e<|v4 a<|v2 a<|v4 eF<|v2 eF<|z0) (congrArg res_Ii (qj hm)) (by kernel_rfl)
    ·exact ge (u3 b<|u4 c<|u3 d<|v3 e<|v4 eF<|v4 eF<|v4 eF<|z0) (congrArg res_Ii (qj hm)) (by kernel_rfl)
   ·exact ge (u3 b<|u4 c<|v3 d<|v4 eF<|v4 eF<|v4 eF<|v3 eF<|z0) (congrArg res_Ii (qj hm)) (by kernel_rfl)
  ·exact ge (u3 b<|v4 c<|v4 eF<|v4 eF<|v4 eF<|v4 eF<|v2 eF<|z0) (congrArg res_Ii (qj hm)) (by kernel_rfl)
 ·exact ge (v3 b<|v4 eF<|v4 eF<|v4 eF<|v4 eF<|v4 eF<|v2 eF<|z0) (congrArg res_Ii (qj hm)) (by kernel_rfl)
theorem ok_Ii (p0 p1 p2:Int) (r:Bool) (hm:m_Ii p0 p1 p2=some r):Runs ext tbl 49 (as_Ii p0 p1 p2) (res_Ii r):=
 runs_of (vf:=vf_Ii) (by kernel_rfl) rfl (st:=(enter vf_Ii (as_Ii p0 p1 p2)).getD default) (by kernel_rfl) (go_on [] 1000 J0 (ok_Ii_0 p0 p1 p2 r hm) (by kernel_rfl))
theorem ok_If_0 (p0 r:Int) (hm:m_If_0 p0=some r):EE c_If_0 K_If_0 (s_If_0 p0) (Post vf_If (res_If r)):=by
 exact ge (wP (by decide:(0:Int)≤1)<|z0) (congrArg res_If (qj hm)) (by kernel_rfl)
theorem ok_If (p0 r:Int) (hm:m_If p0=some r):Runs ext tbl 51 (as_If p0) (res_If r):=
 runs_of (vf:=vf_If) (by kernel_rfl) rfl (st:=(enter vf_If (as_If p0)).getD default) (by kernel_rfl) (go_on [] 1000 J0 (ok_If_0 p0 r hm) (by kernel_rfl))
def O_Ip_7 (Q:VX→St→Prop) (e:(Bool×LI×Int×Bool)):Prop:=EE c_Ip_15 K_Ip_15 (s_Ip_15 e.1 e.2.1 e.2.2.1 e.2.2.2) Q
theorem ok_Ip_15 (a:Bool) (b:LI) (c:Int) (d:Bool) (r:Bool×Ze) (hm:m_Ip_15 a b c d=some r):EE c_Ip_15 K_Ip_15 (s_Ip_15 a b c d) (Post vf_Ip (res_Ip r)):=by
 exact ge (z0) (congrArg res_Ip (qj hm)) (by kernel_rfl)
theorem ok_Ip_7 (d:Bool) (a:LI) (b:Int) (c:Bool) (y) (hm:m_Ip_7 d a b c=some y) (Q)
  (hin:∀ s,y=.inl s→EE c_Ip_7 K_Ip_7 (s_Ip_7 s.1 s.2.1 s.2.2.1 s.2.2.2) Q) (hout:∀ e,y=.inr e→O_Ip_7 Q e):EE c_Ip_7 K_Ip_7 (s_Ip_7 d a b c) Q:=by
 obtain ⟨f,hm⟩|⟨f,hm⟩:=split_ite hm
 ·obtain ⟨g,i,hm⟩:=bind_some hm
  obtain ⟨h,hm⟩|⟨h,hm⟩:=split_ite hm
  ·exact gw (hin _ (qj hm).symm) (wP (by decide:(8:Int)≠0)<|u1 f<|wO (.res (res_Io g))<|wP (ok_Io (Ze.mk a b c) g i)<|u2 h<|z0) (by kernel_rfl)
  ·exact gw (hin _ (qj hm).symm) (wP (by decide:(8:Int)≠0)<|u1 f<|wO (.res (res_Io g))<|wP (ok_Io (Ze.mk a b c) g i)<|v2 h<|z0) (by kernel_rfl)
 ·refine gm c_Ip_15 K_Ip_15 (s_Ip_15 d a b c) (wP (by decide:(8:Int)≠0)<|v1 f<|z0) ?_ (by kernel_rfl)
  exact hout (d,a,b,c) (qj hm).symm
theorem ok_Ip_0 (p0:Ze) (r:Bool×Ze) (hm:m_Ip_0 p0=some r):EE c_Ip_0 K_Ip_0 (s_Ip_0 p0) (Post vf_Ip (res_Ip r)):=by
 refine gm c_Ip_7 K_Ip_7 (s_Ip_7 true p0.b p0.at_ p0.short) (z0) ?_ (by kernel_rfl)
 obtain ⟨e,he,hm⟩:=bind_some hm
 refine loop_rule (u:=.c c_Ip_7) (K:=K_Ip_7) (Q:=(Post vf_Ip (res_Ip r))) (b:=lp_Ip_7) (We:=O_Ip_7 (Post vf_Ip (res_Ip r))) (stJ:=fun s=>s_Ip_7 s.1 s.2.1 s.2.2.1 s.2.2.2) (s:=(true,p0.b,p0.at_,p0.short)) (fun s y hb hin hout=>ok_Ip_7 s.1 s.2.1 s.2.2.1 s.2.2.2 y hb (Post vf_Ip (res_Ip r)) hin hout) he ?_
 show EE c_Ip_15 K_Ip_15 (s_Ip_15 e.1 e.2.1 e.2.2.1 e.2.2.2) _
 exact ok_Ip_15 e.1 e.2.1 e.2.2.1 e.2.2.2 r hm
theorem ok_Ip (p0:Ze) (r:Bool×Ze) (hm:m_Ip p0=some r):Runs ext tbl 52 (as_Ip p0) (res_Ip r):=
 runs_of (vf:=vf_Ip) (by kernel_rfl) rfl (st:=(enter vf_Ip (as_Ip p0)).getD default) (by kernel_rfl) (go_on [] 1000 J0 (ok_Ip_0 p0 r hm) (by kernel_rfl))
def O_Ia_25 (p0:LI) (a:Int) (Q:VX→St→Prop) (e:(Int)):Prop:=EE c_Ia_35 K_Ia_35 (s_Ia_35 p0 a e) Q
def O_Ia_9 (Q:VX→St→Prop) (e:(Int)):Prop:=EE c_Ia_36 K_Ia_36 (s_Ia_36 e) Q
theorem ok_Ia_35 (p0:LI) (a b:Int) (y) (hm:m_Ia_35 p0 a b=some y) (Q)
  (hin:∀ s,y=.inl s→EE c_Ia_9 K_Ia_9 (s_Ia_9 p0 s.1 s.2) Q) (hout:∀ e,y=.inr e→O_Ia_9 Q e):EE c_Ia_35 K_Ia_35 (s_Ia_35 p0 a b) Q:=by
 exact gw (hin _ (qj hm).symm) (z0) (by kernel_rfl)
theorem ok_Ia_25 (p0:LI) (a b d:Int) (y) (hm:m_Ia_25 p0 a b d=some y) (Q)
  (hin:∀ s,y=.inl s→EE c_Ia_25 K_Ia_25 (s_Ia_25 p0 a s.1 s.2) Q) (hout:∀ e,y=.inr e→O_Ia_25 p0 a Q e):EE c_Ia_25 K_Ia_25 (s_Ia_25 p0 a b d) Q:=by
 obtain ⟨c,hm⟩|⟨c,hm⟩:=split_ite hm
 ·exact gw (hin _ (qj hm).symm) (u1 c<|wP (by decide:(0:Int)≤1)<|z0) (by kernel_rfl)
 ·refine gm c_Ia_35 K_Ia_35 (s_Ia_35 p0 a b) (v1 c<|z0) ?_ (by kernel_rfl)
  exact hout b (qj hm).symm
theorem ok_Ia_36 (a r:Int) (hm:m_Ia_36 a=some r):EE c_Ia_36 K_Ia_36 (s_Ia_36 a) (Post vf_Ia (res_Ia r)):=by
 exact ge (z0) (congrArg res_Ia (qj hm)) (by kernel_rfl)
theorem ok_Ia_9 (p0:LI) (d a:Int) (y) (hm:m_Ia_9 p0 d a=some y) (Q)
  (hin:∀ s,y=.inl s→EE c_Ia_9 K_Ia_9 (s_Ia_9 p0 s.1 s.2) Q) (hout:∀ e,y=.inr e→O_Ia_9 Q e):EE c_Ia_9 K_Ia_9 (s_Ia_9 p0 d a) Q:=by
 obtain ⟨f,hm⟩|⟨f,hm⟩:=split_ite hm
 ·obtain ⟨g,h,hm⟩:=bind_some hm
  refine gm c_Ia_25 K_Ia_25 (s_Ia_25 p0 a (xorI .u32 d (wr .u32 g)) 0) (u1 f<|wO (.row ((rI .u8) g))<|wP (rd_nn h)<|wP (at_row (rI .u8) (rd_get h))<|z0) ?_ (by kernel_rfl)
  obtain ⟨e,he,hm⟩:=bind_some hm
  refine loop_rule (u:=.c c_Ia_25) (K:=K_Ia_25) (Q:=Q) (b:=lp_Ia_25 p0 a) (We:=O_Ia_25 p0 a Q) (stJ:=fun s=>s_Ia_25 p0 a s.1 s.2) (s:=((xorI .u32 d (wr .u32 g)),0)) (fun s y hb hin hout=>ok_Ia_25 p0 a s.1 s.2 y hb Q hin hout) he ?_
  show EE c_Ia_35 K_Ia_35 (s_Ia_35 p0 a e) _
  exact ok_Ia_35 p0 a e y hm Q hin hout
 ·refine gm c_Ia_36 K_Ia_36 (s_Ia_36 d) (v1 f<|z0) ?_ (by kernel_rfl)
  exact hout d (qj hm).symm
theorem ok_Ia_0 (p0:LI) (r:Int) (hm:m_Ia_0 p0=some r):EE c_Ia_0 K_Ia_0 (s_Ia_0 p0) (Post vf_Ia (res_Ia r)):=by
 refine gm c_Ia_9 K_Ia_9 (s_Ia_9 p0 4294967295 0) (wL (rI .u8) p0<|z0) ?_ (by kernel_rfl)
 obtain ⟨e,he,hm⟩:=bind_some hm
 refine loop_rule (u:=.c c_Ia_9) (K:=K_Ia_9) (Q:=(Post vf_Ia (res_Ia r))) (b:=lp_Ia_9 p0) (We:=O_Ia_9 (Post vf_Ia (res_Ia r))) (stJ:=fun s=>s_Ia_9 p0 s.1 s.2) (s:=(4294967295,0)) (fun s y hb hin hout=>ok_Ia_9 p0 s.1 s.2 y hb (Post vf_Ia (res_Ia r)) hin hout) he ?_
 show EE c_Ia_36 K_Ia_36 (s_Ia_36 e) _
 exact ok_Ia_36 e r hm
theorem ok_Ia (p0:LI) (r:Int) (hm:m_Ia p0=some r):Runs ext tbl 37 (as_Ia p0) (res_Ia r):=
 runs_of (vf:=vf_Ia) (by kernel_rfl) rfl (st:=(enter vf_Ia (as_Ia p0)).getD default) (by kernel_rfl) (go_on [] 1000 J0 (ok_Ia_0 p0 r hm) (by kernel_rfl))
theorem ok_Ih_0 (p0 r:LI) (hm:m_Ih_0 p0=some r):EE c_Ih_0 K_Ih_0 (s_Ih_0 p0) (Post vf_Ih (res_Ih r)):=by
 obtain ⟨b,a,hm⟩:=bind_some hm
 exact ge (wO (.rows (mi ([]:LI)))<|wO (zn 0)<|wO (.rows (mi (([]:LI)++p0)))<|wO (zn ((([]:LI)++p0).length))<|wO (.rows (mi (([]:LI)++p0)))<|wP (Eq.refl (mi ([]:LI)))<|wP (len_map (rI .i64) (show 0=([]:LI).length from rfl))<|wP (app_ck_ro (rI .i64) ([]:LI) p0 rfl a)<|wP (app_tell_ro (rI .i64) ([]:LI) p0 rfl)<|wP (len_map (rI .i64) (show (([]:LI)++p0).length=(([]:LI)++p0).length from rfl))<|wP (all_le0 (rI .i64) (([]:LI)++p0) rfl)<|wP (all_t (rI .i64) (([]:LI)++p0) rfl)<|z0) (congrArg res_Ih (qj hm)) (by kernel_rfl)
theorem ok_Ih (p0 r:LI) (hm:m_Ih p0=some r):Runs ext tbl 70 (as_Ih p0) (res_Ih r):=
 runs_of (vf:=vf_Ih) (by kernel_rfl) rfl (st:=(enter vf_Ih (as_Ih p0)).getD default) (by kernel_rfl) (go_on [] 1000 J0 (ok_Ih_0 p0 r hm) (by kernel_rfl))
theorem ok_Ij_0 (p0:Int) (p1:LI) (p2 r:Int) (hm:m_Ij_0 p0 p1 p2=some r):EE c_Ij_0 K_Ij_0 (s_Ij_0 p0 p1 p2) (Post vf_Ij (res_Ij r)):=by
 obtain ⟨d,hm⟩|⟨d,hm⟩:=split_ite hm
 ·obtain ⟨l,b,hm⟩:=bind_some hm
  exact ge (u1 d<|wO (.row ((rI .i64) l))<|wP (rd_nn b)<|wP (at_row (rI .i64) (rd_get b))<|z0) (congrArg res_Ij (qj hm)) (by kernel_rfl)
 ·obtain ⟨b,hm⟩|⟨b,hm⟩:=split_ite hm
  ·obtain ⟨m,c,hm⟩:=bind_some hm
   obtain ⟨g,a,hm⟩:=bind_some hm
   exact ge (v1 d<|u1 b<|wO (.row ((rI .i64) m))<|wO (.row ((rI .i64) g))<|wP (rd_nn c)<|wP (at_row (rI .i64) (rd_get c))<|wP (rd_nn a)<|wP (at_row (rI .i64) (rd_get a))<|z0) (congrArg res_Ij (qj hm)) (by kernel_rfl)
  ·obtain ⟨c,hm⟩|⟨c,hm⟩:=split_ite hm
   ·obtain ⟨g,a,hm⟩:=bind_some hm
    obtain ⟨h,e,hm⟩:=bind_some hm
    obtain ⟨i,f,hm⟩:=bind_some hm
    exact ge (v1 d<|v1 b<|u1 c<|wO (.row ((rI .i64) g))<|wO (.row ((rI .i64) h))<|wO (.row ((rI .i64) i))<|wP (rd_nn a)<|wP (at_row (rI .i64) (rd_get a))<|wP (rd_nn e)<|wP (at_row (rI .i64) (rd_get e))<|wP (rd_nn f)<|wP (at_row (rI .i64) (rd_get f))<|z0) (congrArg res_Ij (qj hm)) (by kernel_rfl)
   ·obtain ⟨a,hm⟩|⟨a,hm⟩:=split_ite hm
    ·obtain ⟨h,e,hm⟩:=bind_some hm
     obtain ⟨i,f,hm⟩:=bind_some hm
     obtain ⟨n,j,hm⟩:=bind_some hm
     obtain ⟨o,k,hm⟩:=bind_some hm
     exact ge (v1 d<|v1 b<|v1 c<|u1 a<|wO (.row ((rI .i64) h))<|wO (.row ((rI .i64) i))<|wO (.row ((rI .i64) n))<|wO (.row ((rI .i64) o))<|wP (rd_nn e)<|wP (at_row (rI .i64) (rd_get e))<|wP (rd_nn f)<|wP (at_row (rI .i64) (rd_get f))<|wP (rd_nn j)<|wP (at_row (rI .i64) (rd_get j))<|wP (rd_nn k)<|wP (at_row (rI .i64) (rd_get k))<|z0) (congrArg res_Ij (qj hm)) (by kernel_rfl)
    ·exact ge (v1 d<|v1 b<|v1 c<|v1 a<|z0) (congrArg res_Ij (qj hm)) (by kernel_rfl)
theorem ok_Ij (p0:Int) (p1:LI) (p2 r:Int) (hm:m_Ij p0 p1 p2=some r):Runs ext tbl 72 (as_Ij p0 p1 p2) (res_Ij r):=
 runs_of (vf:=vf_Ij) (by kernel_rfl) rfl (st:=(enter vf_Ij (as_Ij p0 p1 p2)).getD default) (by kernel_rfl) (go_on [] 1000 J0 (ok_Ij_0 p0 p1 p2 r hm) (by kernel_rfl))
def O_Ie_17 (Q:VX→St→Prop) (e:((LI))⊕((LI))):Prop:=match e with | .inl e=>EE c_Ie_41 K_Ie_41 (s_Ie_41 e) Q | .inr e=>Q=Post vf_Ie (res_Ie e)
theorem ok_Ie_33 (p0 h:Int) (d f:LI) (y) (hm:m_Ie_33 p0 h d f=some y) (Q)
  (hin:∀ s,y=.inl s→EE c_Ie_17 K_Ie_17 (s_Ie_17 p0 d s.1 s.2) Q) (hout:∀ e,y=.inr e→O_Ie_17 Q e):EE c_Ie_33 K_Ie_33 (s_Ie_33 p0 h d f) Q:=by
 obtain ⟨c,a,hm⟩:=bind_some hm
 obtain ⟨b,hm⟩|⟨b,hm⟩:=split_ite hm
 ·have hQ:Q=Post vf_Ie (res_Ie ([]:LI)):=hout (.inr ([]:LI)) (qj hm).symm
  subst hQ
  exact ge (wO (.row ((rI .i64) c))<|wP (rd_in rfl a)<|wP (at_row (rI .i64) (rd_get0 a))<|u4 b<|u2 b<|u1 eT<|wO (.rows (mi ([]:LI)))<|wP (all_le0 (rI .i64) ([]:LI) rfl)<|wP (all_t (rI .i64) ([]:LI) rfl)<|z0) (rfl:res_Ie ([]:LI)=res_Ie ([]:LI)) (by kernel_rfl)
 ·obtain ⟨g,hm⟩|⟨g,hm⟩:=split_ite hm
  ·have hQ:Q=Post vf_Ie (res_Ie ([]:LI)):=hout (.inr ([]:LI)) (qj hm).symm
   subst hQ
   exact ge (wO (.row ((rI .i64) c))<|wP (rd_in rfl a)<|wP (at_row (rI .i64) (rd_get0 a))<|v3 b<|wP (rd_in rfl a)<|v1 b<|wO (.row ((rI .i64) c))<|wP (at_row (rI .i64) (rd_get0 a))<|v2 b<|u1 g<|wO (.rows (mi ([]:LI)))<|wP (all_le0 (rI .i64) ([]:LI) rfl)<|wP (all_t (rI .i64) ([]:LI) rfl)<|z0) (rfl:res_Ie ([]:LI)=res_Ie ([]:LI)) (by kernel_rfl)
  ·exact gw (hin _ (qj hm).symm) (wO (.row ((rI .i64) c))<|wP (rd_in rfl a)<|wP (at_row (rI .i64) (rd_get0 a))<|v3 b<|wP (rd_in rfl a)<|v1 b<|wO (.row ((rI .i64) c))<|wP (at_row (rI .i64) (rd_get0 a))<|v2 b<|v1 g<|wN f.length<|z0) (by kernel_rfl)
theorem ok_Ie_41 (a r:LI) (hm:m_Ie_41 a=some r):EE c_Ie_41 K_Ie_41 (s_Ie_41 a) (Post vf_Ie (res_Ie r)):=by
 exact ge (wR (rI .i64) a<|z0) (congrArg res_Ie (qj hm)) (by kernel_rfl)
theorem ok_Ie_17 (p0:Int) (h:LI) (c:Int) (a:LI) (y) (hm:m_Ie_17 p0 h c a=some y) (Q)
  (hin:∀ s,y=.inl s→EE c_Ie_17 K_Ie_17 (s_Ie_17 p0 h s.1 s.2) Q) (hout:∀ e,y=.inr e→O_Ie_17 Q e):EE c_Ie_17 K_Ie_17 (s_Ie_17 p0 h c a) Q:=by
 obtain ⟨f,hm⟩|⟨f,hm⟩:=split_ite hm
 ·obtain ⟨i,hm⟩|⟨i,hm⟩:=split_ite hm
  ·obtain ⟨d,g,hm⟩:=bind_some hm
   obtain ⟨b,j,hm⟩:=bind_some hm
   exact gw (ok_Ie_33 _ _ _ _ y hm Q hin hout) (u1 f<|u1 i<|wO (.row ((rI .i64) d))<|wO (zi a)<|wO (.res (res_Ij b))<|wO (.rows (mi (a.set (0+Int.toNat c) (w64 (d+b)))))<|wO (zn ((a.set (0+Int.toNat c) (w64 (d+b))).length))<|wP (rd_in rfl g)<|wP (at_row (rI .i64) (rd_get0 g))<|wP (all_le (rI .i64) a rfl)<|wP (all_dt (rI .i64) a rfl)<|wP (ok_Ij p0 a c b j)<|wP (rd_in rfl g)<|wP (put_ob (rI .i64) (w64 (d+b)) 0 (.lit (vI (w64 (d+b)))) (rd_get0 g) (by kernel_rfl) (by kernel_rfl))<|wP (lens a.length ((a.set (0+Int.toNat c) (w64 (d+b))).length) (set_len rfl))<|z0) (by kernel_rfl)
  ·exact gw (ok_Ie_33 _ _ _ _ y hm Q hin hout) (u1 f<|v1 i<|wN a.length<|z0) (by kernel_rfl)
 ·refine gm c_Ie_41 K_Ie_41 (s_Ie_41 a) (v1 f<|wN a.length<|z0) ?_ (by kernel_rfl)
  exact hout (.inl a) (qj hm).symm
theorem ok_Ie_0 (p0:Int) (p1 r:LI) (hm:m_Ie_0 p0 p1=some r):EE c_Ie_0 K_Ie_0 (s_Ie_0 p0 p1) (Post vf_Ie (res_Ie r)):=by
 obtain ⟨d,g,hm⟩:=bind_some hm
 obtain ⟨f,hm⟩|⟨f,hm⟩:=split_ite hm
 ·obtain ⟨h,hm⟩|⟨h,hm⟩:=split_ite hm
  ·exact ge (wO (.res (res_Im d))<|wP (ok_Im p1 (-2147483648) 2147483647 4000 d g)<|v3 (not_f f)<|u3 h<|u1 eT<|wO (.rows (mi ([]:LI)))<|wP (all_le0 (rI .i64) ([]:LI) rfl)<|wP (all_t (rI .i64) ([]:LI) rfl)<|z0) (congrArg res_Ie (qj hm)) (by kernel_rfl)
  ·obtain ⟨i,hm⟩|⟨i,hm⟩:=split_ite hm
   ·exact ge (wO (.res (res_Im d))<|wP (ok_Im p1 (-2147483648) 2147483647 4000 d g)<|v3 (not_f f)<|v3 h<|u1 i<|wO (.rows (mi ([]:LI)))<|wP (all_le0 (rI .i64) ([]:LI) rfl)<|wP (all_t (rI .i64) ([]:LI) rfl)<|z0) (congrArg res_Ie (qj hm)) (by kernel_rfl)
   ·obtain ⟨a,j,hm⟩:=bind_some hm
    refine gm c_Ie_17 K_Ie_17 (s_Ie_17 p0 a 0 a) (wO (.res (res_Im d))<|wP (ok_Im p1 (-2147483648) 2147483647 4000 d g)<|v3 (not_f f)<|v3 h<|v1 i<|wO (.res (res_Ih a))<|wP (ok_Ih p1 a j)<|wL (rI .i64) a<|wN a.length<|z0) ?_ (by kernel_rfl)
    obtain ⟨e,he,hm⟩:=bind_some hm
    refine loop_rule (u:=.c c_Ie_17) (K:=K_Ie_17) (Q:=(Post vf_Ie (res_Ie r))) (b:=lp_Ie_17 p0 a) (We:=O_Ie_17 (Post vf_Ie (res_Ie r))) (stJ:=fun s=>s_Ie_17 p0 a s.1 s.2) (s:=(0,a)) (fun s y hb hin hout=>ok_Ie_17 p0 a s.1 s.2 y hb (Post vf_Ie (res_Ie r)) hin hout) he ?_
    rcases e with e | e
    ·show EE c_Ie_41 K_Ie_41 (s_Ie_41 e) _
     exact ok_Ie_41 e r hm
    ·exact congrArg (fun r=>Post vf_Ie (res_Ie r)) (qj hm).symm
 ·exact ge (wO (.res (res_Im d))<|wP (ok_Im p1 (-2147483648) 2147483647 4000 d g)<|u3 (not_t f)<|u4 eT<|wO (.rows (mi ([]:LI)))<|wP (all_le0 (rI .i64) ([]:LI) rfl)<|wP (all_t (rI .i64) ([]:LI) rfl)<|z0) (congrArg res_Ie (qj hm)) (by kernel_rfl)
theorem ok_Ie (p0:Int) (p1 r:LI) (hm:m_Ie p0 p1=some r):Runs ext tbl 53 (as_Ie p0 p1) (res_Ie r):=
 runs_of (vf:=vf_Ie) (by kernel_rfl) rfl (st:=(enter vf_Ie (as_Ie p0 p1)).getD default) (by kernel_rfl) (go_on [] 1000 J0 (ok_Ie_0 p0 p1 r hm) (by kernel_rfl))
theorem ok_Ik_0 (p0:LI) (r:Bool) (hm:m_Ik_0 p0=some r):EE c_Ik_0 K_Ik_0 (s_Ik_0 p0) (Post vf_Ik (res_Ik r)):=by
 obtain ⟨a,b,hm⟩:=bind_some hm
 exact ge (wO (.res (res_Im a))<|wP (ok_Im p0 (-67108864) 67108863 4000 a b)<|z0) (congrArg res_Ik (qj hm)) (by kernel_rfl)
theorem ok_Ik (p0:LI) (r:Bool) (hm:m_Ik p0=some r):Runs ext tbl 69 (as_Ik p0) (res_Ik r):=
 runs_of (vf:=vf_Ik) (by kernel_rfl) rfl (st:=(enter vf_Ik (as_Ik p0)).getD default) (by kernel_rfl) (go_on [] 1000 J0 (ok_Ik_0 p0 r hm) (by kernel_rfl))
def O_Ig_17 (Q:VX→St→Prop) (e:(LI×LI)):Prop:=EE c_Ig_39 K_Ig_39 (s_Ig_39 e.1 e.2) Q
end Go.Proofs.V

namespace Go.Proofs.V
open Go
theorem ok_Ig_33 (p0:Int) (p1 p2:LI) (d:Int) (a f:LI) (y) (hm:m_Ig_33 p0 p1 p2 d a f=some y) (Q)
  (hin:∀ s,y=.inl s→EE c_Ig_17 K_Ig_17 (s_Ig_17 p0 p1 p2 s.1 s.2.1 s.2.2) Q) (hout:∀ e,y=.inr e→O_Ig_17 Q e):EE c_Ig_33 K_Ig_33 (s_Ig_33 p0 p1 p2 d a f) Q:=by
 obtain ⟨g,hm⟩|⟨g,hm⟩:=split_ite hm
 ·obtain ⟨b,h,hm⟩:=bind_some hm
  obtain ⟨c,i,hm⟩:=bind_some hm
  obtain ⟨k,j,hm⟩:=bind_some hm
  exact gw (hin _ (qj hm).symm) (u1 g<|wO (.row ((rI .i64) b))<|wO (.row ((rI .i64) c))<|wO (.rows (mi (a.set (0+Int.toNat d) (w64 (b - c)))))<|wO (zn f.length)<|wO (zn ((a.set (0+Int.toNat d) (w64 (b - c))).length))<|wP (rd_in rfl h)<|wP (at_row (rI .i64) (rd_get0 h))<|wP (rd_nn i)<|wP (at_row (rI .i64) (rd_get i))<|wP (rd_in rfl j)<|wP (put_ob (rI .i64) (w64 (b - c)) 0 (.lit (vI (w64 (b - c)))) (rd_get0 j) (by kernel_rfl) (by kernel_rfl))<|wP (ln f.length)<|wP (lens a.length ((a.set (0+Int.toNat d) (w64 (b - c))).length) (set_len rfl))<|z0) (by kernel_rfl)
 ·exact gw (hin _ (qj hm).symm) (v1 g<|wN f.length<|wN a.length<|z0) (by kernel_rfl)
theorem ok_Ig_42 (a b:LI) (d:Bool) (r:LI×LI) (hm:m_Ig_42 a b d=some r):EE c_Ig_42 K_Ig_42 (s_Ig_42 a b d) (Post vf_Ig (res_Ig r)):=by
 obtain ⟨c,hm⟩|⟨c,hm⟩:=split_ite hm
 ·exact ge (u1 c<|wO (.rows (mi ([]:LI)))<|wO (.rows (mi ([]:LI)))<|wP (all_le0 (rI .i64) ([]:LI) rfl)<|wP (all_t (rI .i64) ([]:LI) rfl)<|wP (all_le0 (rI .i64) ([]:LI) rfl)<|wP (all_t (rI .i64) ([]:LI) rfl)<|z0) (congrArg res_Ig (qj hm)) (by kernel_rfl)
 ·exact ge (v1 c<|wR (rI .i64) a<|wR (rI .i64) b<|z0) (congrArg res_Ig (qj hm)) (by kernel_rfl)
theorem ok_Ig_39 (a b:LI) (r:LI×LI) (hm:m_Ig_39 a b=some r):EE c_Ig_39 K_Ig_39 (s_Ig_39 a b) (Post vf_Ig (res_Ig r)):=by
 obtain ⟨c,e,hm⟩:=bind_some hm
 obtain ⟨d,hm⟩|⟨d,hm⟩:=split_ite hm
 ·obtain ⟨f,g,hm⟩:=bind_some hm
  exact gw (ok_Ig_42 _ _ _ r hm) (wO (zi a)<|wO (.res (res_Ik c))<|wP (all_le (rI .i64) a rfl)<|wP (all_dt (rI .i64) a rfl)<|wP (ok_Ik a c e)<|v2 (not_f d)<|wO (zi b)<|wO (.res (res_Ik f))<|wP (all_le (rI .i64) b rfl)<|wP (all_dt (rI .i64) b rfl)<|wP (ok_Ik b f g)<|v2 (not_f d)<|wN a.length<|wN b.length<|z0) (by kernel_rfl)
 ·exact gw (ok_Ig_42 _ _ _ r hm) (wO (zi a)<|wO (.res (res_Ik c))<|wP (all_le (rI .i64) a rfl)<|wP (all_dt (rI .i64) a rfl)<|wP (ok_Ik a c e)<|u4 (not_t d)<|wN a.length<|wN b.length<|z0) (by kernel_rfl)
theorem ok_Ig_17 (p0:Int) (p1 p2:LI) (f:Int) (b c:LI) (y) (hm:m_Ig_17 p0 p1 p2 f b c=some y) (Q)
  (hin:∀ s,y=.inl s→EE c_Ig_17 K_Ig_17 (s_Ig_17 p0 p1 p2 s.1 s.2.1 s.2.2) Q) (hout:∀ e,y=.inr e→O_Ig_17 Q e):EE c_Ig_17 K_Ig_17 (s_Ig_17 p0 p1 p2 f b c) Q:=by
 obtain ⟨g,hm⟩|⟨g,hm⟩:=split_ite hm
 ·obtain ⟨i,hm⟩|⟨i,hm⟩:=split_ite hm
  ·obtain ⟨d,j,hm⟩:=bind_some hm
   obtain ⟨a,h,hm⟩:=bind_some hm
   obtain ⟨l,k,hm⟩:=bind_some hm
   exact gw (ok_Ig_33 _ _ _ _ _ _ y hm Q hin hout) (u1 g<|u1 i<|wO (.row ((rI .i64) d))<|wO (.row ((rI .i64) a))<|wO (.row ((rI .i64) a))<|wO (.rows (mi (b.set (0+Int.toNat f) (shrI .i64 (w64 ((w64 ((w64 (2*d))+(andI .i64 a 1)))+a)) 1))))<|wO (zn ((b.set (0+Int.toNat f) (shrI .i64 (w64 ((w64 ((w64 (2*d))+(andI .i64 a 1)))+a)) 1)).length))<|wO (zn c.length)<|wP (rd_nn j)<|wP (at_row (rI .i64) (rd_get j))<|wP (rd_nn h)<|wP (at_row (rI .i64) (rd_get h))<|wP (rd_nn h)<|wP (at_row (rI .i64) (rd_get h))<|wP (by decide:(0:Int)≤1)<|wP (rd_in rfl k)<|wP (put_ob (rI .i64) (shrI .i64 (w64 ((w64 ((w64 (2*d))+(andI .i64 a 1)))+a)) 1) 0 (.lit (vI (shrI .i64 (w64 ((w64 ((w64 (2*d))+(andI .i64 a 1)))+a)) 1))) (rd_get0 k) (by kernel_rfl) (by kernel_rfl))<|wP (lens b.length ((b.set (0+Int.toNat f) (shrI .i64 (w64 ((w64 ((w64 (2*d))+(andI .i64 a 1)))+a)) 1)).length) (set_len rfl))<|wP (ln c.length)<|z0) (by kernel_rfl)
  ·exact gw (ok_Ig_33 _ _ _ _ _ _ y hm Q hin hout) (u1 g<|v1 i<|wN b.length<|wN c.length<|z0) (by kernel_rfl)
 ·refine gm c_Ig_39 K_Ig_39 (s_Ig_39 b c) (v1 g<|wN b.length<|wN c.length<|z0) ?_ (by kernel_rfl)
  exact hout (b,c) (qj hm).symm
theorem ok_Ig_5 (p0:Int) (p1 p2:LI) (g:Bool) (r:LI×LI) (hm:m_Ig_5 p0 p1 p2 g=some r):EE c_Ig_5 K_Ig_5 (s_Ig_5 p0 p1 p2 g) (Post vf_Ig (res_Ig r)):=by
 obtain ⟨f,hm⟩|⟨f,hm⟩:=split_ite hm
 ·exact ge (u1 f<|wO (.rows (mi ([]:LI)))<|wO (.rows (mi ([]:LI)))<|wP (all_le0 (rI .i64) ([]:LI) rfl)<|wP (all_t (rI .i64) ([]:LI) rfl)<|wP (all_le0 (rI .i64) ([]:LI) rfl)<|wP (all_t (rI .i64) ([]:LI) rfl)<|z0) (congrArg res_Ig (qj hm)) (by kernel_rfl)
 ·obtain ⟨a,h,hm⟩:=bind_some hm
  obtain ⟨d,i,hm⟩:=bind_some hm
  refine gm c_Ig_17 K_Ig_17 (s_Ig_17 p0 p1 p2 0 a d) (v1 f<|wO (.res (res_Ih a))<|wP (ok_Ih p1 a h)<|wL (rI .i64) a<|wO (.res (res_Ih d))<|wP (ok_Ih p2 d i)<|wL (rI .i64) d<|wL (rI .i64) p1<|wN a.length<|wN d.length<|z0) ?_ (by kernel_rfl)
  obtain ⟨e,he,hm⟩:=bind_some hm
  refine loop_rule (u:=.c c_Ig_17) (K:=K_Ig_17) (Q:=(Post vf_Ig (res_Ig r))) (b:=lp_Ig_17 p0 p1 p2) (We:=O_Ig_17 (Post vf_Ig (res_Ig r))) (stJ:=fun s=>s_Ig_17 p0 p1 p2 s.1 s.2.1 s.2.2) (s:=(0,a,d)) (fun s y hb hin hout=>ok_Ig_17 p0 p1 p2 s.1 s.2.1 s.2.2 y hb (Post vf_Ig (res_Ig r)) hin hout) he ?_
  show EE c_Ig_39 K_Ig_39 (s_Ig_39 e.1 e.2) _
  exact ok_Ig_39 e.1 e.2 r hm
theorem ok_Ig_0 (p0:Int) (p1 p2:LI) (r:LI×LI) (hm:m_Ig_0 p0 p1 p2=some r):EE c_Ig_0 K_Ig_0 (s_Ig_0 p0 p1 p2) (Post vf_Ig (res_Ig r)):=by
 obtain ⟨b,e,hm⟩:=bind_some hm
 obtain ⟨c,hm⟩|⟨c,hm⟩:=split_ite hm
 ·obtain ⟨d,f,hm⟩:=bind_some hm
  obtain ⟨a,hm⟩|⟨a,hm⟩:=split_ite hm
  ·obtain ⟨g,hm⟩|⟨g,hm⟩:=split_ite hm
   ·exact gw (ok_Ig_5 _ _ _ _ r hm) (wO (.res (res_Im b))<|wP (ok_Im p1 (-268435456) 268435455 4000 b e)<|v2 (not_f c)<|wO (.res (res_Im d))<|wP (ok_Im p2 (-268435456) 268435455 4000 d f)<|v2 (not_f c)<|v2 (not_f a)<|wL (rI .i64) p1<|v2 (not_f a)<|wL (rI .i64) p2<|v2 (not_f a)<|u3 g<|u3 eT<|z0) (by kernel_rfl)
   ·obtain ⟨h,hm⟩|⟨h,hm⟩:=split_ite hm
    ·exact gw (ok_Ig_5 _ _ _ _ r hm) (wO (.res (res_Im b))<|wP (ok_Im p1 (-268435456) 268435455 4000 b e)<|v2 (not_f c)<|wO (.res (res_Im d))<|wP (ok_Im p2 (-268435456) 268435455 4000 d f)<|v2 (not_f c)<|v2 (not_f a)<|wL (rI .i64) p1<|v2 (not_f a)<|wL (rI .i64) p2<|v2 (not_f a)<|v3 g<|u3 h<|z0) (by kernel_rfl)
    ·exact gw (ok_Ig_5 _ _ _ _ r hm) (wO (.res (res_Im b))<|wP (ok_Im p1 (-268435456) 268435455 4000 b e)<|v2 (not_f c)<|wO (.res (res_Im d))<|wP (ok_Im p2 (-268435456) 268435455 4000 d f)<|v2 (not_f c)<|v2 (not_f a)<|wL (rI .i64) p1<|v2 (not_f a)<|wL (rI .i64) p2<|v2 (not_f a)<|v3 g<|v3 h<|z0) (by kernel_rfl)
  ·exact gw (ok_Ig_5 _ _ _ _ r hm) (wO (.res (res_Im b))<|wP (ok_Im p1 (-268435456) 268435455 4000 b e)<|v2 (not_f c)<|wO (.res (res_Im d))<|wP (ok_Im p2 (-268435456) 268435455 4000 d f)<|v2 (not_f c)<|u4 (not_t a)<|u2 (not_t a)<|u4 eT<|u2 eT<|z0) (by kernel_rfl)
 ·exact gw (ok_Ig_5 _ _ _ _ r hm) (wO (.res (res_Im b))<|wP (ok_Im p1 (-268435456) 268435455 4000 b e)<|u4 (not_t c)<|u4 eT<|u4 eT<|u4 eT<|z0) (by kernel_rfl)
theorem ok_Ig (p0:Int) (p1 p2:LI) (r:LI×LI) (hm:m_Ig p0 p1 p2=some r):Runs ext tbl 54 (as_Ig p0 p1 p2) (res_Ig r):=
 runs_of (vf:=vf_Ig) (by kernel_rfl) rfl (st:=(enter vf_Ig (as_Ig p0 p1 p2)).getD default) (by kernel_rfl) (go_on [] 1000 J0 (ok_Ig_0 p0 p1 p2 r hm) (by kernel_rfl))
def O_Ib_209 (p0:LI) (a b c d f g h i j k l m n o p q r:Int) (s:(List LI)) (t u:LI) (v:(List LI)) (Q:VX→St→Prop) (e:(Int×LI×Int×Bool)):Prop:=EE c_Ib_217 K_Ib_217 (s_Ib_217 p0 a b c d f g h i j k l m n o p q r s t u v e.1 e.2.1 e.2.2.1 e.2.2.2) Q
def O_Ib_191 (p0:LI) (a b c d f g h i j k l m n o:Int) (p:(List LI)) (q:LI) (r:(List LI)) (Q:VX→St→Prop) (e:(Zb)⊕((LI×Int×Bool×LI))):Prop:=match e with | .inl e=>Q=Post vf_Ib (res_Ib e) | .inr e=>EE c_Ib_226 K_Ib_226 (s_Ib_226 p0 a b c d f g h i j k l m n o p q r e.1 e.2.1 e.2.2.1 e.2.2.2) Q
def O_Ib_151 (p0:LI) (a b c d f g h i j k l:Int) (m:(List LI)) (n:LI) (o:(List LI)) (Q:VX→St→Prop) (e:(Zb)⊕((LI×Int×Bool×LI))):Prop:=match e with | .inl e=>Q=Post vf_Ib (res_Ib e) | .inr e=>EE c_Ib_227 K_Ib_227 (s_Ib_227 p0 a b c d f g h i j k l m n o e.1 e.2.1 e.2.2.1 e.2.2.2) Q
def O_Ib_118 (p0:LI) (a b c d f g h i j k l:Int) (m:(List LI)) (n:LI) (o:(List LI)) (Q:VX→St→Prop) (e:(LI×Int×Bool×LI)):Prop:=EE c_Ib_128 K_Ib_128 (s_Ib_128 p0 a b c d f g h i j k l m n o e.1 e.2.1 e.2.2.1 e.2.2.2) Q
def O_Ib_306 (p0:LI) (a b c:Int) (d:Int×Ze) (f g h:Int) (Q:VX→St→Prop) (e:(Zb)⊕(((List LI)))):Prop:=match e with | .inl e=>Q=Post vf_Ib (res_Ib e) | .inr e=>EE c_Ib_326 K_Ib_326 (s_Ib_326 p0 a b c d f g h e) Q
def O_Ib_264 (p0:LI) (a b c d f:Int) (g:Int×Ze) (h i j:Int) (k:(List LI)) (Q:VX→St→Prop) (e:(Zb)⊕(((List LI)))):Prop:=match e with | .inl e=>Q=Post vf_Ib (res_Ib e) | .inr e=>EE c_Ib_286 K_Ib_286 (s_Ib_286 p0 a b c d f g h i j k e) Q
def O_Ib_85 (p0:LI) (a b c d f g h i j:Int) (k:(List LI)) (Q:VX→St→Prop) (e:(Zb)⊕((LI×Int×Bool×(List LI)×LI))):Prop:=match e with | .inl e=>Q=Post vf_Ib (res_Ib e) | .inr e=>EE c_Ib_231 K_Ib_231 (s_Ib_231 p0 a b c d f g h i j k e.1 e.2.1 e.2.2.1 e.2.2.2.1 e.2.2.2.2) Q
def O_Ib_46 (p0:LI) (a b c:Int) (Q:VX→St→Prop) (e:(Zb)⊕((LI×Int×Bool×(List LI)))):Prop:=match e with | .inl e=>Q=Post vf_Ib (res_Ib e) | .inr e=>EE c_Ib_327 K_Ib_327 (s_Ib_327 p0 a b c e.1 e.2.1 e.2.2.1 e.2.2.2) Q
theorem ok_Ib_217 (p0:LI) (j k l m n o p q d r t u D F v w x:Int) (f:(List LI)) (g b:LI) (h:(List LI)) (z:Int) (A:LI) (B:Int) (C:Bool) (y) (hm:m_Ib_217 p0 j k l m n o p q d r t u D F v w x f g b h z A B C=some y) (Q)
  (hin:∀ s,y=.inl s→EE c_Ib_191 K_Ib_191 (s_Ib_191 p0 j k l m n o p q d r t u D v w x f g h s.1 s.2.1 s.2.2.1 s.2.2.2.1 s.2.2.2.2) Q) (hout:∀ e,y=.inr e→O_Ib_191 p0 j k l m n o p q r t u v w x f g h Q e):EE c_Ib_217 K_Ib_217 (s_Ib_217 p0 j k l m n o p q d r t u D F v w x f g b h z A B C) Q:=by
 obtain ⟨L,G,hm⟩:=bind_some hm
 obtain ⟨i,H,hm⟩:=bind_some hm
 obtain ⟨a,I,hm⟩:=bind_some hm
 obtain ⟨M,J,hm⟩:=bind_some hm
 obtain ⟨E,hm⟩|⟨E,hm⟩:=split_ite hm
 ·obtain ⟨c,K,hm⟩:=bind_some hm
  have hQ:Q=Post vf_Ib (res_Ib c):=hout (.inl c) (qj hm).symm
  subst hQ
  exact ge (wO (.res (res_Iq i))<|wO (.res (res_If a))<|wO (.rows (mi ([a]:LI)))<|wO (zn 1)<|wO (.rows (mi (b++([a]:LI))))<|wO (zn ((b++([a]:LI)).length))<|wO zT<|wO (.res (res_Ic c))<|wO (zn c.sound.channels.length)<|wO (.rows (List.map (rL (rI .i64)) c.sound.channels))<|wP (ck_p G)<|wP (ok_Iq (Ze.mk A B C) d i H)<|wP (ok_If (orI .u64 (shlI .u64 z d) i.1) a I)<|wP (Eq.refl (mi ([a]:LI)))<|wP (len_map (rI .i64) (show 1=([a]:LI).length from rfl))<|wP (all_le (rI .i64) ([a]:LI) rfl)<|wP (app_ck (rI .i64) b ([a]:LI) rfl rfl J)<|wP (app_tell (rI .i64) b ([a]:LI) rfl rfl)<|wP (len_map (rI .i64) (show (b++([a]:LI)).length=(b++([a]:LI)).length from rfl))<|wP E<|wP (ok_Ic 2 c K)<|wP (len_map (rL (rI .i64)) (show c.sound.channels.length=c.sound.channels.length from rfl))<|wP (all_le0 (rL (rI .i64)) c.sound.channels rfl)<|wP (all_t (rL (rI .i64)) c.sound.channels rfl)<|z0) (rfl:res_Ib c=res_Ib c) (by kernel_rfl)
 ·exact gw (hin _ (qj hm).symm) (wO (.res (res_Iq i))<|wO (.res (res_If a))<|wO (.rows (mi ([a]:LI)))<|wO (zn 1)<|wO (.rows (mi (b++([a]:LI))))<|wO (zn ((b++([a]:LI)).length))<|wO zF<|wO (zn f.length)<|wO (zn g.length)<|wO (zn ((b++([a]:LI)).length))<|wO (zn (([]:List LI).length))<|wO (zn h.length)<|wP (ck_p G)<|wP (ok_Iq (Ze.mk A B C) d i H)<|wP (ok_If (orI .u64 (shlI .u64 z d) i.1) a I)<|wP (Eq.refl (mi ([a]:LI)))<|wP (len_map (rI .i64) (show 1=([a]:LI).length from rfl))<|wP (all_le (rI .i64) ([a]:LI) rfl)<|wP (app_ck (rI .i64) b ([a]:LI) rfl rfl J)<|wP (app_tell (rI .i64) b ([a]:LI) rfl rfl)<|wP (len_map (rI .i64) (show (b++([a]:LI)).length=(b++([a]:LI)).length from rfl))<|wP E<|wP (ln f.length)<|wP (ln g.length)<|wP (lens ((b++([a]:LI)).length) ((b++([a]:LI)).length) rfl)<|wP (lens (([]:List LI).length) (([]:List LI).length) rfl)<|wP (ln h.length)<|z0) (by kernel_rfl)
theorem ok_Ib_209 (p0:LI) (i j k l m n o p q r t u v w x z A:Int) (c:(List LI)) (d f:LI) (g:(List LI)) (B:Int) (C:LI) (D:Int) (E:Bool) (y) (hm:m_Ib_209 p0 i j k l m n o p q r t u v w x z A c d f g B C D E=some y) (Q)
  (hin:∀ s,y=.inl s→EE c_Ib_209 K_Ib_209 (s_Ib_209 p0 i j k l m n o p q r t u v w x z A c d f g s.1 s.2.1 s.2.2.1 s.2.2.2) Q) (hout:∀ e,y=.inr e→O_Ib_209 p0 i j k l m n o p q r t u v w x z A c d f g Q e):EE c_Ib_209 K_Ib_209 (s_Ib_209 p0 i j k l m n o p q r t u v w x z A c d f g B C D E) Q:=by
 obtain ⟨a,F,hm⟩:=bind_some hm
 obtain ⟨h,hm⟩|⟨h,hm⟩:=split_ite hm
 ·obtain ⟨G,hm⟩|⟨G,hm⟩:=split_ite hm
  ·refine gm c_Ib_217 K_Ib_217 (s_Ib_217 p0 i j k l m n o p q r t u v w x z A c d f g B a.2.b a.2.at_ a.2.short) (wO (.res (res_Io a))<|wP (ok_Io (Ze.mk C D E) a F)<|u4 h<|u2 h<|v1 (not_f G)<|wK c.length d.length f.length<|wO (zn (([]:List LI).length))<|wP (lens (([]:List LI).length) (([]:List LI).length) rfl)<|wN g.length<|z0) ?_ (by kernel_rfl)
   exact hout (B,a.2.b,a.2.at_,a.2.short) (qj hm).symm
  ·exact gw (hin _ (qj hm).symm) (wO (.res (res_Io a))<|wP (ok_Io (Ze.mk C D E) a F)<|u4 h<|u2 h<|u1 (not_t G)<|wK c.length d.length f.length<|wO (zn (([]:List LI).length))<|wP (lens (([]:List LI).length) (([]:List LI).length) rfl)<|wN g.length<|z0) (by kernel_rfl)
 ·refine gm c_Ib_217 K_Ib_217 (s_Ib_217 p0 i j k l m n o p q r t u v w x z A c d f g B a.2.b a.2.at_ a.2.short) (wO (.res (res_Io a))<|wP (ok_Io (Ze.mk C D E) a F)<|v4 h<|v2 h<|v1 eF<|wK c.length d.length f.length<|wO (zn (([]:List LI).length))<|wP (lens (([]:List LI).length) (([]:List LI).length) rfl)<|wN g.length<|z0) ?_ (by kernel_rfl)
  exact hout (B,a.2.b,a.2.at_,a.2.short) (qj hm).symm
theorem ok_Ib_226 (p0:LI) (d f g h i j k q l r t m n o:Int) (a:(List LI)) (b:LI) (c:(List LI)) (u:LI) (v:Int) (w:Bool) (p:LI) (y) (hm:m_Ib_226 p0 d f g h i j k q l r t m n o a b c u v w p=some y) (Q)
  (hin:∀ s,y=.inl s→EE c_Ib_151 K_Ib_151 (s_Ib_151 p0 d f g h i j k l m n o a b c s.1 s.2.1 s.2.2.1 s.2.2.2.1 s.2.2.2.2.1 s.2.2.2.2.2.1 s.2.2.2.2.2.2) Q) (hout:∀ e,y=.inr e→O_Ib_151 p0 d f g h i j k l m n o a b c Q e):EE c_Ib_226 K_Ib_226 (s_Ib_226 p0 d f g h i j k q l r t m n o a b c u v w p) Q:=by
 exact gw (hin _ (qj hm).symm) (wK a.length b.length p.length<|wO (zn (([]:List LI).length))<|wP (lens (([]:List LI).length) (([]:List LI).length) rfl)<|wN c.length<|z0) (by kernel_rfl)
theorem ok_Ib_191 (p0:LI) (i j k l m n o p A q r t B v w x:Int) (f:(List LI)) (g:LI) (h:(List LI)) (C:Int) (D:LI) (E:Int) (F:Bool) (a:LI) (y) (hm:m_Ib_191 p0 i j k l m n o p A q r t B v w x f g h C D E F a=some y) (Q)
  (hin:∀ s,y=.inl s→EE c_Ib_191 K_Ib_191 (s_Ib_191 p0 i j k l m n o p A q r t B v w x f g h s.1 s.2.1 s.2.2.1 s.2.2.2.1 s.2.2.2.2) Q) (hout:∀ e,y=.inr e→O_Ib_191 p0 i j k l m n o p q r t v w x f g h Q e):EE c_Ib_191 K_Ib_191 (s_Ib_191 p0 i j k l m n o p A q r t B v w x f g h C D E F a) Q:=by
 obtain ⟨H,hm⟩|⟨H,hm⟩:=split_ite hm
 ·obtain ⟨I,hm⟩|⟨I,hm⟩:=split_ite hm
  ·obtain ⟨G,L,hm⟩:=bind_some hm
   obtain ⟨d,M,hm⟩:=bind_some hm
   obtain ⟨P,N,hm⟩:=bind_some hm
   obtain ⟨J,hm⟩|⟨J,hm⟩:=split_ite hm
   ·obtain ⟨z,O,hm⟩:=bind_some hm
    have hQ:Q=Post vf_Ib (res_Ib z):=hout (.inl z) (qj hm).symm
    subst hQ
    exact ge (u1 H<|u1 I<|wO (.res (res_Iq G))<|wO (.res (res_In d))<|wO (.rows (mi ([d]:LI)))<|wO (zn 1)<|wO (.rows (mi (a++([d]:LI))))<|wO (zn ((a++([d]:LI)).length))<|wO zT<|wO (.res (res_Ic z))<|wO (zn z.sound.channels.length)<|wO (.rows (List.map (rL (rI .i64)) z.sound.channels))<|wP (ok_Iq (Ze.mk D E F) 32 G L)<|wP (ok_In G.1 32 d M)<|wP (Eq.refl (mi ([d]:LI)))<|wP (len_map (rI .i64) (show 1=([d]:LI).length from rfl))<|wP (all_le (rI .i64) ([d]:LI) rfl)<|wP (app_ck (rI .i64) a ([d]:LI) rfl rfl N)<|wP (app_tell (rI .i64) a ([d]:LI) rfl rfl)<|wP (len_map (rI .i64) (show (a++([d]:LI)).length=(a++([d]:LI)).length from rfl))<|wP J<|wP (ok_Ic 2 z O)<|wP (len_map (rL (rI .i64)) (show z.sound.channels.length=z.sound.channels.length from rfl))<|wP (all_le0 (rL (rI .i64)) z.sound.channels rfl)<|wP (all_t (rL (rI .i64)) z.sound.channels rfl)<|z0) (rfl:res_Ib z=res_Ib z) (by kernel_rfl)
   ·exact gw (hin _ (qj hm).symm) (u1 H<|u1 I<|wO (.res (res_Iq G))<|wO (.res (res_In d))<|wO (.rows (mi ([d]:LI)))<|wO (zn 1)<|wO (.rows (mi (a++([d]:LI))))<|wO (zn ((a++([d]:LI)).length))<|wO zF<|wO (zn f.length)<|wO (zn g.length)<|wO (zn ((a++([d]:LI)).length))<|wO (zn (([]:List LI).length))<|wO (zn h.length)<|wP (ok_Iq (Ze.mk D E F) 32 G L)<|wP (ok_In G.1 32 d M)<|wP (Eq.refl (mi ([d]:LI)))<|wP (len_map (rI .i64) (show 1=([d]:LI).length from rfl))<|wP (all_le (rI .i64) ([d]:LI) rfl)<|wP (app_ck (rI .i64) a ([d]:LI) rfl rfl N)<|wP (app_tell (rI .i64) a ([d]:LI) rfl rfl)<|wP (len_map (rI .i64) (show (a++([d]:LI)).length=(a++([d]:LI)).length from rfl))<|wP J<|wP (ln f.length)<|wP (ln g.length)<|wP (lens ((a++([d]:LI)).length) ((a++([d]:LI)).length) rfl)<|wP (lens (([]:List LI).length) (([]:List LI).length) rfl)<|wP (ln h.length)<|z0) (by kernel_rfl)
  ·refine gm c_Ib_209 K_Ib_209 (s_Ib_209 p0 i j k l m n o p A q r t B C v w x f g a h 0 D E F) (u1 H<|v1 I<|wK f.length g.length a.length<|wO (zn (([]:List LI).length))<|wP (lens (([]:List LI).length) (([]:List LI).length) rfl)<|wN h.length<|z0) ?_ (by kernel_rfl)
   obtain ⟨e,he,hm⟩:=bind_some hm
   refine loop_rule (u:=.c c_Ib_209) (K:=K_Ib_209) (Q:=Q) (b:=lp_Ib_209 p0 i j k l m n o p A q r t B C v w x f g a h) (We:=O_Ib_209 p0 i j k l m n o p A q r t B C v w x f g a h Q) (stJ:=fun s=>s_Ib_209 p0 i j k l m n o p A q r t B C v w x f g a h s.1 s.2.1 s.2.2.1 s.2.2.2) (s:=(0,D,E,F)) (fun s y hb hin hout=>ok_Ib_209 p0 i j k l m n o p A q r t B C v w x f g a h s.1 s.2.1 s.2.2.1 s.2.2.2 y hb Q hin hout) he ?_
   show EE c_Ib_217 K_Ib_217 (s_Ib_217 p0 i j k l m n o p A q r t B C v w x f g a h e.1 e.2.1 e.2.2.1 e.2.2.2) _
   exact ok_Ib_217 p0 i j k l m n o p A q r t B C v w x f g a h e.1 e.2.1 e.2.2.1 e.2.2.2 y hm Q hin hout
 ·refine gm c_Ib_226 K_Ib_226 (s_Ib_226 p0 i j k l m n o p q r t v w x f g h D E F a) (v1 H<|wK f.length g.length a.length<|wO (zn (([]:List LI).length))<|wP (lens (([]:List LI).length) (([]:List LI).length) rfl)<|wN h.length<|z0) ?_ (by kernel_rfl)
  exact hout (.inr (D,E,F,a)) (qj hm).symm
theorem ok_Ib_187 (p0:LI) (g h i j k l m r n t v:Int) (w:Int×Ze) (o p q:Int) (a:(List LI)) (d A:LI) (f:(List LI)) (x z:Int) (y) (hm:m_Ib_187 p0 g h i j k l m r n t v w o p q a d A f x z=some y) (Q)
  (hin:∀ s,y=.inl s→EE c_Ib_151 K_Ib_151 (s_Ib_151 p0 g h i j k l m n o p q a d f s.1 s.2.1 s.2.2.1 s.2.2.2.1 s.2.2.2.2.1 s.2.2.2.2.2.1 s.2.2.2.2.2.2) Q) (hout:∀ e,y=.inr e→O_Ib_151 p0 g h i j k l m n o p q a d f Q e):EE c_Ib_187 K_Ib_187 (s_Ib_187 p0 g h i j k l m r n t v w o p q a d A f x z) Q:=by
 refine gm c_Ib_191 K_Ib_191 (s_Ib_191 p0 g h i j k l m r x n t v z o p q a d f 0 w.2.b w.2.at_ w.2.short A) (wK a.length d.length A.length<|wO (zn (([]:List LI).length))<|wP (lens (([]:List LI).length) (([]:List LI).length) rfl)<|wN f.length<|z0) ?_ (by kernel_rfl)
 obtain ⟨e,he,hm⟩:=bind_some hm
 refine loop_rule (u:=.c c_Ib_191) (K:=K_Ib_191) (Q:=Q) (b:=lp_Ib_191 p0 g h i j k l m r x n t v z o p q a d f) (We:=O_Ib_191 p0 g h i j k l m r n t v o p q a d f Q) (stJ:=fun s=>s_Ib_191 p0 g h i j k l m r x n t v z o p q a d f s.1 s.2.1 s.2.2.1 s.2.2.2.1 s.2.2.2.2) (s:=(0,w.2.b,w.2.at_,w.2.short,A)) (fun s y hb hin hout=>ok_Ib_191 p0 g h i j k l m r x n t v z o p q a d f s.1 s.2.1 s.2.2.1 s.2.2.2.1 s.2.2.2.2 y hb Q hin hout) he ?_
 rcases e with e | e
 ·exact hout (.inl e) (qj hm).symm
 ·show EE c_Ib_226 K_Ib_226 (s_Ib_226 p0 g h i j k l m r n t v o p q a d f e.1 e.2.1 e.2.2.1 e.2.2.2) _
  exact ok_Ib_226 p0 g h i j k l m r n t v o p q a d f e.1 e.2.1 e.2.2.1 e.2.2.2 y hm Q hin hout
theorem ok_Ib_227 (p0:LI) (g h i j k l b p m n o:Int) (c:(List LI)) (d:LI) (f:(List LI)) (q:LI) (r:Int) (t:Bool) (a:LI) (y) (hm:m_Ib_227 p0 g h i j k l b p m n o c d f q r t a=some y) (Q)
  (hin:∀ s,y=.inl s→EE c_Ib_85 K_Ib_85 (s_Ib_85 p0 g h i j k l m n o f s.1 s.2.1 s.2.2.1 s.2.2.2.1 s.2.2.2.2.1 s.2.2.2.2.2) Q) (hout:∀ e,y=.inr e→O_Ib_85 p0 g h i j k l m n o f Q e):EE c_Ib_227 K_Ib_227 (s_Ib_227 p0 g h i j k l b p m n o c d f q r t a) Q:=by
 obtain ⟨w,u,hm⟩:=bind_some hm
 obtain ⟨x,v,hm⟩:=bind_some hm
 exact gw (hin _ (qj hm).symm) (wR (rI .i64) a<|wO (.rows (List.map (rL (rI .i64)) ([a]:List LI)))<|wO (zn 1)<|wO (.rows (List.map (rL (rI .i64)) (c++([a]:List LI))))<|wO (zn ((c++([a]:List LI)).length))<|wO (.rows (mi ([b]:LI)))<|wO (zn 1)<|wO (.rows (mi (d++([b]:LI))))<|wO (zn ((d++([b]:LI)).length))<|wO (zn ((c++([a]:List LI)).length))<|wO (zn ((d++([b]:LI)).length))<|wO (zn (([]:List LI).length))<|wO (zn f.length)<|wP (Eq.refl (List.map (rL (rI .i64)) ([a]:List LI)))<|wP (len_map (rL (rI .i64)) (show 1=([a]:List LI).length from rfl))<|wP (all_eq (rL (rI .i64)) ([a]:List LI) rfl)<|wP (all_le (rL (rI .i64)) ([a]:List LI) rfl)<|wP (app_ck_ro (rL (rI .i64)) c ([a]:List LI) rfl u)<|wP (app_tell_ro (rL (rI .i64)) c ([a]:List LI) rfl)<|wP (len_map (rL (rI .i64)) (show (c++([a]:List LI)).length=(c++([a]:List LI)).length from rfl))<|wP (Eq.refl (mi ([b]:LI)))<|wP (len_map (rI .i64) (show 1=([b]:LI).length from rfl))<|wP (all_le (rI .i64) ([b]:LI) rfl)<|wP (app_ck (rI .i64) d ([b]:LI) rfl rfl v)<|wP (app_tell (rI .i64) d ([b]:LI) rfl rfl)<|wP (len_map (rI .i64) (show (d++([b]:LI)).length=(d++([b]:LI)).length from rfl))<|wP (lens ((c++([a]:List LI)).length) ((c++([a]:List LI)).length) rfl)<|wP (lens ((d++([b]:LI)).length) ((d++([b]:LI)).length) rfl)<|wP (lens (([]:List LI).length) (([]:List LI).length) rfl)<|wP (ln f.length)<|z0) (by kernel_rfl)
theorem ok_Ib_151 (p0:LI) (n o p q r t u v w x z:Int) (c:(List LI)) (d:LI) (f:(List LI)) (E F G:Int) (g:LI) (h:Int) (i:Bool) (k:LI) (y) (hm:m_Ib_151 p0 n o p q r t u v w x z c d f E F G g h i k=some y) (Q)
  (hin:∀ s,y=.inl s→EE c_Ib_151 K_Ib_151 (s_Ib_151 p0 n o p q r t u v w x z c d f s.1 s.2.1 s.2.2.1 s.2.2.2.1 s.2.2.2.2.1 s.2.2.2.2.2.1 s.2.2.2.2.2.2) Q) (hout:∀ e,y=.inr e→O_Ib_151 p0 n o p q r t u v w x z c d f Q e):EE c_Ib_151 K_Ib_151 (s_Ib_151 p0 n o p q r t u v w x z c d f E F G g h i k) Q:=by
 obtain ⟨l,hm⟩|⟨l,hm⟩:=split_ite hm
 ·obtain ⟨j,B,hm⟩:=bind_some hm
  obtain ⟨A,hm⟩|⟨A,hm⟩:=split_ite hm
  ·obtain ⟨b,m,hm⟩:=bind_some hm
   have hQ:Q=Post vf_Ib (res_Ib b):=hout (.inl b) (qj hm).symm
   subst hQ
   exact ge (u1 l<|wO (.res (res_Iq j))<|wP (ok_Iq (Ze.mk g h i) 5 j B)<|u1 A<|wO (.res (res_Ic b))<|wO (zn b.sound.channels.length)<|wO (.rows (List.map (rL (rI .i64)) b.sound.channels))<|wP (ok_Ic 2 b m)<|wP (len_map (rL (rI .i64)) (show b.sound.channels.length=b.sound.channels.length from rfl))<|wP (all_le0 (rL (rI .i64)) b.sound.channels rfl)<|wP (all_t (rL (rI .i64)) b.sound.channels rfl)<|z0) (rfl:res_Ib b=res_Ib b) (by kernel_rfl)
  ·obtain ⟨m,hm⟩|⟨m,hm⟩:=split_ite hm
   ·obtain ⟨a,C,hm⟩:=bind_some hm
    have hQ:Q=Post vf_Ib (res_Ib a):=hout (.inl a) (qj hm).symm
    subst hQ
    exact ge (u1 l<|wO (.res (res_Iq j))<|wP (ok_Iq (Ze.mk g h i) 5 j B)<|v1 A<|u1 m<|wO (.res (res_Ic a))<|wO (zn a.sound.channels.length)<|wO (.rows (List.map (rL (rI .i64)) a.sound.channels))<|wP (ok_Ic 5 a C)<|wP (len_map (rL (rI .i64)) (show a.sound.channels.length=a.sound.channels.length from rfl))<|wP (all_le0 (rL (rI .i64)) a.sound.channels rfl)<|wP (all_t (rL (rI .i64)) a.sound.channels rfl)<|z0) (rfl:res_Ib a=res_Ib a) (by kernel_rfl)
   ·obtain ⟨a,C,hm⟩:=bind_some hm
    obtain ⟨D,hm⟩|⟨D,hm⟩:=split_ite hm
    ·exact gw (ok_Ib_187 _ _ _ _ _ _ _ _ _ _ _ _ _ _ _ _ _ _ _ _ _ _ y hm Q hin hout) (u1 l<|wO (.res (res_Iq j))<|wP (ok_Iq (Ze.mk g h i) 5 j B)<|v1 A<|v1 m<|wP (ck_p C)<|u1 D<|wK c.length d.length k.length<|wO (zn (([]:List LI).length))<|wP (lens (([]:List LI).length) (([]:List LI).length) rfl)<|wN f.length<|z0) (by kernel_rfl)
    ·exact gw (ok_Ib_187 _ _ _ _ _ _ _ _ _ _ _ _ _ _ _ _ _ _ _ _ _ _ y hm Q hin hout) (u1 l<|wO (.res (res_Iq j))<|wP (ok_Iq (Ze.mk g h i) 5 j B)<|v1 A<|v1 m<|wP (ck_p C)<|v1 D<|wK c.length d.length k.length<|wO (zn (([]:List LI).length))<|wP (lens (([]:List LI).length) (([]:List LI).length) rfl)<|wN f.length<|z0) (by kernel_rfl)
 ·refine gm c_Ib_227 K_Ib_227 (s_Ib_227 p0 n o p q r t u v w x z c d f g h i k) (v1 l<|wK c.length d.length k.length<|wO (zn (([]:List LI).length))<|wP (lens (([]:List LI).length) (([]:List LI).length) rfl)<|wN f.length<|z0) ?_ (by kernel_rfl)
  exact hout (.inr (g,h,i,k)) (qj hm).symm
theorem ok_Ib_128 (p0:LI) (i j k f l m n v o p q:Int) (r:(List LI)) (t:LI) (h:(List LI)) (w:LI) (x:Int) (z:Bool) (A:LI) (y) (hm:m_Ib_128 p0 i j k f l m n v o p q r t h w x z A=some y) (Q)
  (hin:∀ s,y=.inl s→EE c_Ib_85 K_Ib_85 (s_Ib_85 p0 i j k f l m o p q h s.1 s.2.1 s.2.2.1 s.2.2.2.1 s.2.2.2.2.1 s.2.2.2.2.2) Q) (hout:∀ e,y=.inr e→O_Ib_85 p0 i j k f l m o p q h Q e):EE c_Ib_128 K_Ib_128 (s_Ib_128 p0 i j k f l m n v o p q r t h w x z A) Q:=by
 obtain ⟨a,D,hm⟩:=bind_some hm
 obtain ⟨B,hm⟩|⟨B,hm⟩:=split_ite hm
 ·obtain ⟨d,C,hm⟩:=bind_some hm
  have hQ:Q=Post vf_Ib (res_Ib d):=hout (.inl d) (qj hm).symm
  subst hQ
  exact ge (wO (.res (res_Iq a))<|wP (ok_Iq (Ze.mk w x z) 3 a D)<|u1 B<|wO (.res (res_Ic d))<|wO (zn d.sound.channels.length)<|wO (.rows (List.map (rL (rI .i64)) d.sound.channels))<|wP (ok_Ic 2 d C)<|wP (len_map (rL (rI .i64)) (show d.sound.channels.length=d.sound.channels.length from rfl))<|wP (all_le0 (rL (rI .i64)) d.sound.channels rfl)<|wP (all_t (rL (rI .i64)) d.sound.channels rfl)<|z0) (rfl:res_Ib d=res_Ib d) (by kernel_rfl)
 ·obtain ⟨d,C,hm⟩:=bind_some hm
  obtain ⟨E,hm⟩|⟨E,hm⟩:=split_ite hm
  ·obtain ⟨g,F,hm⟩:=bind_some hm
   refine gm c_Ib_151 K_Ib_151 (s_Ib_151 p0 i j k f l m n v o p q r t h (w64 a.1) (shlI .i64 1 (w64 a.1)) 0 a.2.b a.2.at_ a.2.short A) (wO (.res (res_Iq a))<|wP (ok_Iq (Ze.mk w x z) 3 a D)<|v1 B<|wO (.res (res_Ii d))<|wP (ok_Ii n (w64 a.1) f d C)<|v1 (not_f E)<|wP (ck_p F)<|wK r.length t.length A.length<|wO (zn (([]:List LI).length))<|wP (lens (([]:List LI).length) (([]:List LI).length) rfl)<|wN h.length<|z0) ?_ (by kernel_rfl)
   obtain ⟨e,he,hm⟩:=bind_some hm
   refine loop_rule (u:=.c c_Ib_151) (K:=K_Ib_151) (Q:=Q) (b:=lp_Ib_151 p0 i j k f l m n v o p q r t h) (We:=O_Ib_151 p0 i j k f l m n v o p q r t h Q) (stJ:=fun s=>s_Ib_151 p0 i j k f l m n v o p q r t h s.1 s.2.1 s.2.2.1 s.2.2.2.1 s.2.2.2.2.1 s.2.2.2.2.2.1 s.2.2.2.2.2.2) (s:=((w64 a.1),(shlI .i64 1 (w64 a.1)),0,a.2.b,a.2.at_,a.2.short,A)) (fun s y hb hin hout=>ok_Ib_151 p0 i j k f l m n v o p q r t h s.1 s.2.1 s.2.2.1 s.2.2.2.1 s.2.2.2.2.1 s.2.2.2.2.2.1 s.2.2.2.2.2.2 y hb Q hin hout) he ?_
   rcases e with e | e
   ·exact hout (.inl e) (qj hm).symm
   ·show EE c_Ib_227 K_Ib_227 (s_Ib_227 p0 i j k f l m n v o p q r t h e.1 e.2.1 e.2.2.1 e.2.2.2) _
    exact ok_Ib_227 p0 i j k f l m n v o p q r t h e.1 e.2.1 e.2.2.1 e.2.2.2 y hm Q hin hout
  ·obtain ⟨g,F,hm⟩:=bind_some hm
   have hQ:Q=Post vf_Ib (res_Ib g):=hout (.inl g) (qj hm).symm
   subst hQ
   exact ge (wO (.res (res_Iq a))<|wP (ok_Iq (Ze.mk w x z) 3 a D)<|v1 B<|wO (.res (res_Ii d))<|wP (ok_Ii n (w64 a.1) f d C)<|u1 (not_t E)<|wO (.res (res_Ic g))<|wO (zn g.sound.channels.length)<|wO (.rows (List.map (rL (rI .i64)) g.sound.channels))<|wP (ok_Ic 5 g F)<|wP (len_map (rL (rI .i64)) (show g.sound.channels.length=g.sound.channels.length from rfl))<|wP (all_le0 (rL (rI .i64)) g.sound.channels rfl)<|wP (all_t (rL (rI .i64)) g.sound.channels rfl)<|z0) (rfl:res_Ib g=res_Ib g) (by kernel_rfl)
theorem ok_Ib_118 (p0:LI) (g h i j k l m n o p q:Int) (c:(List LI)) (d:LI) (f:(List LI)) (x:Int) (r:LI) (t:Int) (u:Bool) (b:LI) (y) (hm:m_Ib_118 p0 g h i j k l m n o p q c d f x r t u b=some y) (Q)
  (hin:∀ s,y=.inl s→EE c_Ib_118 K_Ib_118 (s_Ib_118 p0 g h i j k l m n o p q c d f s.1 s.2.1 s.2.2.1 s.2.2.2.1 s.2.2.2.2) Q) (hout:∀ e,y=.inr e→O_Ib_118 p0 g h i j k l m n o p q c d f Q e):EE c_Ib_118 K_Ib_118 (s_Ib_118 p0 g h i j k l m n o p q c d f x r t u b) Q:=by
 obtain ⟨v,hm⟩|⟨v,hm⟩:=split_ite hm
 ·obtain ⟨w,z,hm⟩:=bind_some hm
  obtain ⟨a,A,hm⟩:=bind_some hm
  obtain ⟨C,B,hm⟩:=bind_some hm
  exact gw (hin _ (qj hm).symm) (u1 v<|wO (.res (res_Iq w))<|wO (.res (res_In a))<|wO (.rows (mi ([a]:LI)))<|wO (zn 1)<|wO (.rows (mi (b++([a]:LI))))<|wO (zn ((b++([a]:LI)).length))<|wO (zn c.length)<|wO (zn d.length)<|wO (zn ((b++([a]:LI)).length))<|wO (zn (([]:List LI).length))<|wO (zn f.length)<|wP (ok_Iq (Ze.mk r t u) 26 w z)<|wP (ok_In w.1 26 a A)<|wP (Eq.refl (mi ([a]:LI)))<|wP (len_map (rI .i64) (show 1=([a]:LI).length from rfl))<|wP (all_le (rI .i64) ([a]:LI) rfl)<|wP (app_ck (rI .i64) b ([a]:LI) rfl rfl B)<|wP (app_tell (rI .i64) b ([a]:LI) rfl rfl)<|wP (len_map (rI .i64) (show (b++([a]:LI)).length=(b++([a]:LI)).length from rfl))<|wP (ln c.length)<|wP (ln d.length)<|wP (lens ((b++([a]:LI)).length) ((b++([a]:LI)).length) rfl)<|wP (lens (([]:List LI).length) (([]:List LI).length) rfl)<|wP (ln f.length)<|z0) (by kernel_rfl)
 ·refine gm c_Ib_128 K_Ib_128 (s_Ib_128 p0 g h i j k l m n o p q c d f r t u b) (v1 v<|wK c.length d.length b.length<|wO (zn (([]:List LI).length))<|wP (lens (([]:List LI).length) (([]:List LI).length) rfl)<|wN f.length<|z0) ?_ (by kernel_rfl)
  exact hout (r,t,u,b) (qj hm).symm
theorem ok_Ib_106 (p0:LI) (f g h i j k q:Int) (t:Int×Ze) (l m n:Int) (o:(List LI)) (p:LI) (a:(List LI)) (r:Int) (w:Bool) (y) (hm:m_Ib_106 p0 f g h i j k q t l m n o p a r w=some y) (Q)
  (hin:∀ s,y=.inl s→EE c_Ib_85 K_Ib_85 (s_Ib_85 p0 f g h i j k l m n a s.1 s.2.1 s.2.2.1 s.2.2.2.1 s.2.2.2.2.1 s.2.2.2.2.2) Q) (hout:∀ e,y=.inr e→O_Ib_85 p0 f g h i j k l m n a Q e):EE c_Ib_106 K_Ib_106 (s_Ib_106 p0 f g h i j k q t l m n o p a r w) Q:=by
 obtain ⟨v,hm⟩|⟨v,hm⟩:=split_ite hm
 ·obtain ⟨d,x,hm⟩:=bind_some hm
  have hQ:Q=Post vf_Ib (res_Ib d):=hout (.inl d) (qj hm).symm
  subst hQ
  exact ge (u1 v<|wO (.res (res_Ic d))<|wO (zn d.sound.channels.length)<|wO (.rows (List.map (rL (rI .i64)) d.sound.channels))<|wP (ok_Ic 5 d x)<|wP (len_map (rL (rI .i64)) (show d.sound.channels.length=d.sound.channels.length from rfl))<|wP (all_le0 (rL (rI .i64)) d.sound.channels rfl)<|wP (all_t (rL (rI .i64)) d.sound.channels rfl)<|z0) (rfl:res_Ib d=res_Ib d) (by kernel_rfl)
 ·refine gm c_Ib_118 K_Ib_118 (s_Ib_118 p0 f g h i j k r q l m n o p a 0 t.2.b t.2.at_ t.2.short ([]:LI)) (v1 v<|wN o.length<|wN p.length<|wO (zn (([]:LI).length))<|wO (zn (([]:List LI).length))<|wP (lens 0 (([]:LI).length) rfl)<|wP (lens (([]:List LI).length) (([]:List LI).length) rfl)<|wN a.length<|z0) ?_ (by kernel_rfl)
  obtain ⟨e,he,hm⟩:=bind_some hm
  refine loop_rule (u:=.c c_Ib_118) (K:=K_Ib_118) (Q:=Q) (b:=lp_Ib_118 p0 f g h i j k r q l m n o p a) (We:=O_Ib_118 p0 f g h i j k r q l m n o p a Q) (stJ:=fun s=>s_Ib_118 p0 f g h i j k r q l m n o p a s.1 s.2.1 s.2.2.1 s.2.2.2.1 s.2.2.2.2) (s:=(0,t.2.b,t.2.at_,t.2.short,([]:LI))) (fun s y hb hin hout=>ok_Ib_118 p0 f g h i j k r q l m n o p a s.1 s.2.1 s.2.2.1 s.2.2.2.1 s.2.2.2.2 y hb Q hin hout) he ?_
  show EE c_Ib_128 K_Ib_128 (s_Ib_128 p0 f g h i j k r q l m n o p a e.1 e.2.1 e.2.2.1 e.2.2.2) _
  exact ok_Ib_128 p0 f g h i j k r q l m n o p a e.1 e.2.1 e.2.2.1 e.2.2.2 y hm Q hin hout
theorem ok_Ib_326 (p0:LI) (d f h:Int) (i:Int×Ze) (a b c:Int) (g:(List LI)) (y) (hm:m_Ib_326 p0 d f h i a b c g=some y) (Q)
  (hin:∀ s,y=.inl s→EE c_Ib_46 K_Ib_46 (s_Ib_46 p0 d f a b c s.1 s.2.1 s.2.2.1 s.2.2.2.1 s.2.2.2.2) Q) (hout:∀ e,y=.inr e→O_Ib_46 p0 a b c Q e):EE c_Ib_326 K_Ib_326 (s_Ib_326 p0 d f h i a b c g) Q:=by
 exact gw (hin _ (qj hm).symm) (wO (zn (([]:List LI).length))<|wP (lens (([]:List LI).length) (([]:List LI).length) rfl)<|wN g.length<|z0) (by kernel_rfl)
theorem ok_Ib_306 (p0:LI) (i j k:Int) (l:(List LI)) (m:Int×Ze) (n d o h:Int) (c:(List LI)) (y) (hm:m_Ib_306 p0 i j k l m n d o h c=some y) (Q)
  (hin:∀ s,y=.inl s→EE c_Ib_306 K_Ib_306 (s_Ib_306 p0 i j k l m n d o s.1 s.2) Q) (hout:∀ e,y=.inr e→O_Ib_306 p0 i j k m n d o Q e):EE c_Ib_306 K_Ib_306 (s_Ib_306 p0 i j k l m n d o h c) Q:=by
 obtain ⟨p,hm⟩|⟨p,hm⟩:=split_ite hm
 ·obtain ⟨b,f,hm⟩:=bind_some hm
  obtain ⟨w,q,hm⟩:=bind_some hm
  obtain ⟨r,u,hm⟩:=bind_some hm
  obtain ⟨t,hm⟩|⟨t,hm⟩:=split_ite hm
  ·obtain ⟨a,g,hm⟩:=bind_some hm
   obtain ⟨z,v,hm⟩:=bind_some hm
   exact gw (hin _ (qj hm).symm) (u1 p<|wO (.row ((rL (rI .i64)) b))<|wP (rd_in rfl f)<|wP (at_row (rL (rI .i64)) (rd_get0 f))<|wL (rI .i64) b<|wO (.row ((rL (rI .i64)) b))<|wO (zi b)<|wO (.res (res_Im r))<|wO zF<|wO (.row ((rL (rI .i64)) a))<|wO (zn a.length)<|wO (.row ((rL (rI .i64)) a))<|wO (.row ((rL (rI .i64)) b))<|wO (.rows (mi (a++b)))<|wO (zn ((a++b).length))<|wO (.rows (mi (a++b)))<|wO (.rows (List.map (rL (rI .i64)) (c.set (0+Int.toNat h) (a++b))))<|wO (zn l.length)<|wO (zn (([]:List LI).length))<|wO (zn ((c.set (0+Int.toNat h) (a++b)).length))<|wP (ck_p q)<|wP (ck_p q)<|wP (at_row (rL (rI .i64)) (rd_get0 f))<|wP (all_le (rI .i64) b rfl)<|wP (all_dt (rI .i64) b rfl)<|wP (ok_Im b (shlI .i64 (-1) (w64 (d - 1))) (w64 ((shlI .i64 1 (w64 (d - 1))) - 1)) 4000 r u)<|wP (not_f t)<|wP (rd_in rfl g)<|wP (at_row (rL (rI .i64)) (rd_get0 g))<|wP (lm (rI .i64) a)<|wP (at_row (rL (rI .i64)) (rd_get0 g))<|wP (at_row (rL (rI .i64)) (rd_get0 f))<|wP (all_le (rI .i64) b rfl)<|wP (app_ck (rI .i64) a b rfl rfl v)<|wP (app_tell (rI .i64) a b rfl rfl)<|wP (len_map (rI .i64) (show (a++b).length=(a++b).length from rfl))<|wP (rd_in rfl g)<|wP (all_le0 (rI .i64) (a++b) rfl)<|wP (all_t (rI .i64) (a++b) rfl)<|wP (put_hole (rL (rI .i64)) (a++b) 0 0 (.sl ((a++b).map (rI .i64))) (rd_get0 g) (by kernel_rfl) (by kernel_rfl))<|wP (noPt_of (rL (rI .i64)) (c.set (0+Int.toNat h) (a++b)) 0 (fun x=>⟨_,rfl⟩))<|wP (ln l.length)<|wP (lens (([]:List LI).length) (([]:List LI).length) rfl)<|wP (lens c.length ((c.set (0+Int.toNat h) (a++b)).length) (set_len rfl))<|z0) (by kernel_rfl)
  ·obtain ⟨a,g,hm⟩:=bind_some hm
   have hQ:Q=Post vf_Ib (res_Ib a):=hout (.inl a) (qj hm).symm
   subst hQ
   exact ge (u1 p<|wO (.row ((rL (rI .i64)) b))<|wP (rd_in rfl f)<|wP (at_row (rL (rI .i64)) (rd_get0 f))<|wL (rI .i64) b<|wO (.row ((rL (rI .i64)) b))<|wO (zi b)<|wO (.res (res_Im r))<|wO zT<|wO (.res (res_Ic a))<|wO (zn a.sound.channels.length)<|wO (.rows (List.map (rL (rI .i64)) a.sound.channels))<|wP (ck_p q)<|wP (ck_p q)<|wP (at_row (rL (rI .i64)) (rd_get0 f))<|wP (all_le (rI .i64) b rfl)<|wP (all_dt (rI .i64) b rfl)<|wP (ok_Im b (shlI .i64 (-1) (w64 (d - 1))) (w64 ((shlI .i64 1 (w64 (d - 1))) - 1)) 4000 r u)<|wP (not_t t)<|wP (ok_Ic 5 a g)<|wP (len_map (rL (rI .i64)) (show a.sound.channels.length=a.sound.channels.length from rfl))<|wP (all_le0 (rL (rI .i64)) a.sound.channels rfl)<|wP (all_t (rL (rI .i64)) a.sound.channels rfl)<|z0) (rfl:res_Ib a=res_Ib a) (by kernel_rfl)
 ·refine gm c_Ib_326 K_Ib_326 (s_Ib_326 p0 i j k m n d o c) (v1 p<|wO (zn (([]:List LI).length))<|wP (lens (([]:List LI).length) (([]:List LI).length) rfl)<|wN c.length<|z0) ?_ (by kernel_rfl)
  exact hout (.inr c) (qj hm).symm
theorem ok_Ib_302 (p0:LI) (g h i:Int) (j:Int×Ze) (a d f:Int) (l:(List LI)) (k:(List LI)) (y) (hm:m_Ib_302 p0 g h i j a d f l k=some y) (Q)
  (hin:∀ s,y=.inl s→EE c_Ib_46 K_Ib_46 (s_Ib_46 p0 g h a d f s.1 s.2.1 s.2.2.1 s.2.2.2.1 s.2.2.2.2) Q) (hout:∀ e,y=.inr e→O_Ib_46 p0 a d f Q e):EE c_Ib_302 K_Ib_302 (s_Ib_302 p0 g h i j a d f l k) Q:=by
 refine gm c_Ib_306 K_Ib_306 (s_Ib_306 p0 g h i k j a d f 0 l) (wN k.length<|wO (zn (([]:List LI).length))<|wP (lens (([]:List LI).length) (([]:List LI).length) rfl)<|wN l.length<|z0) ?_ (by kernel_rfl)
 obtain ⟨e,he,hm⟩:=bind_some hm
 refine loop_rule (u:=.c c_Ib_306) (K:=K_Ib_306) (Q:=Q) (b:=lp_Ib_306 p0 g h i k j a d f) (We:=O_Ib_306 p0 g h i j a d f Q) (stJ:=fun s=>s_Ib_306 p0 g h i k j a d f s.1 s.2) (s:=(0,l)) (fun s y hb hin hout=>ok_Ib_306 p0 g h i k j a d f s.1 s.2 y hb Q hin hout) he ?_
 rcases e with e | e
 ·exact hout (.inl e) (qj hm).symm
 ·show EE c_Ib_326 K_Ib_326 (s_Ib_326 p0 g h i j a d f e) _
  exact ok_Ib_326 p0 g h i j a d f e y hm Q hin hout
theorem ok_Ib_286 (p0:LI) (p q t u j:Int) (v:Int×Ze) (k l m:Int) (i:(List LI)) (f:(List LI)) (y) (hm:m_Ib_286 p0 p q t u j v k l m i f=some y) (Q)
  (hin:∀ s,y=.inl s→EE c_Ib_46 K_Ib_46 (s_Ib_46 p0 p q k l m s.1 s.2.1 s.2.2.1 s.2.2.2.1 s.2.2.2.2) Q) (hout:∀ e,y=.inr e→O_Ib_46 p0 k l m Q e):EE c_Ib_286 K_Ib_286 (s_Ib_286 p0 p q t u j v k l m i f) Q:=by
 obtain ⟨n,hm⟩|⟨n,hm⟩:=split_ite hm
 ·obtain ⟨b,g,hm⟩:=bind_some hm
  obtain ⟨c,h,hm⟩:=bind_some hm
  obtain ⟨a,w,hm⟩:=bind_some hm
  obtain ⟨r,hm⟩|⟨r,hm⟩:=split_ite hm
  ·obtain ⟨d,o,hm⟩:=bind_some hm
   have hQ:Q=Post vf_Ib (res_Ib d):=hout (.inl d) (qj hm).symm
   subst hQ
   exact ge (u1 n<|wO (.row ((rL (rI .i64)) b))<|wP (rd_in rfl g)<|wP (at_row (rL (rI .i64)) (rd_get0 g))<|wL (rI .i64) b<|wO (.row ((rL (rI .i64)) c))<|wP (rd_in rfl h)<|wP (at_row (rL (rI .i64)) (rd_get0 h))<|wL (rI .i64) c<|wO (.row ((rL (rI .i64)) b))<|wO (zi b)<|wO (.row ((rL (rI .i64)) c))<|wO (zi c)<|wO (.res (res_Ig a))<|wO (zn a.1.length)<|wO (zn a.2.length)<|wO zT<|wO (.res (res_Ic d))<|wO (zn d.sound.channels.length)<|wO (.rows (List.map (rL (rI .i64)) d.sound.channels))<|wP (at_row (rL (rI .i64)) (rd_get0 g))<|wP (all_le (rI .i64) b rfl)<|wP (all_dt (rI .i64) b rfl)<|wP (at_row (rL (rI .i64)) (rd_get0 h))<|wP (all_le (rI .i64) c rfl)<|wP (all_dt (rI .i64) c rfl)<|wP (ok_Ig j b c a w)<|wP (lm (rI .i64) a.1)<|wP (lm (rI .i64) a.2)<|wP r<|wP (ok_Ic 5 d o)<|wP (len_map (rL (rI .i64)) (show d.sound.channels.length=d.sound.channels.length from rfl))<|wP (all_le0 (rL (rI .i64)) d.sound.channels rfl)<|wP (all_t (rL (rI .i64)) d.sound.channels rfl)<|z0) (rfl:res_Ib d=res_Ib d) (by kernel_rfl)
  ·obtain ⟨d,o,hm⟩:=bind_some hm
   exact gw (ok_Ib_302 _ _ _ _ _ _ _ _ _ _ y hm Q hin hout) (u1 n<|wO (.row ((rL (rI .i64)) b))<|wP (rd_in rfl g)<|wP (at_row (rL (rI .i64)) (rd_get0 g))<|wL (rI .i64) b<|wO (.row ((rL (rI .i64)) c))<|wP (rd_in rfl h)<|wP (at_row (rL (rI .i64)) (rd_get0 h))<|wL (rI .i64) c<|wO (.row ((rL (rI .i64)) b))<|wO (zi b)<|wO (.row ((rL (rI .i64)) c))<|wO (zi c)<|wO (.res (res_Ig a))<|wO (zn a.1.length)<|wO (zn a.2.length)<|wO zF<|wO (zi a.1)<|wO (.rows (List.map (rL (rI .i64)) (f.set (0+Int.toNat 0) a.1)))<|wO (zi a.2)<|wO (.rows (List.map (rL (rI .i64)) ((f.set (0+Int.toNat 0) a.1).set (0+Int.toNat 1) a.2)))<|wO (zn (((f.set (0+Int.toNat 0) a.1).set (0+Int.toNat 1) a.2).length))<|wO (zn (([]:List LI).length))<|wO (zn i.length)<|wP (at_row (rL (rI .i64)) (rd_get0 g))<|wP (all_le (rI .i64) b rfl)<|wP (all_dt (rI .i64) b rfl)<|wP (at_row (rL (rI .i64)) (rd_get0 h))<|wP (all_le (rI .i64) c rfl)<|wP (all_dt (rI .i64) c rfl)<|wP (ok_Ig j b c a w)<|wP (lm (rI .i64) a.1)<|wP (lm (rI .i64) a.2)<|wP r<|wP (rd_in rfl g)<|wA (rI .i64) a.1<|wP (put_ob (rL (rI .i64)) a.1 0 (.sl (a.1.map (rI .i64))) (rd_get0 g) (by kernel_rfl) (by kernel_rfl))<|wP (rd_in (set_len rfl) o)<|wA (rI .i64) a.2<|wP (put_ob (rL (rI .i64)) a.2 0 (.sl (a.2.map (rI .i64))) (rd_get0 o) (by kernel_rfl) (by kernel_rfl))<|wP (lens f.length (((f.set (0+Int.toNat 0) a.1).set (0+Int.toNat 1) a.2).length) (set_len (set_len rfl)))<|wP (lens (([]:List LI).length) (([]:List LI).length) rfl)<|wP (ln i.length)<|z0) (by kernel_rfl)
 ·exact gw (ok_Ib_302 _ _ _ _ _ _ _ _ _ _ y hm Q hin hout) (v1 n<|wN f.length<|wO (zn (([]:List LI).length))<|wP (lens (([]:List LI).length) (([]:List LI).length) rfl)<|wN i.length<|z0) (by kernel_rfl)
theorem ok_Ib_264 (p0:LI) (h i j k l:Int) (w:(List LI)) (m:Int×Ze) (n o p:Int) (r:LI) (g:(List LI)) (q:Int) (d:(List LI)) (y) (hm:m_Ib_264 p0 h i j k l w m n o p r g q d=some y) (Q)
  (hin:∀ s,y=.inl s→EE c_Ib_264 K_Ib_264 (s_Ib_264 p0 h i j k l w m n o p r g s.1 s.2) Q) (hout:∀ e,y=.inr e→O_Ib_264 p0 h i j k l m n o p g Q e):EE c_Ib_264 K_Ib_264 (s_Ib_264 p0 h i j k l w m n o p r g q d) Q:=by
 obtain ⟨t,hm⟩|⟨t,hm⟩:=split_ite hm
 ·obtain ⟨u,v,hm⟩:=bind_some hm
  obtain ⟨a,f,hm⟩:=bind_some hm
  obtain ⟨b,z,hm⟩:=bind_some hm
  obtain ⟨x,hm⟩|⟨x,hm⟩:=split_ite hm
  ·obtain ⟨c,A,hm⟩:=bind_some hm
   have hQ:Q=Post vf_Ib (res_Ib c):=hout (.inl c) (qj hm).symm
   subst hQ
   exact ge (u1 t<|wO (.row ((rI .i64) u))<|wO (.row ((rL (rI .i64)) a))<|wP (rd_in rfl v)<|wP (at_row (rI .i64) (rd_get0 v))<|wP (rd_in rfl f)<|wP (at_row (rL (rI .i64)) (rd_get0 f))<|wL (rI .i64) a<|wO (.row ((rL (rI .i64)) a))<|wO (zi a)<|wO (.res (res_Ie b))<|wP (at_row (rL (rI .i64)) (rd_get0 f))<|wP (all_le (rI .i64) a rfl)<|wP (all_dt (rI .i64) a rfl)<|wP (ok_Ie u a b z)<|wL (rI .i64) b<|u1 x<|wO (.res (res_Ic c))<|wO (zn c.sound.channels.length)<|wO (.rows (List.map (rL (rI .i64)) c.sound.channels))<|wP (ok_Ic 5 c A)<|wP (len_map (rL (rI .i64)) (show c.sound.channels.length=c.sound.channels.length from rfl))<|wP (all_le0 (rL (rI .i64)) c.sound.channels rfl)<|wP (all_t (rL (rI .i64)) c.sound.channels rfl)<|z0) (rfl:res_Ib c=res_Ib c) (by kernel_rfl)
  ·exact gw (hin _ (qj hm).symm) (u1 t<|wO (.row ((rI .i64) u))<|wO (.row ((rL (rI .i64)) a))<|wP (rd_in rfl v)<|wP (at_row (rI .i64) (rd_get0 v))<|wP (rd_in rfl f)<|wP (at_row (rL (rI .i64)) (rd_get0 f))<|wL (rI .i64) a<|wO (.row ((rL (rI .i64)) a))<|wO (zi a)<|wO (.res (res_Ie b))<|wP (at_row (rL (rI .i64)) (rd_get0 f))<|wP (all_le (rI .i64) a rfl)<|wP (all_dt (rI .i64) a rfl)<|wP (ok_Ie u a b z)<|wL (rI .i64) b<|v1 x<|wP (rd_in rfl f)<|wR (rI .i64) b<|wO (.rows (List.map (rL (rI .i64)) (d.set (0+Int.toNat q) b)))<|wO (zn ((d.set (0+Int.toNat q) b).length))<|wP (put_ob (rL (rI .i64)) b 0 (.sl (b.map (rI .i64))) (rd_get0 f) (by kernel_rfl) (by kernel_rfl))<|wP (lens d.length ((d.set (0+Int.toNat q) b).length) (set_len rfl))<|wN r.length<|wO (zn (([]:List LI).length))<|wP (lens (([]:List LI).length) (([]:List LI).length) rfl)<|wN g.length<|z0) (by kernel_rfl)
 ·refine gm c_Ib_286 K_Ib_286 (s_Ib_286 p0 h i j k l m n o p g d) (v1 t<|wN d.length<|wO (zn (([]:List LI).length))<|wP (lens (([]:List LI).length) (([]:List LI).length) rfl)<|wN g.length<|z0) ?_ (by kernel_rfl)
  exact hout (.inr d) (qj hm).symm
theorem ok_Ib_231 (p0:LI) (n o q r i t j k l:Int) (m:(List LI)) (w:LI) (x:Int) (z:Bool) (p:(List LI)) (v:LI) (y) (hm:m_Ib_231 p0 n o q r i t j k l m w x z p v=some y) (Q)
  (hin:∀ s,y=.inl s→EE c_Ib_46 K_Ib_46 (s_Ib_46 p0 n o j k l s.1 s.2.1 s.2.2.1 s.2.2.2.1 s.2.2.2.2) Q) (hout:∀ e,y=.inr e→O_Ib_46 p0 j k l Q e):EE c_Ib_231 K_Ib_231 (s_Ib_231 p0 n o q r i t j k l m w x z p v) Q:=by
 obtain ⟨a,E,hm⟩:=bind_some hm
 obtain ⟨B,hm⟩|⟨B,hm⟩:=split_ite hm
 ·obtain ⟨d,C,hm⟩:=bind_some hm
  obtain ⟨L,G,hm⟩:=bind_some hm
  obtain ⟨A,H,hm⟩:=bind_some hm
  obtain ⟨f,I,hm⟩:=bind_some hm
  obtain ⟨F,hm⟩|⟨F,hm⟩:=split_ite hm
  ·obtain ⟨g,D,hm⟩:=bind_some hm
   have hQ:Q=Post vf_Ib (res_Ib g):=hout (.inl g) (qj hm).symm
   subst hQ
   exact ge (wO (.res (res_Ip a))<|wP (ok_Ip (Ze.mk w x z) a E)<|v1 (not_f B)<|wO (.rows (List.map (rI .u8) ((p0.take (Int.toNat (w64 (Int.tdiv a.2.at_ 8)))).drop (Int.toNat i))))<|wO (.res (res_Ia A))<|wO (.res (res_Iq f))<|wO zT<|wO (.res (res_Ic g))<|wO (zn g.sound.channels.length)<|wO (.rows (List.map (rL (rI .i64)) g.sound.channels))<|wP (by decide:(8:Int)≠0)<|wP (slc_hi (rI .u8) p0 (ck_p C))<|wP (ck_p G)<|wP (slc_tell (rI .u8) p0 (Int.toNat i) (Int.toNat (w64 (Int.tdiv a.2.at_ 8))))<|wP (ok_Ia ((p0.take (Int.toNat (w64 (Int.tdiv a.2.at_ 8)))).drop (Int.toNat i)) A H)<|wP (ok_Iq a.2 16 f I)<|wP F<|wP (ok_Ic 2 g D)<|wP (len_map (rL (rI .i64)) (show g.sound.channels.length=g.sound.channels.length from rfl))<|wP (all_le0 (rL (rI .i64)) g.sound.channels rfl)<|wP (all_t (rL (rI .i64)) g.sound.channels rfl)<|z0) (rfl:res_Ib g=res_Ib g) (by kernel_rfl)
  ·obtain ⟨D,hm⟩|⟨D,hm⟩:=split_ite hm
   ·obtain ⟨h,J,hm⟩:=bind_some hm
    have hQ:Q=Post vf_Ib (res_Ib h):=hout (.inl h) (qj hm).symm
    subst hQ
    exact ge (wO (.res (res_Ip a))<|wP (ok_Ip (Ze.mk w x z) a E)<|v1 (not_f B)<|wO (.rows (List.map (rI .u8) ((p0.take (Int.toNat (w64 (Int.tdiv a.2.at_ 8)))).drop (Int.toNat i))))<|wO (.res (res_Ia A))<|wO (.res (res_Iq f))<|wO zF<|wO zT<|wO (.res (res_Ic h))<|wO (zn h.sound.channels.length)<|wO (.rows (List.map (rL (rI .i64)) h.sound.channels))<|wP (by decide:(8:Int)≠0)<|wP (slc_hi (rI .u8) p0 (ck_p C))<|wP (ck_p G)<|wP (slc_tell (rI .u8) p0 (Int.toNat i) (Int.toNat (w64 (Int.tdiv a.2.at_ 8))))<|wP (ok_Ia ((p0.take (Int.toNat (w64 (Int.tdiv a.2.at_ 8)))).drop (Int.toNat i)) A H)<|wP (ok_Iq a.2 16 f I)<|wP F<|wP D<|wP (ok_Ic 3 h J)<|wP (len_map (rL (rI .i64)) (show h.sound.channels.length=h.sound.channels.length from rfl))<|wP (all_le0 (rL (rI .i64)) h.sound.channels rfl)<|wP (all_t (rL (rI .i64)) h.sound.channels rfl)<|z0) (rfl:res_Ib h=res_Ib h) (by kernel_rfl)
   ·refine gm c_Ib_264 K_Ib_264 (s_Ib_264 p0 n o q r t p f j k l v m 0 p) (wO (.res (res_Ip a))<|wP (ok_Ip (Ze.mk w x z) a E)<|v1 (not_f B)<|wO (.rows (List.map (rI .u8) ((p0.take (Int.toNat (w64 (Int.tdiv a.2.at_ 8)))).drop (Int.toNat i))))<|wO (.res (res_Ia A))<|wO (.res (res_Iq f))<|wO zF<|wO zF<|wO (zn p.length)<|wO (zn v.length)<|wO (zn (([]:List LI).length))<|wO (zn m.length)<|wP (by decide:(8:Int)≠0)<|wP (slc_hi (rI .u8) p0 (ck_p C))<|wP (ck_p G)<|wP (slc_tell (rI .u8) p0 (Int.toNat i) (Int.toNat (w64 (Int.tdiv a.2.at_ 8))))<|wP (ok_Ia ((p0.take (Int.toNat (w64 (Int.tdiv a.2.at_ 8)))).drop (Int.toNat i)) A H)<|wP (ok_Iq a.2 16 f I)<|wP F<|wP D<|wP (ln p.length)<|wP (ln v.length)<|wP (lens (([]:List LI).length) (([]:List LI).length) rfl)<|wP (ln m.length)<|z0) ?_ (by kernel_rfl)
    obtain ⟨e,he,hm⟩:=bind_some hm
    refine loop_rule (u:=.c c_Ib_264) (K:=K_Ib_264) (Q:=Q) (b:=lp_Ib_264 p0 n o q r t p f j k l v m) (We:=O_Ib_264 p0 n o q r t f j k l m Q) (stJ:=fun s=>s_Ib_264 p0 n o q r t p f j k l v m s.1 s.2) (s:=(0,p)) (fun s y hb hin hout=>ok_Ib_264 p0 n o q r t p f j k l v m s.1 s.2 y hb Q hin hout) he ?_
    rcases e with e | e
    ·exact hout (.inl e) (qj hm).symm
    ·show EE c_Ib_286 K_Ib_286 (s_Ib_286 p0 n o q r t f j k l m e) _
     exact ok_Ib_286 p0 n o q r t f j k l m e y hm Q hin hout
 ·obtain ⟨d,C,hm⟩:=bind_some hm
  have hQ:Q=Post vf_Ib (res_Ib d):=hout (.inl d) (qj hm).symm
  subst hQ
  exact ge (wO (.res (res_Ip a))<|wP (ok_Ip (Ze.mk w x z) a E)<|u1 (not_t B)<|wO (.res (res_Ic d))<|wO (zn d.sound.channels.length)<|wO (.rows (List.map (rL (rI .i64)) d.sound.channels))<|wP (ok_Ic 4 d C)<|wP (len_map (rL (rI .i64)) (show d.sound.channels.length=d.sound.channels.length from rfl))<|wP (all_le0 (rL (rI .i64)) d.sound.channels rfl)<|wP (all_t (rL (rI .i64)) d.sound.channels rfl)<|z0) (rfl:res_Ib d=res_Ib d) (by kernel_rfl)
theorem ok_Ib_85 (p0:LI) (j k l m n o p q r:Int) (b:(List LI)) (x:Int) (c:LI) (d:Int) (f:Bool) (g:(List LI)) (h:LI) (y) (hm:m_Ib_85 p0 j k l m n o p q r b x c d f g h=some y) (Q)
  (hin:∀ s,y=.inl s→EE c_Ib_85 K_Ib_85 (s_Ib_85 p0 j k l m n o p q r b s.1 s.2.1 s.2.2.1 s.2.2.2.1 s.2.2.2.2.1 s.2.2.2.2.2) Q) (hout:∀ e,y=.inr e→O_Ib_85 p0 j k l m n o p q r b Q e):EE c_Ib_85 K_Ib_85 (s_Ib_85 p0 j k l m n o p q r b x c d f g h) Q:=by
 obtain ⟨t,hm⟩|⟨t,hm⟩:=split_ite hm
 ·obtain ⟨i,w,hm⟩:=bind_some hm
  obtain ⟨v,hm⟩|⟨v,hm⟩:=split_ite hm
  ·obtain ⟨a,u,hm⟩:=bind_some hm
   have hQ:Q=Post vf_Ib (res_Ib a):=hout (.inl a) (qj hm).symm
   subst hQ
   exact ge (u1 t<|wO (.res (res_Iq i))<|wP (ok_Iq (Ze.mk c d f) 3 i w)<|u1 v<|wO (.res (res_Ic a))<|wO (zn a.sound.channels.length)<|wO (.rows (List.map (rL (rI .i64)) a.sound.channels))<|wP (ok_Ic 2 a u)<|wP (len_map (rL (rI .i64)) (show a.sound.channels.length=a.sound.channels.length from rfl))<|wP (all_le0 (rL (rI .i64)) a.sound.channels rfl)<|wP (all_t (rL (rI .i64)) a.sound.channels rfl)<|z0) (rfl:res_Ib a=res_Ib a) (by kernel_rfl)
  ·obtain ⟨u,hm⟩|⟨u,hm⟩:=split_ite hm
   ·exact gw (ok_Ib_106 _ _ _ _ _ _ _ _ _ _ _ _ _ _ _ _ _ y hm Q hin hout) (u1 t<|wO (.res (res_Iq i))<|wP (ok_Iq (Ze.mk c d f) 3 i w)<|v1 v<|u4 u<|wN g.length<|wN h.length<|wO (zn (([]:List LI).length))<|wP (lens (([]:List LI).length) (([]:List LI).length) rfl)<|wN b.length<|z0) (by kernel_rfl)
   ·exact gw (ok_Ib_106 _ _ _ _ _ _ _ _ _ _ _ _ _ _ _ _ _ y hm Q hin hout) (u1 t<|wO (.res (res_Iq i))<|wP (ok_Iq (Ze.mk c d f) 3 i w)<|v1 v<|v4 u<|wN g.length<|wN h.length<|wO (zn (([]:List LI).length))<|wP (lens (([]:List LI).length) (([]:List LI).length) rfl)<|wN b.length<|z0) (by kernel_rfl)
 ·refine gm c_Ib_231 K_Ib_231 (s_Ib_231 p0 j k l m n o p q r b c d f g h) (v1 t<|wN g.length<|wN h.length<|wO (zn (([]:List LI).length))<|wP (lens (([]:List LI).length) (([]:List LI).length) rfl)<|wN b.length<|z0) ?_ (by kernel_rfl)
  exact hout (.inr (c,d,f,g,h)) (qj hm).symm
theorem ok_Ib_71 (p0:LI) (h i k:Int) (o:Int×Ze) (d f g:Int) (j:(List LI)) (l m n:Int) (q:Bool) (y) (hm:m_Ib_71 p0 h i k o d f g j l m n q=some y) (Q)
  (hin:∀ s,y=.inl s→EE c_Ib_46 K_Ib_46 (s_Ib_46 p0 h i d f g s.1 s.2.1 s.2.2.1 s.2.2.2.1 s.2.2.2.2) Q) (hout:∀ e,y=.inr e→O_Ib_46 p0 d f g Q e):EE c_Ib_71 K_Ib_71 (s_Ib_71 p0 h i k o d f g j l m n q) Q:=by
 obtain ⟨p,hm⟩|⟨p,hm⟩:=split_ite hm
 ·obtain ⟨a,r,hm⟩:=bind_some hm
  have hQ:Q=Post vf_Ib (res_Ib a):=hout (.inl a) (qj hm).symm
  subst hQ
  exact ge (u1 p<|wO (.res (res_Ic a))<|wO (zn a.sound.channels.length)<|wO (.rows (List.map (rL (rI .i64)) a.sound.channels))<|wP (ok_Ic 5 a r)<|wP (len_map (rL (rI .i64)) (show a.sound.channels.length=a.sound.channels.length from rfl))<|wP (all_le0 (rL (rI .i64)) a.sound.channels rfl)<|wP (all_t (rL (rI .i64)) a.sound.channels rfl)<|z0) (rfl:res_Ib a=res_Ib a) (by kernel_rfl)
 ·refine gm c_Ib_85 K_Ib_85 (s_Ib_85 p0 h i k l m n d f g j 0 o.2.b o.2.at_ o.2.short ([]:List LI) ([]:LI)) (v1 p<|wO (zn (([]:List LI).length))<|wO (zn (([]:LI).length))<|wO (zn (([]:List LI).length))<|wP (lens 0 (([]:List LI).length) rfl)<|wP (lens 0 (([]:LI).length) rfl)<|wP (lens (([]:List LI).length) (([]:List LI).length) rfl)<|wN j.length<|z0) ?_ (by kernel_rfl)
  obtain ⟨e,he,hm⟩:=bind_some hm
  refine loop_rule (u:=.c c_Ib_85) (K:=K_Ib_85) (Q:=Q) (b:=lp_Ib_85 p0 h i k l m n d f g j) (We:=O_Ib_85 p0 h i k l m n d f g j Q) (stJ:=fun s=>s_Ib_85 p0 h i k l m n d f g j s.1 s.2.1 s.2.2.1 s.2.2.2.1 s.2.2.2.2.1 s.2.2.2.2.2) (s:=(0,o.2.b,o.2.at_,o.2.short,([]:List LI),([]:LI))) (fun s y hb hin hout=>ok_Ib_85 p0 h i k l m n d f g j s.1 s.2.1 s.2.2.1 s.2.2.2.1 s.2.2.2.2.1 s.2.2.2.2.2 y hb Q hin hout) he ?_
  rcases e with e | e
  ·exact hout (.inl e) (qj hm).symm
  ·show EE c_Ib_231 K_Ib_231 (s_Ib_231 p0 h i k l m n d f g j e.1 e.2.1 e.2.2.1 e.2.2.2.1 e.2.2.2.2) _
   exact ok_Ib_231 p0 h i k l m n d f g j e.1 e.2.1 e.2.2.1 e.2.2.2.1 e.2.2.2.2 y hm Q hin hout
theorem ok_Ib_327 (p0:LI) (d e f:Int) (g:LI) (h:Int) (i:Bool) (b:(List LI)) (r:Zb) (hm:m_Ib_327 p0 d e f g h i b=some r):EE c_Ib_327 K_Ib_327 (s_Ib_327 p0 d e f g h i b) (Post vf_Ib (res_Ib r)):=by
 obtain ⟨c,hm⟩|⟨c,hm⟩:=split_ite hm
 ·obtain ⟨a,j,hm⟩:=bind_some hm
  exact ge (wP (by decide:(8:Int)≠0)<|wL (rI .u8) p0<|u1 c<|wO (.res (res_Ic a))<|wO (zn a.sound.channels.length)<|wO (.rows (List.map (rL (rI .i64)) a.sound.channels))<|wP (ok_Ic 8 a j)<|wP (len_map (rL (rI .i64)) (show a.sound.channels.length=a.sound.channels.length from rfl))<|wP (all_le0 (rL (rI .i64)) a.sound.channels rfl)<|wP (all_t (rL (rI .i64)) a.sound.channels rfl)<|z0) (congrArg res_Ib (qj hm)) (by kernel_rfl)
 ·exact ge (wP (by decide:(8:Int)≠0)<|wL (rI .u8) p0<|v1 c<|wO (.rows (List.map (rL (rI .i64)) b))<|wP (all_le0 (rL (rI .i64)) b rfl)<|wP (all_t (rL (rI .i64)) b rfl)<|z0) (congrArg res_Ib (qj hm)) (by kernel_rfl)
theorem ok_Ib_46 (p0:LI) (p q j k l r:Int) (c:LI) (d:Int) (f:Bool) (g:(List LI)) (y) (hm:m_Ib_46 p0 p q j k l r c d f g=some y) (Q)
  (hin:∀ s,y=.inl s→EE c_Ib_46 K_Ib_46 (s_Ib_46 p0 p q j k l s.1 s.2.1 s.2.2.1 s.2.2.2.1 s.2.2.2.2) Q) (hout:∀ e,y=.inr e→O_Ib_46 p0 j k l Q e):EE c_Ib_46 K_Ib_46 (s_Ib_46 p0 p q j k l r c d f g) Q:=by
 obtain ⟨i,hm⟩|⟨i,hm⟩:=split_ite hm
 ·obtain ⟨h,o,hm⟩:=bind_some hm
  obtain ⟨m,hm⟩|⟨m,hm⟩:=split_ite hm
  ·obtain ⟨a,b,hm⟩:=bind_some hm
   have hQ:Q=Post vf_Ib (res_Ib a):=hout (.inl a) (qj hm).symm
   subst hQ
   exact ge (u1 i<|wO (.res (res_Iq h))<|wP (by decide:(8:Int)≠0)<|wP (ok_Iq (Ze.mk c d f) 2 h o)<|u1 m<|wO (.res (res_Ic a))<|wO (zn a.sound.channels.length)<|wO (.rows (List.map (rL (rI .i64)) a.sound.channels))<|wP (ok_Ic 2 a b)<|wP (len_map (rL (rI .i64)) (show a.sound.channels.length=a.sound.channels.length from rfl))<|wP (all_le0 (rL (rI .i64)) a.sound.channels rfl)<|wP (all_t (rL (rI .i64)) a.sound.channels rfl)<|z0) (rfl:res_Ib a=res_Ib a) (by kernel_rfl)
  ·obtain ⟨b,hm⟩|⟨b,hm⟩:=split_ite hm
   ·exact gw (ok_Ib_71 _ _ _ _ _ _ _ _ _ _ _ _ _ y hm Q hin hout) (u1 i<|wO (.res (res_Iq h))<|wP (by decide:(8:Int)≠0)<|wP (ok_Iq (Ze.mk c d f) 2 h o)<|v1 m<|u4 b<|u1 b<|wO (zn (([]:List LI).length))<|wP (lens (([]:List LI).length) (([]:List LI).length) rfl)<|wN g.length<|z0) (by kernel_rfl)
   ·obtain ⟨n,hm⟩|⟨n,hm⟩:=split_ite hm
    ·exact gw (ok_Ib_71 _ _ _ _ _ _ _ _ _ _ _ _ _ y hm Q hin hout) (u1 i<|wO (.res (res_Iq h))<|wP (by decide:(8:Int)≠0)<|wP (ok_Iq (Ze.mk c d f) 2 h o)<|v1 m<|v3 b<|u2 n<|v1 b<|u1 n<|v1 b<|wO (zn (([]:List LI).length))<|wP (lens (([]:List LI).length) (([]:List LI).length) rfl)<|wN g.length<|z0) (by kernel_rfl)
    ·exact gw (ok_Ib_71 _ _ _ _ _ _ _ _ _ _ _ _ _ y hm Q hin hout) (u1 i<|wO (.res (res_Iq h))<|wP (by decide:(8:Int)≠0)<|wP (ok_Iq (Ze.mk c d f) 2 h o)<|v1 m<|v3 b<|v2 n<|v1 b<|v1 n<|v1 b<|wO (zn (([]:List LI).length))<|wP (lens (([]:List LI).length) (([]:List LI).length) rfl)<|wN g.length<|z0) (by kernel_rfl)
 ·refine gm c_Ib_327 K_Ib_327 (s_Ib_327 p0 j k l c d f g) (v1 i<|wO (zn (([]:List LI).length))<|wP (lens (([]:List LI).length) (([]:List LI).length) rfl)<|wN g.length<|z0) ?_ (by kernel_rfl)
  exact hout (.inr (c,d,f,g)) (qj hm).symm
theorem ok_Ib_36 (p0:LI) (g:Int×Ze) (i j:Int) (m:Bool) (a d f:Int) (k:(List LI)) (r:Zb) (hm:m_Ib_36 p0 g i j m a d f k=some r):EE c_Ib_36 K_Ib_36 (s_Ib_36 p0 g i j m a d f k) (Post vf_Ib (res_Ib r)):=by
 obtain ⟨l,hm⟩|⟨l,hm⟩:=split_ite hm
 ·obtain ⟨h,n,hm⟩:=bind_some hm
  exact ge (u1 l<|wO (.res (res_Ic h))<|wO (zn h.sound.channels.length)<|wO (.rows (List.map (rL (rI .i64)) h.sound.channels))<|wP (ok_Ic 5 h n)<|wP (len_map (rL (rI .i64)) (show h.sound.channels.length=h.sound.channels.length from rfl))<|wP (all_le0 (rL (rI .i64)) h.sound.channels rfl)<|wP (all_t (rL (rI .i64)) h.sound.channels rfl)<|z0) (congrArg res_Ib (qj hm)) (by kernel_rfl)
 ·refine gm c_Ib_46 K_Ib_46 (s_Ib_46 p0 i j a d f 0 g.2.b g.2.at_ g.2.short k) (v1 l<|wO (zn (([]:List LI).length))<|wP (lens (([]:List LI).length) (([]:List LI).length) rfl)<|wN k.length<|z0) ?_ (by kernel_rfl)
  obtain ⟨e,he,hm⟩:=bind_some hm
  refine loop_rule (u:=.c c_Ib_46) (K:=K_Ib_46) (Q:=(Post vf_Ib (res_Ib r))) (b:=lp_Ib_46 p0 i j a d f) (We:=O_Ib_46 p0 a d f (Post vf_Ib (res_Ib r))) (stJ:=fun s=>s_Ib_46 p0 i j a d f s.1 s.2.1 s.2.2.1 s.2.2.2.1 s.2.2.2.2) (s:=(0,g.2.b,g.2.at_,g.2.short,k)) (fun s y hb hin hout=>ok_Ib_46 p0 i j a d f s.1 s.2.1 s.2.2.1 s.2.2.2.1 s.2.2.2.2 y hb (Post vf_Ib (res_Ib r)) hin hout) he ?_
  rcases e with e | e
  ·exact congrArg (fun r=>Post vf_Ib (res_Ib r)) (qj hm).symm
  ·show EE c_Ib_327 K_Ib_327 (s_Ib_327 p0 a d f e.1 e.2.1 e.2.2.1 e.2.2.2) _
   exact ok_Ib_327 p0 a d f e.1 e.2.1 e.2.2.1 e.2.2.2 r hm
theorem ok_Ib_0 (p0:LI) (r:Zb) (hm:m_Ib_0 p0=some r):EE c_Ib_0 K_Ib_0 (s_Ib_0 p0) (Post vf_Ib (res_Ib r)):=by
 obtain ⟨i,hm⟩|⟨i,hm⟩:=split_ite hm
 ·obtain ⟨b,g,hm⟩:=bind_some hm
  exact ge (wL (rI .u8) p0<|u1 i<|wO (.res (res_Ic b))<|wO (zn b.sound.channels.length)<|wO (.rows (List.map (rL (rI .i64)) b.sound.channels))<|wP (ok_Ic 1 b g)<|wP (len_map (rL (rI .i64)) (show b.sound.channels.length=b.sound.channels.length from rfl))<|wP (all_le0 (rL (rI .i64)) b.sound.channels rfl)<|wP (all_t (rL (rI .i64)) b.sound.channels rfl)<|z0) (congrArg res_Ib (qj hm)) (by kernel_rfl)
 ·obtain ⟨b,g,hm⟩:=bind_some hm
  obtain ⟨k,hm⟩|⟨k,hm⟩:=split_ite hm
  ·obtain ⟨d,j,hm⟩:=bind_some hm
   exact ge (wL (rI .u8) p0<|v1 i<|wO (.res (res_Il b))<|wP (ok_Il p0 (ByteArray.mk #[83,78,68,49]) b g)<|u1 k<|wO (.res (res_Il b))<|wO (.res (res_Ic d))<|wO (zn d.sound.channels.length)<|wO (.rows (List.map (rL (rI .i64)) d.sound.channels))<|wP (ok_Il p0 (ByteArray.mk #[83,78,68,49]) b g)<|wP (ok_Ic b d j)<|wP (len_map (rL (rI .i64)) (show d.sound.channels.length=d.sound.channels.length from rfl))<|wP (all_le0 (rL (rI .i64)) d.sound.channels rfl)<|wP (all_t (rL (rI .i64)) d.sound.channels rfl)<|z0) (congrArg res_Ib (qj hm)) (by kernel_rfl)
  ·obtain ⟨j,hm⟩|⟨j,hm⟩:=split_ite hm
   ·obtain ⟨c,l,hm⟩:=bind_some hm
    exact ge (wL (rI .u8) p0<|v1 i<|wO (.res (res_Il b))<|wP (ok_Il p0 (ByteArray.mk #[83,78,68,49]) b g)<|v1 k<|wL (rI .u8) p0<|u1 j<|wO (.res (res_Ic c))<|wO (zn c.sound.channels.length)<|wO (.rows (List.map (rL (rI .i64)) c.sound.channels))<|wP (ok_Ic 2 c l)<|wP (len_map (rL (rI .i64)) (show c.sound.channels.length=c.sound.channels.length from rfl))<|wP (all_le0 (rL (rI .i64)) c.sound.channels rfl)<|wP (all_t (rL (rI .i64)) c.sound.channels rfl)<|z0) (congrArg res_Ib (qj hm)) (by kernel_rfl)
   ·obtain ⟨c,l,hm⟩:=bind_some hm
    obtain ⟨e,o,hm⟩:=bind_some hm
    obtain ⟨f,p,hm⟩:=bind_some hm
    obtain ⟨a,q,hm⟩:=bind_some hm
    obtain ⟨m,s,hm⟩:=bind_some hm
    obtain ⟨v,t,hm⟩:=bind_some hm
    obtain ⟨n,u,hm⟩:=bind_some hm
    obtain ⟨h,hm⟩|⟨h,hm⟩:=split_ite hm
    ·exact gw (ok_Ib_36 _ _ _ _ _ _ _ _ _ r hm) (wL (rI .u8) p0<|v1 i<|wO (.res (res_Il b))<|wP (ok_Il p0 (ByteArray.mk #[83,78,68,49]) b g)<|v1 k<|wL (rI .u8) p0<|v1 j<|wO (.res (res_Iq c))<|wO (.res (res_Iq e))<|wO (.res (res_Iq f))<|wO (.res (res_Iq a))<|wO (.res (res_Iq m))<|wO (.rows (List.map (rL (rI .i64)) (List.replicate (Int.toNat (w64 ((w64 a.1)+1))) ([]:LI))))<|wO (zn (Int.toNat (w64 ((w64 a.1)+1))))<|wO (.rows (List.map (rL (rI .i64)) (List.replicate (Int.toNat (w64 ((w64 a.1)+1))) ([]:LI))))<|wO (.res (res_Id n))<|wO zF<|wO zF<|wO zF<|wO (zn (([]:List LI).length))<|wO (zn ((List.replicate (Int.toNat (w64 ((w64 a.1)+1))) ([]:LI)).length))<|wP (ok_Iq (Ze.mk p0 32 false) 20 c l)<|wP (ok_Iq c.2 5 e o)<|wP (ok_Iq e.2 10 f p)<|wP (ok_Iq f.2 1 a q)<|wP (ok_Iq a.2 12 m s)<|wP (ck_p t)<|wP (rep_ob (rL (rI .i64)) (Int.toNat (w64 ((w64 a.1)+1))) ([]:LI) [.sl []] (by kernel_rfl))<|wP (len_map (rL (rI .i64)) (show (Int.toNat (w64 ((w64 a.1)+1)))=(List.replicate (Int.toNat (w64 ((w64 a.1)+1))) ([]:LI)).length from (rep_len (Int.toNat (w64 ((w64 a.1)+1))) ([]:LI))))<|wP (all_le (rL (rI .i64)) (List.replicate (Int.toNat (w64 ((w64 a.1)+1))) ([]:LI)) (rep_len (Int.toNat (w64 ((w64 a.1)+1))) ([]:LI)))<|wP (all_dt (rL (rI .i64)) (List.replicate (Int.toNat (w64 ((w64 a.1)+1))) ([]:LI)) (rep_len (Int.toNat (w64 ((w64 a.1)+1))) ([]:LI)))<|wP (ok_Id (Za.mk (w64 c.1) (w64 e.1) (w64 f.1) (List.replicate (Int.toNat (w64 ((w64 a.1)+1))) ([]:LI))) n u)<|wP (not_f h)<|wP (not_f h)<|wP (not_f h)<|wP (lens 0 (([]:List LI).length) rfl)<|wP (lens (Int.toNat (w64 ((w64 a.1)+1))) ((List.replicate (Int.toNat (w64 ((w64 a.1)+1))) ([]:LI)).length) (rep_len (Int.toNat (w64 ((w64 a.1)+1))) ([]:LI)))<|z0) (by kernel_rfl)
    ·exact gw (ok_Ib_36 _ _ _ _ _ _ _ _ _ r hm) (wL (rI .u8) p0<|v1 i<|wO (.res (res_Il b))<|wP (ok_Il p0 (ByteArray.mk #[83,78,68,49]) b g)<|v1 k<|wL (rI .u8) p0<|v1 j<|wO (.res (res_Iq c))<|wO (.res (res_Iq e))<|wO (.res (res_Iq f))<|wO (.res (res_Iq a))<|wO (.res (res_Iq m))<|wO (.rows (List.map (rL (rI .i64)) (List.replicate (Int.toNat (w64 ((w64 a.1)+1))) ([]:LI))))<|wO (zn (Int.toNat (w64 ((w64 a.1)+1))))<|wO (.rows (List.map (rL (rI .i64)) (List.replicate (Int.toNat (w64 ((w64 a.1)+1))) ([]:LI))))<|wO (.res (res_Id n))<|wO zT<|wO zT<|wO zT<|wO (zn (([]:List LI).length))<|wO (zn ((List.replicate (Int.toNat (w64 ((w64 a.1)+1))) ([]:LI)).length))<|wP (ok_Iq (Ze.mk p0 32 false) 20 c l)<|wP (ok_Iq c.2 5 e o)<|wP (ok_Iq e.2 10 f p)<|wP (ok_Iq f.2 1 a q)<|wP (ok_Iq a.2 12 m s)<|wP (ck_p t)<|wP (rep_ob (rL (rI .i64)) (Int.toNat (w64 ((w64 a.1)+1))) ([]:LI) [.sl []] (by kernel_rfl))<|wP (len_map (rL (rI .i64)) (show (Int.toNat (w64 ((w64 a.1)+1)))=(List.replicate (Int.toNat (w64 ((w64 a.1)+1))) ([]:LI)).length from (rep_len (Int.toNat (w64 ((w64 a.1)+1))) ([]:LI))))<|wP (all_le (rL (rI .i64)) (List.replicate (Int.toNat (w64 ((w64 a.1)+1))) ([]:LI)) (rep_len (Int.toNat (w64 ((w64 a.1)+1))) ([]:LI)))<|wP (all_dt (rL (rI .i64)) (List.replicate (Int.toNat (w64 ((w64 a.1)+1))) ([]:LI)) (rep_len (Int.toNat (w64 ((w64 a.1)+1))) ([]:LI)))<|wP (ok_Id (Za.mk (w64 c.1) (w64 e.1) (w64 f.1) (List.replicate (Int.toNat (w64 ((w64 a.1)+1))) ([]:LI))) n u)<|wP (not_t h)<|wP (not_t h)<|wP (not_t h)<|wP (lens 0 (([]:List LI).length) rfl)<|wP (lens (Int.toNat (w64 ((w64 a.1)+1))) ((List.replicate (Int.toNat (w64 ((w64 a.1)+1))) ([]:LI)).length) (rep_len (Int.toNat (w64 ((w64 a.1)+1))) ([]:LI)))<|z0) (by kernel_rfl)
theorem ok_Ib (p0:LI) (r:Zb) (hm:m_Ib p0=some r):Runs ext tbl 17 (as_Ib p0) (res_Ib r):=
 runs_of (vf:=vf_Ib) (by kernel_rfl) rfl (st:=(enter vf_Ib (as_Ib p0)).getD default) (by kernel_rfl) (go_on [] 1000 J0 (ok_Ib_0 p0 r hm) (by kernel_rfl))
def O_Lb_15 (Q:VX→St→Prop) (e:(Bool)⊕((Unit))):Prop:=match e with | .inl e=>Q=Post vf_Lb (res_Lb e) | .inr e=>EE c_Lb_31 K_Lb_31 (s_Lb_31) Q
theorem ok_Lb_31 (r:Bool) (hm:m_Lb_31=some r):EE c_Lb_31 K_Lb_31 (s_Lb_31) (Post vf_Lb (res_Lb r)):=by
 exact ge (z0) (congrArg res_Lb (qj hm)) (by kernel_rfl)
theorem ok_Lb_15 (p0 p1:LI) (f:Int) (y) (hm:m_Lb_15 p0 p1 f=some y) (Q)
  (hin:∀ s,y=.inl s→EE c_Lb_15 K_Lb_15 (s_Lb_15 p0 p1 s) Q) (hout:∀ e,y=.inr e→O_Lb_15 Q e):EE c_Lb_15 K_Lb_15 (s_Lb_15 p0 p1 f) Q:=by
 obtain ⟨a,hm⟩|⟨a,hm⟩:=split_ite hm
 ·obtain ⟨g,b,hm⟩:=bind_some hm
  obtain ⟨h,c,hm⟩:=bind_some hm
  obtain ⟨d,hm⟩|⟨d,hm⟩:=split_ite hm
  ·have hQ:Q=Post vf_Lb (res_Lb false):=hout (.inl false) (qj hm).symm
   subst hQ
   exact ge (wL (rI .i64) p0<|u1 a<|wO (.row ((rI .i64) g))<|wO (.row ((rI .i64) h))<|wP (rd_nn b)<|wP (at_row (rI .i64) (rd_get b))<|wP (rd_nn c)<|wP (at_row (rI .i64) (rd_get c))<|u1 d<|z0) (rfl:res_Lb false=res_Lb false) (by kernel_rfl)
  ·exact gw (hin _ (qj hm).symm) (wL (rI .i64) p0<|u1 a<|wO (.row ((rI .i64) g))<|wO (.row ((rI .i64) h))<|wP (rd_nn b)<|wP (at_row (rI .i64) (rd_get b))<|wP (rd_nn c)<|wP (at_row (rI .i64) (rd_get c))<|v1 d<|z0) (by kernel_rfl)
 ·refine gm c_Lb_31 K_Lb_31 (s_Lb_31) (wL (rI .i64) p0<|v1 a<|z0) ?_ (by kernel_rfl)
  exact hout (.inr ()) (qj hm).symm
theorem ok_Lb_0 (p0 p1:LI) (r:Bool) (hm:m_Lb_0 p0 p1=some r):EE c_Lb_0 K_Lb_0 (s_Lb_0 p0 p1) (Post vf_Lb (res_Lb r)):=by
 obtain ⟨a,hm⟩|⟨a,hm⟩:=split_ite hm
 ·exact ge (wL (rI .i64) p0<|wL (rI .i64) p1<|u1 a<|z0) (congrArg res_Lb (qj hm)) (by kernel_rfl)
 ·refine gm c_Lb_15 K_Lb_15 (s_Lb_15 p0 p1 0) (wL (rI .i64) p0<|wL (rI .i64) p1<|v1 a<|z0) ?_ (by kernel_rfl)
  obtain ⟨e,he,hm⟩:=bind_some hm
  refine loop_rule (u:=.c c_Lb_15) (K:=K_Lb_15) (Q:=(Post vf_Lb (res_Lb r))) (b:=lp_Lb_15 p0 p1) (We:=O_Lb_15 (Post vf_Lb (res_Lb r))) (stJ:=fun s=>s_Lb_15 p0 p1 s) (s:=0) (fun s y hb hin hout=>ok_Lb_15 p0 p1 s y hb (Post vf_Lb (res_Lb r)) hin hout) he ?_
  rcases e with e | e
  ·exact congrArg (fun r=>Post vf_Lb (res_Lb r)) (qj hm).symm
  ·show EE c_Lb_31 K_Lb_31 (s_Lb_31) _
   exact ok_Lb_31 r hm
theorem ok_Lb (p0 p1:LI) (r:Bool) (hm:m_Lb p0 p1=some r):Runs ext tbl 74 (as_Lb p0 p1) (res_Lb r):=
 runs_of (vf:=vf_Lb) (by kernel_rfl) rfl (st:=(enter vf_Lb (as_Lb p0 p1)).getD default) (by kernel_rfl) (go_on [] 1000 J0 (ok_Lb_0 p0 p1 r hm) (by kernel_rfl))
def O_Lc_15 (Q:VX→St→Prop) (e:(Bool)⊕((Unit))):Prop:=match e with | .inl e=>Q=Post vf_Lc (res_Lc e) | .inr e=>EE c_Lc_31 K_Lc_31 (s_Lc_31) Q
theorem ok_Lc_31 (r:Bool) (hm:m_Lc_31=some r):EE c_Lc_31 K_Lc_31 (s_Lc_31) (Post vf_Lc (res_Lc r)):=by
 exact ge (z0) (congrArg res_Lc (qj hm)) (by kernel_rfl)
theorem ok_Lc_15 (p0:(List LI)) (p1:(List LI)) (i:Int) (y) (hm:m_Lc_15 p0 p1 i=some y) (Q)
  (hin:∀ s,y=.inl s→EE c_Lc_15 K_Lc_15 (s_Lc_15 p0 p1 s) Q) (hout:∀ e,y=.inr e→O_Lc_15 Q e):EE c_Lc_15 K_Lc_15 (s_Lc_15 p0 p1 i) Q:=by
 obtain ⟨a,hm⟩|⟨a,hm⟩:=split_ite hm
 ·obtain ⟨b,c,hm⟩:=bind_some hm
  obtain ⟨d,f,hm⟩:=bind_some hm
  obtain ⟨g,j,hm⟩:=bind_some hm
  obtain ⟨h,hm⟩|⟨h,hm⟩:=split_ite hm
  ·exact gw (hin _ (qj hm).symm) (wO (zn p0.length)<|wP (len_map (rL (rI .i64)) (show p0.length=p0.length from rfl))<|u1 a<|wO (.row ((rL (rI .i64)) b))<|wO (.row ((rL (rI .i64)) d))<|wO (.res (res_Lb g))<|wP (rd_nn c)<|wP (at_row (rL (rI .i64)) (rd_get c))<|wP (rd_nn f)<|wP (at_row (rL (rI .i64)) (rd_get f))<|wP (ok_Lb b d g j)<|v1 (not_f h)<|z0) (by kernel_rfl)
  ·have hQ:Q=Post vf_Lc (res_Lc false):=hout (.inl false) (qj hm).symm
   subst hQ
   exact ge (wO (zn p0.length)<|wP (len_map (rL (rI .i64)) (show p0.length=p0.length from rfl))<|u1 a<|wO (.row ((rL (rI .i64)) b))<|wO (.row ((rL (rI .i64)) d))<|wO (.res (res_Lb g))<|wP (rd_nn c)<|wP (at_row (rL (rI .i64)) (rd_get c))<|wP (rd_nn f)<|wP (at_row (rL (rI .i64)) (rd_get f))<|wP (ok_Lb b d g j)<|u1 (not_t h)<|z0) (rfl:res_Lc false=res_Lc false) (by kernel_rfl)
 ·refine gm c_Lc_31 K_Lc_31 (s_Lc_31) (wO (zn p0.length)<|wP (len_map (rL (rI .i64)) (show p0.length=p0.length from rfl))<|v1 a<|z0) ?_ (by kernel_rfl)
  exact hout (.inr ()) (qj hm).symm
theorem ok_Lc_0 (p0:(List LI)) (p1:(List LI)) (r:Bool) (hm:m_Lc_0 p0 p1=some r):EE c_Lc_0 K_Lc_0 (s_Lc_0 p0 p1) (Post vf_Lc (res_Lc r)):=by
 obtain ⟨a,hm⟩|⟨a,hm⟩:=split_ite hm
 ·exact ge (wO (zn p0.length)<|wO (zn p1.length)<|wP (len_map (rL (rI .i64)) (show p0.length=p0.length from rfl))<|wP (len_map (rL (rI .i64)) (show p1.length=p1.length from rfl))<|u1 a<|z0) (congrArg res_Lc (qj hm)) (by kernel_rfl)
 ·refine gm c_Lc_15 K_Lc_15 (s_Lc_15 p0 p1 0) (wO (zn p0.length)<|wO (zn p1.length)<|wP (len_map (rL (rI .i64)) (show p0.length=p0.length from rfl))<|wP (len_map (rL (rI .i64)) (show p1.length=p1.length from rfl))<|v1 a<|z0) ?_ (by kernel_rfl)
  obtain ⟨e,he,hm⟩:=bind_some hm
  refine loop_rule (u:=.c c_Lc_15) (K:=K_Lc_15) (Q:=(Post vf_Lc (res_Lc r))) (b:=lp_Lc_15 p0 p1) (We:=O_Lc_15 (Post vf_Lc (res_Lc r))) (stJ:=fun s=>s_Lc_15 p0 p1 s) (s:=0) (fun s y hb hin hout=>ok_Lc_15 p0 p1 s y hb (Post vf_Lc (res_Lc r)) hin hout) he ?_
  rcases e with e | e
  ·exact congrArg (fun r=>Post vf_Lc (res_Lc r)) (qj hm).symm
  ·show EE c_Lc_31 K_Lc_31 (s_Lc_31) _
   exact ok_Lc_31 r hm
theorem ok_Lc (p0:(List LI)) (p1:(List LI)) (r:Bool) (hm:m_Lc p0 p1=some r):Runs ext tbl 38 (as_Lc p0 p1) (res_Lc r):=
 runs_of (vf:=vf_Lc) (by kernel_rfl) rfl (st:=(enter vf_Lc (as_Lc p0 p1)).getD default) (by kernel_rfl) (go_on [] 1000 J0 (ok_Lc_0 p0 p1 r hm) (by kernel_rfl))
theorem ok_Ld_0 (p0 p1:Za) (r:Bool) (hm:m_Ld_0 p0 p1=some r):EE c_Ld_0 K_Ld_0 (s_Ld_0 p0 p1) (Post vf_Ld (res_Ld r)):=by
 obtain ⟨a,hm⟩|⟨a,hm⟩:=split_ite hm
 ·exact ge (u1 a<|z0) (congrArg res_Ld (qj hm)) (by kernel_rfl)
 ·obtain ⟨b,hm⟩|⟨b,hm⟩:=split_ite hm
  ·exact ge (v1 a<|u1 b<|z0) (congrArg res_Ld (qj hm)) (by kernel_rfl)
  ·obtain ⟨c,hm⟩|⟨c,hm⟩:=split_ite hm
   ·exact ge (v1 a<|v1 b<|u1 c<|z0) (congrArg res_Ld (qj hm)) (by kernel_rfl)
   ·obtain ⟨d,f,hm⟩:=bind_some hm
    obtain ⟨e,hm⟩|⟨e,hm⟩:=split_ite hm
    ·exact ge (v1 a<|v1 b<|v1 c<|wO (.res (res_Lc d))<|wP (ok_Lc p0.channels p1.channels d f)<|v1 (not_f e)<|z0) (congrArg res_Ld (qj hm)) (by kernel_rfl)
    ·exact ge (v1 a<|v1 b<|v1 c<|wO (.res (res_Lc d))<|wP (ok_Lc p0.channels p1.channels d f)<|u1 (not_t e)<|z0) (congrArg res_Ld (qj hm)) (by kernel_rfl)
theorem ok_Ld (p0 p1:Za) (r:Bool) (hm:m_Ld p0 p1=some r):Runs ext tbl 11 (as_Ld p0 p1) (res_Ld r):=
 runs_of (vf:=vf_Ld) (by kernel_rfl) rfl (st:=(enter vf_Ld (as_Ld p0 p1)).getD default) (by kernel_rfl) (go_on [] 1000 J0 (ok_Ld_0 p0 p1 r hm) (by kernel_rfl))
theorem ok_Le_0 (p0 p1:Zb) (r:Bool) (hm:m_Le_0 p0 p1=some r):EE c_Le_0 K_Le_0 (s_Le_0 p0 p1) (Post vf_Le (res_Le r)):=by
 obtain ⟨a,hm⟩|⟨a,hm⟩:=split_ite hm
 ·exact ge (u1 a<|z0) (congrArg res_Le (qj hm)) (by kernel_rfl)
 ·obtain ⟨b,d,hm⟩:=bind_some hm
  obtain ⟨c,hm⟩|⟨c,hm⟩:=split_ite hm
  ·exact ge (v1 a<|wO (.res (res_Ld b))<|wP (ok_Ld p0.sound p1.sound b d)<|v1 (not_f c)<|z0) (congrArg res_Le (qj hm)) (by kernel_rfl)
  ·exact ge (v1 a<|wO (.res (res_Ld b))<|wP (ok_Ld p0.sound p1.sound b d)<|u1 (not_t c)<|z0) (congrArg res_Le (qj hm)) (by kernel_rfl)
theorem ok_Le (p0 p1:Zb) (r:Bool) (hm:m_Le p0 p1=some r):Runs ext tbl 18 (as_Le p0 p1) (res_Le r):=
 runs_of (vf:=vf_Le) (by kernel_rfl) rfl (st:=(enter vf_Le (as_Le p0 p1)).getD default) (by kernel_rfl) (go_on [] 1000 J0 (ok_Le_0 p0 p1 r hm) (by kernel_rfl))
def O_La_15 (Q:VX→St→Prop) (e:(Bool)⊕((Unit))):Prop:=match e with | .inl e=>Q=Post vf_La (res_La e) | .inr e=>EE c_La_31 K_La_31 (s_La_31) Q
theorem ok_La_31 (r:Bool) (hm:m_La_31=some r):EE c_La_31 K_La_31 (s_La_31) (Post vf_La (res_La r)):=by
 exact ge (z0) (congrArg res_La (qj hm)) (by kernel_rfl)
theorem ok_La_15 (p0 p1:LI) (f:Int) (y) (hm:m_La_15 p0 p1 f=some y) (Q)
  (hin:∀ s,y=.inl s→EE c_La_15 K_La_15 (s_La_15 p0 p1 s) Q) (hout:∀ e,y=.inr e→O_La_15 Q e):EE c_La_15 K_La_15 (s_La_15 p0 p1 f) Q:=by
 obtain ⟨a,hm⟩|⟨a,hm⟩:=split_ite hm
 ·obtain ⟨g,b,hm⟩:=bind_some hm
  obtain ⟨h,c,hm⟩:=bind_some hm
  obtain ⟨d,hm⟩|⟨d,hm⟩:=split_ite hm
  ·have hQ:Q=Post vf_La (res_La false):=hout (.inl false) (qj hm).symm
   subst hQ
   exact ge (wL (rI .u8) p0<|u1 a<|wO (.row ((rI .u8) g))<|wO (.row ((rI .u8) h))<|wP (rd_nn b)<|wP (at_row (rI .u8) (rd_get b))<|wP (rd_nn c)<|wP (at_row (rI .u8) (rd_get c))<|u1 d<|z0) (rfl:res_La false=res_La false) (by kernel_rfl)
  ·exact gw (hin _ (qj hm).symm) (wL (rI .u8) p0<|u1 a<|wO (.row ((rI .u8) g))<|wO (.row ((rI .u8) h))<|wP (rd_nn b)<|wP (at_row (rI .u8) (rd_get b))<|wP (rd_nn c)<|wP (at_row (rI .u8) (rd_get c))<|v1 d<|z0) (by kernel_rfl)
 ·refine gm c_La_31 K_La_31 (s_La_31) (wL (rI .u8) p0<|v1 a<|z0) ?_ (by kernel_rfl)
  exact hout (.inr ()) (qj hm).symm
theorem ok_La_0 (p0 p1:LI) (r:Bool) (hm:m_La_0 p0 p1=some r):EE c_La_0 K_La_0 (s_La_0 p0 p1) (Post vf_La (res_La r)):=by
 obtain ⟨a,hm⟩|⟨a,hm⟩:=split_ite hm
 ·exact ge (wL (rI .u8) p0<|wL (rI .u8) p1<|u1 a<|z0) (congrArg res_La (qj hm)) (by kernel_rfl)
 ·refine gm c_La_15 K_La_15 (s_La_15 p0 p1 0) (wL (rI .u8) p0<|wL (rI .u8) p1<|v1 a<|z0) ?_ (by kernel_rfl)
  obtain ⟨e,he,hm⟩:=bind_some hm
  refine loop_rule (u:=.c c_La_15) (K:=K_La_15) (Q:=(Post vf_La (res_La r))) (b:=lp_La_15 p0 p1) (We:=O_La_15 (Post vf_La (res_La r))) (stJ:=fun s=>s_La_15 p0 p1 s) (s:=0) (fun s y hb hin hout=>ok_La_15 p0 p1 s y hb (Post vf_La (res_La r)) hin hout) he ?_
  rcases e with e | e
  ·exact congrArg (fun r=>Post vf_La (res_La r)) (qj hm).symm
  ·show EE c_La_31 K_La_31 (s_La_31) _
   exact ok_La_31 r hm
theorem ok_La (p0 p1:LI) (r:Bool) (hm:m_La p0 p1=some r):Runs ext tbl 10 (as_La p0 p1) (res_La r):=
 runs_of (vf:=vf_La) (by kernel_rfl) rfl (st:=(enter vf_La (as_La p0 p1)).getD default) (by kernel_rfl) (go_on [] 1000 J0 (ok_La_0 p0 p1 r hm) (by kernel_rfl))
def O_Lj_7 (Q:VX→St→Prop) (e:(Int×LI)):Prop:=EE c_Lj_19 K_Lj_19 (s_Lj_19 e.1 e.2) Q
theorem ok_Lj_19 (a:Int) (b:LI) (r:Int×LI) (hm:m_Lj_19 a b=some r):EE c_Lj_19 K_Lj_19 (s_Lj_19 a b) (Post vf_Lj (res_Lj r)):=by
 exact ge (z0) (congrArg res_Lj (qj hm)) (by kernel_rfl)
theorem ok_Lj_7 (a c:Int) (b:LI) (y) (hm:m_Lj_7 a c b=some y) (Q)
  (hin:∀ s,y=.inl s→EE c_Lj_7 K_Lj_7 (s_Lj_7 s.1 s.2.1 s.2.2) Q) (hout:∀ e,y=.inr e→O_Lj_7 Q e):EE c_Lj_7 K_Lj_7 (s_Lj_7 a c b) Q:=by
 obtain ⟨d,hm⟩|⟨d,hm⟩:=split_ite hm
 ·obtain ⟨g,f,hm⟩:=bind_some hm
  exact gw (hin _ (qj hm).symm) (u1 d<|wO (.rows (List.map (rI .u8) (b.set (0+Int.toNat c) (wr .u8 a))))<|wO (zn ((b.set (0+Int.toNat c) (wr .u8 a)).length))<|wP (rd_in rfl f)<|wP (put_ob (rI .u8) (wr .u8 a) 0 (.lit (.int .u8 (wr .u8 a))) (rd_get0 f) (by kernel_rfl) (by kernel_rfl))<|wP (lens b.length ((b.set (0+Int.toNat c) (wr .u8 a)).length) (set_len rfl))<|z0) (by kernel_rfl)
 ·refine gm c_Lj_19 K_Lj_19 (s_Lj_19 a b) (v1 d<|wN b.length<|z0) ?_ (by kernel_rfl)
  exact hout (a,b) (qj hm).symm
theorem ok_Lj_0 (p1:Int) (p0:LI) (r:Int×LI) (hm:m_Lj_0 p1 p0=some r):EE c_Lj_0 K_Lj_0 (s_Lj_0 p1 p0) (Post vf_Lj (res_Lj r)):=by
 refine gm c_Lj_7 K_Lj_7 (s_Lj_7 p1 0 p0) (wN p0.length<|z0) ?_ (by kernel_rfl)
 obtain ⟨e,he,hm⟩:=bind_some hm
 refine loop_rule (u:=.c c_Lj_7) (K:=K_Lj_7) (Q:=(Post vf_Lj (res_Lj r))) (b:=lp_Lj_7) (We:=O_Lj_7 (Post vf_Lj (res_Lj r))) (stJ:=fun s=>s_Lj_7 s.1 s.2.1 s.2.2) (s:=(p1,0,p0)) (fun s y hb hin hout=>ok_Lj_7 s.1 s.2.1 s.2.2 y hb (Post vf_Lj (res_Lj r)) hin hout) he ?_
 show EE c_Lj_19 K_Lj_19 (s_Lj_19 e.1 e.2) _
 exact ok_Lj_19 e.1 e.2 r hm
theorem ok_Lj (p0:LI) (p1:Int) (r:Int×LI) (hm:m_Lj p0 p1=some r):Runs ext tbl 13 (as_Lj p0 p1) (res_Lj r):=
 runs_of (vf:=vf_Lj) (by kernel_rfl) rfl (st:=(enter vf_Lj (as_Lj p0 p1)).getD default) (by kernel_rfl) (go_on [zn p0.length] 1000 (J (len_map (rI .u8) (rfl:p0.length=p0.length)) J0) (ok_Lj_0 p1 p0 r hm) (by kernel_rfl))
def O_Lk_7 (Q:VX→St→Prop) (e:(Int×LI)):Prop:=EE c_Lk_19 K_Lk_19 (s_Lk_19 e.1 e.2) Q
theorem ok_Lk_19 (a:Int) (b:LI) (r:Int×LI) (hm:m_Lk_19 a b=some r):EE c_Lk_19 K_Lk_19 (s_Lk_19 a b) (Post vf_Lk (res_Lk r)):=by
 exact ge (z0) (congrArg res_Lk (qj hm)) (by kernel_rfl)
theorem ok_Lk_7 (a c:Int) (b:LI) (y) (hm:m_Lk_7 a c b=some y) (Q)
  (hin:∀ s,y=.inl s→EE c_Lk_7 K_Lk_7 (s_Lk_7 s.1 s.2.1 s.2.2) Q) (hout:∀ e,y=.inr e→O_Lk_7 Q e):EE c_Lk_7 K_Lk_7 (s_Lk_7 a c b) Q:=by
 obtain ⟨d,hm⟩|⟨d,hm⟩:=split_ite hm
 ·obtain ⟨g,f,hm⟩:=bind_some hm
  exact gw (hin _ (qj hm).symm) (u1 d<|wO (.rows (mi (b.set (0+Int.toNat c) a)))<|wO (zn ((b.set (0+Int.toNat c) a).length))<|wP (rd_in rfl f)<|wP (put_ob (rI .i64) a 0 (.lit (vI a)) (rd_get0 f) (by kernel_rfl) (by kernel_rfl))<|wP (lens b.length ((b.set (0+Int.toNat c) a).length) (set_len rfl))<|z0) (by kernel_rfl)
 ·refine gm c_Lk_19 K_Lk_19 (s_Lk_19 a b) (v1 d<|wN b.length<|z0) ?_ (by kernel_rfl)
  exact hout (a,b) (qj hm).symm
theorem ok_Lk_0 (p1:Int) (p0:LI) (r:Int×LI) (hm:m_Lk_0 p1 p0=some r):EE c_Lk_0 K_Lk_0 (s_Lk_0 p1 p0) (Post vf_Lk (res_Lk r)):=by
 refine gm c_Lk_7 K_Lk_7 (s_Lk_7 p1 0 p0) (wN p0.length<|z0) ?_ (by kernel_rfl)
 obtain ⟨e,he,hm⟩:=bind_some hm
 refine loop_rule (u:=.c c_Lk_7) (K:=K_Lk_7) (Q:=(Post vf_Lk (res_Lk r))) (b:=lp_Lk_7) (We:=O_Lk_7 (Post vf_Lk (res_Lk r))) (stJ:=fun s=>s_Lk_7 s.1 s.2.1 s.2.2) (s:=(p1,0,p0)) (fun s y hb hin hout=>ok_Lk_7 s.1 s.2.1 s.2.2 y hb (Post vf_Lk (res_Lk r)) hin hout) he ?_
 show EE c_Lk_19 K_Lk_19 (s_Lk_19 e.1 e.2) _
 exact ok_Lk_19 e.1 e.2 r hm
theorem ok_Lk (p0:LI) (p1:Int) (r:Int×LI) (hm:m_Lk p0 p1=some r):Runs ext tbl 75 (as_Lk p0 p1) (res_Lk r):=
 runs_of (vf:=vf_Lk) (by kernel_rfl) rfl (st:=(enter vf_Lk (as_Lk p0 p1)).getD default) (by kernel_rfl) (go_on [zn p0.length] 1000 (J (len_map (rI .i64) (rfl:p0.length=p0.length)) J0) (ok_Lk_0 p1 p0 r hm) (by kernel_rfl))
def O_Ll_7 (Q:VX→St→Prop) (e:(Int×(List LI))):Prop:=EE c_Ll_17 K_Ll_17 (s_Ll_17 e.1 e.2) Q
theorem ok_Ll_17 (a:Int) (b:(List LI)) (r:Int×(List LI)) (hm:m_Ll_17 a b=some r):EE c_Ll_17 K_Ll_17 (s_Ll_17 a b) (Post vf_Ll (res_Ll r)):=by
 exact ge (z0) (congrArg res_Ll (qj hm)) (by kernel_rfl)
theorem ok_Ll_7 (f d:Int) (a:(List LI)) (y) (hm:m_Ll_7 f d a=some y) (Q)
  (hin:∀ s,y=.inl s→EE c_Ll_7 K_Ll_7 (s_Ll_7 s.1 s.2.1 s.2.2) Q) (hout:∀ e,y=.inr e→O_Ll_7 Q e):EE c_Ll_7 K_Ll_7 (s_Ll_7 f d a) Q:=by
 obtain ⟨h,hm⟩|⟨h,hm⟩:=split_ite hm
 ·obtain ⟨b,g,hm⟩:=bind_some hm
  obtain ⟨c,i,hm⟩:=bind_some hm
  obtain ⟨k,j,hm⟩:=bind_some hm
  exact gw (hin _ (qj hm).symm) (u1 h<|wO (.row ((rL (rI .i64)) b))<|wP (rd_in rfl g)<|wP (at_row (rL (rI .i64)) (rd_get0 g))<|wL (rI .i64) b<|wO (.row ((rL (rI .i64)) b))<|wO (.res (res_Lk c))<|wO (.row ((rL (rI .i64)) b))<|wO (.row ((rL (rI .i64)) b))<|wO (.rows (List.map (rL (rI .i64)) (a.set (0+Int.toNat d) c.2)))<|wO (zn ((a.set (0+Int.toNat d) c.2).length))<|wP (at_row (rL (rI .i64)) (rd_get0 g))<|wP (all_eq (rI .i64) b rfl)<|wP (ok_Lk b f c i)<|wP (at_row (rL (rI .i64)) (rd_get0 g))<|wP (len2 (rI .i64) c.2 b (ck_p j))<|wP (at_row (rL (rI .i64)) (rd_get0 g))<|wP (upd_ob (rL (rI .i64)) a (0+Int.toNat d) b c.2 0 (.sl (c.2.map (rI .i64))) (by kernel_rfl))<|wP (lens a.length ((a.set (0+Int.toNat d) c.2).length) (set_len rfl))<|z0) (by kernel_rfl)
 ·refine gm c_Ll_17 K_Ll_17 (s_Ll_17 f a) (v1 h<|wN a.length<|z0) ?_ (by kernel_rfl)
  exact hout (f,a) (qj hm).symm
theorem ok_Ll_0 (p1:Int) (p0:(List LI)) (r:Int×(List LI)) (hm:m_Ll_0 p1 p0=some r):EE c_Ll_0 K_Ll_0 (s_Ll_0 p1 p0) (Post vf_Ll (res_Ll r)):=by
 refine gm c_Ll_7 K_Ll_7 (s_Ll_7 p1 0 p0) (wN p0.length<|z0) ?_ (by kernel_rfl)
 obtain ⟨e,he,hm⟩:=bind_some hm
 refine loop_rule (u:=.c c_Ll_7) (K:=K_Ll_7) (Q:=(Post vf_Ll (res_Ll r))) (b:=lp_Ll_7) (We:=O_Ll_7 (Post vf_Ll (res_Ll r))) (stJ:=fun s=>s_Ll_7 s.1 s.2.1 s.2.2) (s:=(p1,0,p0)) (fun s y hb hin hout=>ok_Ll_7 s.1 s.2.1 s.2.2 y hb (Post vf_Ll (res_Ll r)) hin hout) he ?_
 show EE c_Ll_17 K_Ll_17 (s_Ll_17 e.1 e.2) _
 exact ok_Ll_17 e.1 e.2 r hm
theorem ok_Ll (p0:(List LI)) (p1:Int) (r:Int×(List LI)) (hm:m_Ll p0 p1=some r):Runs ext tbl 39 (as_Ll p0 p1) (res_Ll r):=
 runs_of (vf:=vf_Ll) (by kernel_rfl) rfl (st:=(enter vf_Ll (as_Ll p0 p1)).getD default) (by kernel_rfl) (go_on [zn p0.length] 1000 (J (len_map (rL (rI .i64)) (rfl:p0.length=p0.length)) J0) (ok_Ll_0 p1 p0 r hm) (by kernel_rfl))
theorem ok_Lm_0 (p0:Za) (p1:Int) (r:Int×Za) (hm:m_Lm_0 p0 p1=some r):EE c_Lm_0 K_Lm_0 (s_Lm_0 p0 p1) (Post vf_Lm (res_Lm r)):=by
 obtain ⟨a,b,hm⟩:=bind_some hm
 obtain ⟨d,c,hm⟩:=bind_some hm
 exact ge (wO (.res (res_Ll a))<|wP (all_eq (rL (rI .i64)) p0.channels rfl)<|wP (ok_Ll p0.channels p1 a b)<|wP (len2 (rL (rI .i64)) a.2 p0.channels (ck_p c))<|z0) (congrArg res_Lm (qj hm)) (by kernel_rfl)
theorem ok_Lm (p0:Za) (p1:Int) (r:Int×Za) (hm:m_Lm p0 p1=some r):Runs ext tbl 12 (as_Lm p0 p1) (res_Lm r):=
 runs_of (vf:=vf_Lm) (by kernel_rfl) rfl (st:=(enter vf_Lm (as_Lm p0 p1)).getD default) (by kernel_rfl) (go_on [zn p0.channels.length] 1000 (J (len_map (rL (rI .i64)) (rfl:p0.channels.length=p0.channels.length)) J0) (ok_Lm_0 p0 p1 r hm) (by kernel_rfl))
theorem ok_Ln_0 (p0:Zb) (p1:Int) (r:Int×Zb) (hm:m_Ln_0 p0 p1=some r):EE c_Ln_0 K_Ln_0 (s_Ln_0 p0 p1) (Post vf_Ln (res_Ln r)):=by
 obtain ⟨a,b,hm⟩:=bind_some hm
 obtain ⟨d,c,hm⟩:=bind_some hm
 exact ge (wO (.rows (List.map (rL (rI .i64)) p0.sound.channels))<|wO (.res (res_Lm a))<|wP (all_le0 (rL (rI .i64)) p0.sound.channels rfl)<|wP (all_t (rL (rI .i64)) p0.sound.channels rfl)<|wP (all_eq (rL (rI .i64)) p0.sound.channels rfl)<|wP (ok_Lm p0.sound p1 a b)<|wP (len2 (rL (rI .i64)) a.2.channels p0.sound.channels (ck_p c))<|z0) (congrArg res_Ln (qj hm)) (by kernel_rfl)
theorem ok_Ln (p0:Zb) (p1:Int) (r:Int×Zb) (hm:m_Ln p0 p1=some r):Runs ext tbl 19 (as_Ln p0 p1) (res_Ln r):=
 runs_of (vf:=vf_Ln) (by kernel_rfl) rfl (st:=(enter vf_Ln (as_Ln p0 p1)).getD default) (by kernel_rfl) (go_on [zn p0.sound.channels.length] 1000 (J (len_map (rL (rI .i64)) (rfl:p0.sound.channels.length=p0.sound.channels.length)) J0) (ok_Ln_0 p0 p1 r hm) (by kernel_rfl))
def O_Lf_7 (Q:VX→St→Prop) (e:(Int)⊕((Int))):Prop:=match e with | .inl e=>Q=Post vf_Lf (res_Lf e) | .inr e=>EE c_Lf_25 K_Lf_25 (s_Lf_25 e) Q
theorem ok_Lf_25 (a r:Int) (hm:m_Lf_25 a=some r):EE c_Lf_25 K_Lf_25 (s_Lf_25 a) (Post vf_Lf (res_Lf r)):=by
 exact ge (z0) (congrArg res_Lf (qj hm)) (by kernel_rfl)
theorem ok_Lf_7 (p0:LI) (a f:Int) (y) (hm:m_Lf_7 p0 a f=some y) (Q)
  (hin:∀ s,y=.inl s→EE c_Lf_7 K_Lf_7 (s_Lf_7 p0 s.1 s.2) Q) (hout:∀ e,y=.inr e→O_Lf_7 Q e):EE c_Lf_7 K_Lf_7 (s_Lf_7 p0 a f) Q:=by
 obtain ⟨b,hm⟩|⟨b,hm⟩:=split_ite hm
 ·obtain ⟨g,c,hm⟩:=bind_some hm
  obtain ⟨d,hm⟩|⟨d,hm⟩:=split_ite hm
  ·have hQ:Q=Post vf_Lf (res_Lf (-1)):=hout (.inl (-1)) (qj hm).symm
   subst hQ
   exact ge (wL (rI .i64) p0<|u1 b<|wO (.row ((rI .i64) g))<|wP (rd_nn c)<|wP (at_row (rI .i64) (rd_get c))<|u1 d<|z0) (rfl:res_Lf (-1)=res_Lf (-1)) (by kernel_rfl)
  ·exact gw (hin _ (qj hm).symm) (wL (rI .i64) p0<|u1 b<|wO (.row ((rI .i64) g))<|wP (rd_nn c)<|wP (at_row (rI .i64) (rd_get c))<|v1 d<|z0) (by kernel_rfl)
 ·refine gm c_Lf_25 K_Lf_25 (s_Lf_25 a) (wL (rI .i64) p0<|v1 b<|z0) ?_ (by kernel_rfl)
  exact hout (.inr a) (qj hm).symm
theorem ok_Lf_0 (p0:LI) (p1 r:Int) (hm:m_Lf_0 p0 p1=some r):EE c_Lf_0 K_Lf_0 (s_Lf_0 p0 p1) (Post vf_Lf (res_Lf r)):=by
 refine gm c_Lf_7 K_Lf_7 (s_Lf_7 p0 p1 0) (z0) ?_ (by kernel_rfl)
 obtain ⟨e,he,hm⟩:=bind_some hm
 refine loop_rule (u:=.c c_Lf_7) (K:=K_Lf_7) (Q:=(Post vf_Lf (res_Lf r))) (b:=lp_Lf_7 p0) (We:=O_Lf_7 (Post vf_Lf (res_Lf r))) (stJ:=fun s=>s_Lf_7 p0 s.1 s.2) (s:=(p1,0)) (fun s y hb hin hout=>ok_Lf_7 p0 s.1 s.2 y hb (Post vf_Lf (res_Lf r)) hin hout) he ?_
 rcases e with e | e
 ·exact congrArg (fun r=>Post vf_Lf (res_Lf r)) (qj hm).symm
 ·show EE c_Lf_25 K_Lf_25 (s_Lf_25 e) _
  exact ok_Lf_25 e r hm
theorem ok_Lf (p0:LI) (p1 r:Int) (hm:m_Lf p0 p1=some r):Runs ext tbl 97 (as_Lf p0 p1) (res_Lf r):=
 runs_of (vf:=vf_Lf) (by kernel_rfl) rfl (st:=(enter vf_Lf (as_Lf p0 p1)).getD default) (by kernel_rfl) (go_on [] 1000 J0 (ok_Lf_0 p0 p1 r hm) (by kernel_rfl))
def O_Lg_7 (Q:VX→St→Prop) (e:(Int)⊕((Int))):Prop:=match e with | .inl e=>Q=Post vf_Lg (res_Lg e) | .inr e=>EE c_Lg_25 K_Lg_25 (s_Lg_25 e) Q
theorem ok_Lg_25 (a r:Int) (hm:m_Lg_25 a=some r):EE c_Lg_25 K_Lg_25 (s_Lg_25 a) (Post vf_Lg (res_Lg r)):=by
 exact ge (z0) (congrArg res_Lg (qj hm)) (by kernel_rfl)
theorem ok_Lg_7 (p0:(List LI)) (a h:Int) (y) (hm:m_Lg_7 p0 a h=some y) (Q)
  (hin:∀ s,y=.inl s→EE c_Lg_7 K_Lg_7 (s_Lg_7 p0 s.1 s.2) Q) (hout:∀ e,y=.inr e→O_Lg_7 Q e):EE c_Lg_7 K_Lg_7 (s_Lg_7 p0 a h) Q:=by
 obtain ⟨b,hm⟩|⟨b,hm⟩:=split_ite hm
 ·obtain ⟨c,d,hm⟩:=bind_some hm
  obtain ⟨f,i,hm⟩:=bind_some hm
  obtain ⟨g,hm⟩|⟨g,hm⟩:=split_ite hm
  ·have hQ:Q=Post vf_Lg (res_Lg (-1)):=hout (.inl (-1)) (qj hm).symm
   subst hQ
   exact ge (wO (zn p0.length)<|wP (len_map (rL (rI .i64)) (show p0.length=p0.length from rfl))<|u1 b<|wO (.row ((rL (rI .i64)) c))<|wO (.res (res_Lf f))<|wP (rd_nn d)<|wP (at_row (rL (rI .i64)) (rd_get d))<|wP (ok_Lf c a f i)<|u1 g<|z0) (rfl:res_Lg (-1)=res_Lg (-1)) (by kernel_rfl)
  ·exact gw (hin _ (qj hm).symm) (wO (zn p0.length)<|wP (len_map (rL (rI .i64)) (show p0.length=p0.length from rfl))<|u1 b<|wO (.row ((rL (rI .i64)) c))<|wO (.res (res_Lf f))<|wP (rd_nn d)<|wP (at_row (rL (rI .i64)) (rd_get d))<|wP (ok_Lf c a f i)<|v1 g<|z0) (by kernel_rfl)
 ·refine gm c_Lg_25 K_Lg_25 (s_Lg_25 a) (wO (zn p0.length)<|wP (len_map (rL (rI .i64)) (show p0.length=p0.length from rfl))<|v1 b<|z0) ?_ (by kernel_rfl)
  exact hout (.inr a) (qj hm).symm
theorem ok_Lg_0 (p0:(List LI)) (p1 r:Int) (hm:m_Lg_0 p0 p1=some r):EE c_Lg_0 K_Lg_0 (s_Lg_0 p0 p1) (Post vf_Lg (res_Lg r)):=by
 refine gm c_Lg_7 K_Lg_7 (s_Lg_7 p0 p1 0) (z0) ?_ (by kernel_rfl)
 obtain ⟨e,he,hm⟩:=bind_some hm
 refine loop_rule (u:=.c c_Lg_7) (K:=K_Lg_7) (Q:=(Post vf_Lg (res_Lg r))) (b:=lp_Lg_7 p0) (We:=O_Lg_7 (Post vf_Lg (res_Lg r))) (stJ:=fun s=>s_Lg_7 p0 s.1 s.2) (s:=(p1,0)) (fun s y hb hin hout=>ok_Lg_7 p0 s.1 s.2 y hb (Post vf_Lg (res_Lg r)) hin hout) he ?_
 rcases e with e | e
 ·exact congrArg (fun r=>Post vf_Lg (res_Lg r)) (qj hm).symm
 ·show EE c_Lg_25 K_Lg_25 (s_Lg_25 e) _
  exact ok_Lg_25 e r hm
theorem ok_Lg (p0:(List LI)) (p1 r:Int) (hm:m_Lg p0 p1=some r):Runs ext tbl 81 (as_Lg p0 p1) (res_Lg r):=
 runs_of (vf:=vf_Lg) (by kernel_rfl) rfl (st:=(enter vf_Lg (as_Lg p0 p1)).getD default) (by kernel_rfl) (go_on [] 1000 J0 (ok_Lg_0 p0 p1 r hm) (by kernel_rfl))
theorem ok_Lh_0 (p0:Za) (p1 r:Int) (hm:m_Lh_0 p0 p1=some r):EE c_Lh_0 K_Lh_0 (s_Lh_0 p0 p1) (Post vf_Lh (res_Lh r)):=by
 obtain ⟨a,c,hm⟩:=bind_some hm
 obtain ⟨b,hm⟩|⟨b,hm⟩:=split_ite hm
 ·exact ge (wO (.res (res_Lg a))<|wP (ok_Lg p0.channels p1 a c)<|u1 b<|z0) (congrArg res_Lh (qj hm)) (by kernel_rfl)
 ·exact ge (wO (.res (res_Lg a))<|wP (ok_Lg p0.channels p1 a c)<|v1 b<|z0) (congrArg res_Lh (qj hm)) (by kernel_rfl)
theorem ok_Lh (p0:Za) (p1 r:Int) (hm:m_Lh p0 p1=some r):Runs ext tbl 56 (as_Lh p0 p1) (res_Lh r):=
 runs_of (vf:=vf_Lh) (by kernel_rfl) rfl (st:=(enter vf_Lh (as_Lh p0 p1)).getD default) (by kernel_rfl) (go_on [] 1000 J0 (ok_Lh_0 p0 p1 r hm) (by kernel_rfl))
theorem ok_Li_0 (p0:Zb) (p1 r:Int) (hm:m_Li_0 p0 p1=some r):EE c_Li_0 K_Li_0 (s_Li_0 p0 p1) (Post vf_Li (res_Li r)):=by
 obtain ⟨a,c,hm⟩:=bind_some hm
 obtain ⟨b,hm⟩|⟨b,hm⟩:=split_ite hm
 ·exact ge (wO (.res (res_Lh a))<|wP (ok_Lh p0.sound p1 a c)<|u1 b<|z0) (congrArg res_Li (qj hm)) (by kernel_rfl)
 ·exact ge (wO (.res (res_Lh a))<|wP (ok_Lh p0.sound p1 a c)<|v1 b<|z0) (congrArg res_Li (qj hm)) (by kernel_rfl)
theorem ok_Li (p0:Zb) (p1 r:Int) (hm:m_Li p0 p1=some r):Runs ext tbl 20 (as_Li p0 p1) (res_Li r):=
 runs_of (vf:=vf_Li) (by kernel_rfl) rfl (st:=(enter vf_Li (as_Li p0 p1)).getD default) (by kernel_rfl) (go_on [] 1000 J0 (ok_Li_0 p0 p1 r hm) (by kernel_rfl))
theorem ok_laws_FnExactDecodeSound_0 (p0:LI) (r:Bool) (hm:m_laws_FnExactDecodeSound_0 p0=some r):EE c_laws_FnExactDecodeSound_0 K_laws_FnExactDecodeSound_0 (s_laws_FnExactDecodeSound_0 p0) (Post vf_laws_FnExactDecodeSound (res_laws_FnExactDecodeSound r)):=by
 obtain ⟨m,hm⟩|⟨m,hm⟩:=split_ite hm
 ·exact ge (wL (rI .u8) p0<|u1 m<|z0) (congrArg res_laws_FnExactDecodeSound (qj hm)) (by kernel_rfl)
 ·obtain ⟨a,g,hm⟩:=bind_some hm
  obtain ⟨c,p,hm⟩:=bind_some hm
  obtain ⟨b,o,hm⟩:=bind_some hm
  obtain ⟨f,k,hm⟩:=bind_some hm
  obtain ⟨i,hm⟩|⟨i,hm⟩:=split_ite hm
  ·obtain ⟨l,s,hm⟩:=bind_some hm
   obtain ⟨q,hm⟩|⟨q,hm⟩:=split_ite hm
   ·obtain ⟨h,u,hm⟩:=bind_some hm
    obtain ⟨z,v,hm⟩:=bind_some hm
    obtain ⟨e,hm⟩|⟨e,hm⟩:=split_ite hm
    ·exact ge (wL (rI .u8) p0<|v1 m<|wO (.res (res_Lo a))<|wP (ok_Lo p0 a g)<|wL (rI .u8) a<|wO (.rows (List.map (rI .u8) a))<|wO (.res (res_Sb c))<|wO (zn c.sound.channels.length)<|wO (.res (res_Lo a))<|wP (all_le (rI .u8) a rfl)<|wP (all_dt (rI .u8) a rfl)<|wP (ok_Sb a c p)<|wP (len_map (rL (rI .i64)) (show c.sound.channels.length=c.sound.channels.length from rfl))<|wP (ok_Lo p0 a g)<|wL (rI .u8) a<|wO (.rows (List.map (rI .u8) a))<|wO (.res (res_Ib b))<|wO (zn b.sound.channels.length)<|wO (.rows (List.map (rL (rI .i64)) b.sound.channels))<|wO (.rows (List.map (rL (rI .i64)) c.sound.channels))<|wO (.res (res_Le f))<|wO zF<|wO (.res (res_Lo a))<|wO (zn a.length)<|wO (.rows (List.map (rI .u8) a))<|wO (.rows (List.map (rI .u8) a))<|wO (.res (res_La l))<|wO zF<|wO (.res (res_Lj h))<|wO zT<|wO zT<|wO zT<|wO zT<|wO zT<|wO zT<|wP (all_le (rI .u8) a rfl)<|wP (all_dt (rI .u8) a rfl)<|wP (ok_Ib a b o)<|wP (len_map (rL (rI .i64)) (show b.sound.channels.length=b.sound.channels.length from rfl))<|wP (all_le (rL (rI .i64)) b.sound.channels rfl)<|wP (all_dt (rL (rI .i64)) b.sound.channels rfl)<|wP (all_le (rL (rI .i64)) c.sound.channels rfl)<|wP (all_dt (rL (rI .i64)) c.sound.channels rfl)<|wP (ok_Le b c f k)<|wP (not_f i)<|wP (ok_Lo p0 a g)<|wP (lm (rI .u8) a)<|wP (all_le (rI .u8) a rfl)<|wP (all_dt (rI .u8) a rfl)<|wP (all_le (rI .u8) a rfl)<|wP (all_dt (rI .u8) a rfl)<|wP (ok_La a a l s)<|wP (not_f q)<|wP (all_eq (rI .u8) a rfl)<|wP (ok_Lj a 1 h u)<|wP (len2 (rI .u8) h.2 a (ck_p v))<|wP e<|wP e<|wP e<|wP e<|wP e<|wP eT<|z0) (congrArg res_laws_FnExactDecodeSound (qj hm)) (by kernel_rfl)
    ·obtain ⟨d,y,hm⟩:=bind_some hm
     obtain ⟨A,j,hm⟩:=bind_some hm
     obtain ⟨n,w,hm⟩:=bind_some hm
     obtain ⟨t,hm⟩|⟨t,hm⟩:=split_ite hm
     ·exact ge (wL (rI .u8) p0<|v1 m<|wO (.res (res_Lo a))<|wP (ok_Lo p0 a g)<|wL (rI .u8) a<|wO (.rows (List.map (rI .u8) a))<|wO (.res (res_Sb c))<|wO (zn c.sound.channels.length)<|wO (.res (res_Lo a))<|wP (all_le (rI .u8) a rfl)<|wP (all_dt (rI .u8) a rfl)<|wP (ok_Sb a c p)<|wP (len_map (rL (rI .i64)) (show c.sound.channels.length=c.sound.channels.length from rfl))<|wP (ok_Lo p0 a g)<|wL (rI .u8) a<|wO (.rows (List.map (rI .u8) a))<|wO (.res (res_Ib b))<|wO (zn b.sound.channels.length)<|wO (.rows (List.map (rL (rI .i64)) b.sound.channels))<|wO (.rows (List.map (rL (rI .i64)) c.sound.channels))<|wO (.res (res_Le f))<|wO zF<|wO (.res (res_Lo a))<|wO (zn a.length)<|wO (.rows (List.map (rI .u8) a))<|wO (.rows (List.map (rI .u8) a))<|wO (.res (res_La l))<|wO zF<|wO (.res (res_Lj h))<|wO zF<|wO zF<|wO zF<|wO (.rows (List.map (rL (rI .i64)) b.sound.channels))<|wO (.rows (List.map (rL (rI .i64)) c.sound.channels))<|wO (.res (res_Le f))<|wO zF<|wO zF<|wO zF<|wO (.rows (List.map (rL (rI .i64)) b.sound.channels))<|wO (.res (res_Ln d))<|wO (.rows (List.map (rL (rI .i64)) d.2.sound.channels))<|wO (.res (res_Li n))<|wO zT<|wP (all_le (rI .u8) a rfl)<|wP (all_dt (rI .u8) a rfl)<|wP (ok_Ib a b o)<|wP (len_map (rL (rI .i64)) (show b.sound.channels.length=b.sound.channels.length from rfl))<|wP (all_le (rL (rI .i64)) b.sound.channels rfl)<|wP (all_dt (rL (rI .i64)) b.sound.channels rfl)<|wP (all_le (rL (rI .i64)) c.sound.channels rfl)<|wP (all_dt (rL (rI .i64)) c.sound.channels rfl)<|wP (ok_Le b c f k)<|wP (not_f i)<|wP (ok_Lo p0 a g)<|wP (lm (rI .u8) a)<|wP (all_le (rI .u8) a rfl)<|wP (all_dt (rI .u8) a rfl)<|wP (all_le (rI .u8) a rfl)<|wP (all_dt (rI .u8) a rfl)<|wP (ok_La a a l s)<|wP (not_f q)<|wP (all_eq (rI .u8) a rfl)<|wP (ok_Lj a 1 h u)<|wP (len2 (rI .u8) h.2 a (ck_p v))<|wP e<|wP e<|wP e<|wP (all_le (rL (rI .i64)) b.sound.channels rfl)<|wP (all_dt (rL (rI .i64)) b.sound.channels rfl)<|wP (all_le (rL (rI .i64)) c.sound.channels rfl)<|wP (all_dt (rL (rI .i64)) c.sound.channels rfl)<|wP (ok_Le b c f k)<|wP e<|wP e<|wP (not_f i)<|wP (all_le0 (rL (rI .i64)) b.sound.channels rfl)<|wP (all_t (rL (rI .i64)) b.sound.channels rfl)<|wP (all_eq (rL (rI .i64)) b.sound.channels rfl)<|wP (ok_Ln b 1 d y)<|wP (len2 (rL (rI .i64)) d.2.sound.channels b.sound.channels (ck_p j))<|wP (all_le (rL (rI .i64)) d.2.sound.channels (Eq.trans rfl (Eq.symm (ck_p j))))<|wP (all_dt (rL (rI .i64)) d.2.sound.channels (Eq.trans rfl (Eq.symm (ck_p j))))<|wP (ok_Li (Zb.mk b.err (Za.mk b.sound.rate b.sound.bits b.sound.frame d.2.sound.channels)) 1 n w)<|wP t<|z0) (congrArg res_laws_FnExactDecodeSound (qj hm)) (by kernel_rfl)
     ·obtain ⟨x,hm⟩|⟨x,hm⟩:=split_ite hm
      ·exact ge (wL (rI .u8) p0<|v1 m<|wO (.res (res_Lo a))<|wP (ok_Lo p0 a g)<|wL (rI .u8) a<|wO (.rows (List.map (rI .u8) a))<|wO (.res (res_Sb c))<|wO (zn c.sound.channels.length)<|wO (.res (res_Lo a))<|wP (all_le (rI .u8) a rfl)<|wP (all_dt (rI .u8) a rfl)<|wP (ok_Sb a c p)<|wP (len_map (rL (rI .i64)) (show c.sound.channels.length=c.sound.channels.length from rfl))<|wP (ok_Lo p0 a g)<|wL (rI .u8) a<|wO (.rows (List.map (rI .u8) a))<|wO (.res (res_Ib b))<|wO (zn b.sound.channels.length)<|wO (.rows (List.map (rL (rI .i64)) b.sound.channels))<|wO (.rows (List.map (rL (rI .i64)) c.sound.channels))<|wO (.res (res_Le f))<|wO zF<|wO (.res (res_Lo a))<|wO (zn a.length)<|wO (.rows (List.map (rI .u8) a))<|wO (.rows (List.map (rI .u8) a))<|wO (.res (res_La l))<|wO zF<|wO (.res (res_Lj h))<|wO zF<|wO zF<|wO zF<|wO (.rows (List.map (rL (rI .i64)) b.sound.channels))<|wO (.rows (List.map (rL (rI .i64)) c.sound.channels))<|wO (.res (res_Le f))<|wO zF<|wO zF<|wO zF<|wO (.rows (List.map (rL (rI .i64)) b.sound.channels))<|wO (.res (res_Ln d))<|wO (.rows (List.map (rL (rI .i64)) d.2.sound.channels))<|wO (.res (res_Li n))<|wO zF<|wO zT<|wP (all_le (rI .u8) a rfl)<|wP (all_dt (rI .u8) a rfl)<|wP (ok_Ib a b o)<|wP (len_map (rL (rI .i64)) (show b.sound.channels.length=b.sound.channels.length from rfl))<|wP (all_le (rL (rI .i64)) b.sound.channels rfl)<|wP (all_dt (rL (rI .i64)) b.sound.channels rfl)<|wP (all_le (rL (rI .i64)) c.sound.channels rfl)<|wP (all_dt (rL (rI .i64)) c.sound.channels rfl)<|wP (ok_Le b c f k)<|wP (not_f i)<|wP (ok_Lo p0 a g)<|wP (lm (rI .u8) a)<|wP (all_le (rI .u8) a rfl)<|wP (all_dt (rI .u8) a rfl)<|wP (all_le (rI .u8) a rfl)<|wP (all_dt (rI .u8) a rfl)<|wP (ok_La a a l s)<|wP (not_f q)<|wP (all_eq (rI .u8) a rfl)<|wP (ok_Lj a 1 h u)<|wP (len2 (rI .u8) h.2 a (ck_p v))<|wP e<|wP e<|wP e<|wP (all_le (rL (rI .i64)) b.sound.channels rfl)<|wP (all_dt (rL (rI .i64)) b.sound.channels rfl)<|wP (all_le (rL (rI .i64)) c.sound.channels rfl)<|wP (all_dt (rL (rI .i64)) c.sound.channels rfl)<|wP (ok_Le b c f k)<|wP e<|wP e<|wP (not_f i)<|wP (all_le0 (rL (rI .i64)) b.sound.channels rfl)<|wP (all_t (rL (rI .i64)) b.sound.channels rfl)<|wP (all_eq (rL (rI .i64)) b.sound.channels rfl)<|wP (ok_Ln b 1 d y)<|wP (len2 (rL (rI .i64)) d.2.sound.channels b.sound.channels (ck_p j))<|wP (all_le (rL (rI .i64)) d.2.sound.channels (Eq.trans rfl (Eq.symm (ck_p j))))<|wP (all_dt (rL (rI .i64)) d.2.sound.channels (Eq.trans rfl (Eq.symm (ck_p j))))<|wP (ok_Li (Zb.mk b.err (Za.mk b.sound.rate b.sound.bits b.sound.frame d.2.sound.channels)) 1 n w)<|wP t<|wP x<|z0) (congrArg res_laws_FnExactDecodeSound (qj hm)) (by kernel_rfl)
      ·exact ge (wL (rI .u8) p0<|v1 m<|wO (.res (res_Lo a))<|wP (ok_Lo p0 a g)<|wL (rI .u8) a<|wO (.rows (List.map (rI .u8) a))<|wO (.res (res_Sb c))<|wO (zn c.sound.channels.length)<|wO (.res (res_Lo a))<|wP (all_le (rI .u8) a rfl)<|wP (all_dt (rI .u8) a rfl)<|wP (ok_Sb a c p)<|wP (len_map (rL (rI .i64)) (show c.sound.channels.length=c.sound.channels.length from rfl))<|wP (ok_Lo p0 a g)<|wL (rI .u8) a<|wO (.rows (List.map (rI .u8) a))<|wO (.res (res_Ib b))<|wO (zn b.sound.channels.length)<|wO (.rows (List.map (rL (rI .i64)) b.sound.channels))<|wO (.rows (List.map (rL (rI .i64)) c.sound.channels))<|wO (.res (res_Le f))<|wO zF<|wO (.res (res_Lo a))<|wO (zn a.length)<|wO (.rows (List.map (rI .u8) a))<|wO (.rows (List.map (rI .u8) a))<|wO (.res (res_La l))<|wO zF<|wO (.res (res_Lj h))<|wO zF<|wO zF<|wO zF<|wO (.rows (List.map (rL (rI .i64)) b.sound.channels))<|wO (.rows (List.map (rL (rI .i64)) c.sound.channels))<|wO (.res (res_Le f))<|wO zF<|wO zF<|wO zF<|wO (.rows (List.map (rL (rI .i64)) b.sound.channels))<|wO (.res (res_Ln d))<|wO (.rows (List.map (rL (rI .i64)) d.2.sound.channels))<|wO (.res (res_Li n))<|wO zF<|wO zF<|wO (.res (res_Lo a))<|wO (zn a.length)<|wO (.rows (List.map (rI .u8) a))<|wO (.res (res_Ib b))<|wO (zn b.sound.channels.length)<|wO (.rows (List.map (rL (rI .i64)) b.sound.channels))<|wO (.rows (List.map (rL (rI .i64)) c.sound.channels))<|wO (.res (res_Le f))<|wO zF<|wO (.rows (List.map (rL (rI .i64)) d.2.sound.channels))<|wO (.res (res_Li n))<|wO zF<|wO zF<|wP (all_le (rI .u8) a rfl)<|wP (all_dt (rI .u8) a rfl)<|wP (ok_Ib a b o)<|wP (len_map (rL (rI .i64)) (show b.sound.channels.length=b.sound.channels.length from rfl))<|wP (all_le (rL (rI .i64)) b.sound.channels rfl)<|wP (all_dt (rL (rI .i64)) b.sound.channels rfl)<|wP (all_le (rL (rI .i64)) c.sound.channels rfl)<|wP (all_dt (rL (rI .i64)) c.sound.channels rfl)<|wP (ok_Le b c f k)<|wP (not_f i)<|wP (ok_Lo p0 a g)<|wP (lm (rI .u8) a)<|wP (all_le (rI .u8) a rfl)<|wP (all_dt (rI .u8) a rfl)<|wP (all_le (rI .u8) a rfl)<|wP (all_dt (rI .u8) a rfl)<|wP (ok_La a a l s)<|wP (not_f q)<|wP (all_eq (rI .u8) a rfl)<|wP (ok_Lj a 1 h u)<|wP (len2 (rI .u8) h.2 a (ck_p v))<|wP e<|wP e<|wP e<|wP (all_le (rL (rI .i64)) b.sound.channels rfl)<|wP (all_dt (rL (rI .i64)) b.sound.channels rfl)<|wP (all_le (rL (rI .i64)) c.sound.channels rfl)<|wP (all_dt (rL (rI .i64)) c.sound.channels rfl)<|wP (ok_Le b c f k)<|wP e<|wP e<|wP (not_f i)<|wP (all_le0 (rL (rI .i64)) b.sound.channels rfl)<|wP (all_t (rL (rI .i64)) b.sound.channels rfl)<|wP (all_eq (rL (rI .i64)) b.sound.channels rfl)<|wP (ok_Ln b 1 d y)<|wP (len2 (rL (rI .i64)) d.2.sound.channels b.sound.channels (ck_p j))<|wP (all_le (rL (rI .i64)) d.2.sound.channels (Eq.trans rfl (Eq.symm (ck_p j))))<|wP (all_dt (rL (rI .i64)) d.2.sound.channels (Eq.trans rfl (Eq.symm (ck_p j))))<|wP (ok_Li (Zb.mk b.err (Za.mk b.sound.rate b.sound.bits b.sound.frame d.2.sound.channels)) 1 n w)<|wP t<|wP x<|wP (ok_Lo p0 a g)<|wP (lm (rI .u8) a)<|wP (all_le (rI .u8) a rfl)<|wP (all_dt (rI .u8) a rfl)<|wP (ok_Ib a b o)<|wP (len_map (rL (rI .i64)) (show b.sound.channels.length=b.sound.channels.length from rfl))<|wP (all_le (rL (rI .i64)) b.sound.channels rfl)<|wP (all_dt (rL (rI .i64)) b.sound.channels rfl)<|wP (all_le (rL (rI .i64)) c.sound.channels rfl)<|wP (all_dt (rL (rI .i64)) c.sound.channels rfl)<|wP (ok_Le b c f k)<|wP (not_f i)<|wP (all_le (rL (rI .i64)) d.2.sound.channels (Eq.trans rfl (Eq.symm (ck_p j))))<|wP (all_dt (rL (rI .i64)) d.2.sound.channels (Eq.trans rfl (Eq.symm (ck_p j))))<|wP (ok_Li (Zb.mk b.err (Za.mk b.sound.rate b.sound.bits b.sound.frame d.2.sound.channels)) 1 n w)<|wP t<|wP x<|z0) (congrArg res_laws_FnExactDecodeSound (qj hm)) (by kernel_rfl)
   ·exact ge (wL (rI .u8) p0<|v1 m<|wO (.res (res_Lo a))<|wP (ok_Lo p0 a g)<|wL (rI .u8) a<|wO (.rows (List.map (rI .u8) a))<|wO (.res (res_Sb c))<|wO (zn c.sound.channels.length)<|wO (.res (res_Lo a))<|wP (all_le (rI .u8) a rfl)<|wP (all_dt (rI .u8) a rfl)<|wP (ok_Sb a c p)<|wP (len_map (rL (rI .i64)) (show c.sound.channels.length=c.sound.channels.length from rfl))<|wP (ok_Lo p0 a g)<|wL (rI .u8) a<|wO (.rows (List.map (rI .u8) a))<|wO (.res (res_Ib b))<|wO (zn b.sound.channels.length)<|wO (.rows (List.map (rL (rI .i64)) b.sound.channels))<|wO (.rows (List.map (rL (rI .i64)) c.sound.channels))<|wO (.res (res_Le f))<|wO zF<|wO (.res (res_Lo a))<|wO (zn a.length)<|wO (.rows (List.map (rI .u8) a))<|wO (.rows (List.map (rI .u8) a))<|wO (.res (res_La l))<|wO zT<|wP (all_le (rI .u8) a rfl)<|wP (all_dt (rI .u8) a rfl)<|wP (ok_Ib a b o)<|wP (len_map (rL (rI .i64)) (show b.sound.channels.length=b.sound.channels.length from rfl))<|wP (all_le (rL (rI .i64)) b.sound.channels rfl)<|wP (all_dt (rL (rI .i64)) b.sound.channels rfl)<|wP (all_le (rL (rI .i64)) c.sound.channels rfl)<|wP (all_dt (rL (rI .i64)) c.sound.channels rfl)<|wP (ok_Le b c f k)<|wP (not_f i)<|wP (ok_Lo p0 a g)<|wP (lm (rI .u8) a)<|wP (all_le (rI .u8) a rfl)<|wP (all_dt (rI .u8) a rfl)<|wP (all_le (rI .u8) a rfl)<|wP (all_dt (rI .u8) a rfl)<|wP (ok_La a a l s)<|wP (not_t q)<|z0) (congrArg res_laws_FnExactDecodeSound (qj hm)) (by kernel_rfl)
  ·exact ge (wL (rI .u8) p0<|v1 m<|wO (.res (res_Lo a))<|wP (ok_Lo p0 a g)<|wL (rI .u8) a<|wO (.rows (List.map (rI .u8) a))<|wO (.res (res_Sb c))<|wO (zn c.sound.channels.length)<|wO (.res (res_Lo a))<|wP (all_le (rI .u8) a rfl)<|wP (all_dt (rI .u8) a rfl)<|wP (ok_Sb a c p)<|wP (len_map (rL (rI .i64)) (show c.sound.channels.length=c.sound.channels.length from rfl))<|wP (ok_Lo p0 a g)<|wL (rI .u8) a<|wO (.rows (List.map (rI .u8) a))<|wO (.res (res_Ib b))<|wO (zn b.sound.channels.length)<|wO (.rows (List.map (rL (rI .i64)) b.sound.channels))<|wO (.rows (List.map (rL (rI .i64)) c.sound.channels))<|wO (.res (res_Le f))<|wO zT<|wP (all_le (rI .u8) a rfl)<|wP (all_dt (rI .u8) a rfl)<|wP (ok_Ib a b o)<|wP (len_map (rL (rI .i64)) (show b.sound.channels.length=b.sound.channels.length from rfl))<|wP (all_le (rL (rI .i64)) b.sound.channels rfl)<|wP (all_dt (rL (rI .i64)) b.sound.channels rfl)<|wP (all_le (rL (rI .i64)) c.sound.channels rfl)<|wP (all_dt (rL (rI .i64)) c.sound.channels rfl)<|wP (ok_Le b c f k)<|wP (not_t i)<|z0) (congrArg res_laws_FnExactDecodeSound (qj hm)) (by kernel_rfl)
theorem ok_laws_FnExactDecodeSound (p0:LI) (r:Bool) (hm:m_laws_FnExactDecodeSound p0=some r):Runs ext tbl 4 (as_laws_FnExactDecodeSound p0) (res_laws_FnExactDecodeSound r):=
 runs_of (vf:=vf_laws_FnExactDecodeSound) (by kernel_rfl) rfl (st:=(enter vf_laws_FnExactDecodeSound (as_laws_FnExactDecodeSound p0)).getD default) (by kernel_rfl) (go_on [] 1000 J0 (ok_laws_FnExactDecodeSound_0 p0 r hm) (by kernel_rfl))
end Go.Proofs.V

namespace Go.Proofs.V
open Go
theorem all_fi:∀ x ∈ tblL,x.2.given=false→funcIs Go.Proofs.Try.prog tbl x.1 x.2=true:=by
 simp only [tblL,List.forall_mem_cons]
 exact ⟨(fun _=>fi_Lo),(fun _=>fi_Ss),(fun _=>fi_St),(fun _=>fi_Sj),(fun _=>fi_Sq),(fun _=>fi_Sn),(fun _=>fi_Sf),(fun _=>fi_Sp),(fun _=>fi_Si),(fun _=>fi_Sd),(fun _=>fi_So),(fun _=>fi_Sm),(fun _=>fi_Sk),(fun _=>fi_Sa),(fun _=>fi_Se),(fun _=>fi_Sc),(fun _=>fi_Sh),(fun _=>fi_Sr),(fun _=>fi_Sg),(fun _=>fi_Sl),(fun _=>fi_Sb),(fun _=>fi_Ic),(fun _=>fi_Il),(fun _=>fi_Io),(fun _=>fi_Iq),(fun _=>fi_Im),(fun _=>fi_Id),(fun _=>fi_In),(fun _=>fi_Ii),(fun _=>fi_If),(fun _=>fi_Ip),(fun _=>fi_Ia),(fun _=>fi_Ih),(fun _=>fi_Ij),(fun _=>fi_Ie),(fun _=>fi_Ik),(fun _=>fi_Ig),(fun _=>fi_Ib),(fun _=>fi_Lb),(fun _=>fi_Lc),(fun _=>fi_Ld),(fun _=>fi_Le),(fun _=>fi_La),(fun _=>fi_Lj),(fun _=>fi_Lk),(fun _=>fi_Ll),(fun _=>fi_Lm),(fun _=>fi_Ln),(fun _=>fi_Lf),(fun _=>fi_Lg),(fun _=>fi_Lh),(fun _=>fi_Li),(fun _=>fi_laws_FnExactDecodeSound),fun _ h=>by cases h⟩
theorem all_given:∀ x ∈ tblL,x.2.given=true→∀ ars res st0,enter x.2 ars=some st0→ext x.1 ars=some res→callable Go.Proofs.Try.prog x.1=true∧Does gI Go.Proofs.Try.prog x.1 x.2 st0 res:=by
 simp only [tblL,List.forall_mem_cons]
 exact ⟨(fun h=>by cases h),(fun h=>by cases h),(fun h=>by cases h),(fun h=>by cases h),(fun h=>by cases h),(fun h=>by cases h),(fun h=>by cases h),(fun h=>by cases h),(fun h=>by cases h),(fun h=>by cases h),(fun h=>by cases h),(fun h=>by cases h),(fun h=>by cases h),(fun h=>by cases h),(fun h=>by cases h),(fun h=>by cases h),(fun h=>by cases h),(fun h=>by cases h),(fun h=>by cases h),(fun h=>by cases h),(fun h=>by cases h),(fun h=>by cases h),(fun h=>by cases h),(fun h=>by cases h),(fun h=>by cases h),(fun h=>by cases h),(fun h=>by cases h),(fun h=>by cases h),(fun h=>by cases h),(fun h=>by cases h),(fun h=>by cases h),(fun h=>by cases h),(fun h=>by cases h),(fun h=>by cases h),(fun h=>by cases h),(fun h=>by cases h),(fun h=>by cases h),(fun h=>by cases h),(fun h=>by cases h),(fun h=>by cases h),(fun h=>by cases h),(fun h=>by cases h),(fun h=>by cases h),(fun h=>by cases h),(fun h=>by cases h),(fun h=>by cases h),(fun h=>by cases h),(fun h=>by cases h),(fun h=>by cases h),(fun h=>by cases h),(fun h=>by cases h),(fun h=>by cases h),(fun h=>by cases h),fun _ h=>by cases h⟩
theorem sound:∀ n,FSound gI Go.Proofs.Try.prog tbl (vrun ext tbl n):=table_sound (fun _=>rfl) ext all_given all_fi
def lawPs:List (Bool×List Ty):=[(false,[.sl [.int .u8]])]
theorem pure_law:LawPure ext tbl 4 lawPs:=by
 intro tss hl hw
 match tss,hl with
 | [t0],_=>
  obtain ⟨x0,rfl,w0⟩ :=(dec_sl (dec_int .u8)) t0 (hw 0 _ t0 rfl rfl)
  exact ok_laws_FnExactDecodeSound x0 true (final_FnExactDecodeSound x0 w0)
end Go.Proofs.V
