import Derived.Test.YtcppkjgbnhcikaaFnExactRunPlayerV4
set_option linter.unusedVariables false
set_option maxRecDepth 100000
namespace Go.Proofs.V
open Go
theorem ok_Se_17 (p0:S_Box) (i17_0 i17_1:Int) (l17_2:(List Int)) (y) (hm:m_Se_17 p0 i17_0 i17_1 l17_2=some y) (Q)
  (hin:∀ s,y=.inl s→EE c_Se_17 K_Se_17 (s_Se_17 p0 s.1 s.2.1 s.2.2) Q) (hout:∀ e,y=.inr e→O_Se_17 p0 Q e):EE c_Se_17 K_Se_17 (s_Se_17 p0 i17_0 i17_1 l17_2) Q:=by
 obtain ⟨h17_0,hm⟩|⟨h17_0,hm⟩:=split_ite hm
 ·obtain ⟨x17_1,h17_1,hm⟩:=bind_some hm
  exact gh (hin _ (qj hm).symm) [zT,.rows (mi (l17_2.set (0+Int.toNat i17_1) (-1))),zn ((l17_2.set (0+Int.toNat i17_1) (-1)).length)] (J h17_0 (J (rd_in rfl h17_1) (J (put_ob (rI .i64) (-1) 0 (.lit (vI (-1))) (rd_get0 h17_1) (by kernel_rfl) (by kernel_rfl)) (J (lens l17_2.length ((l17_2.set (0+Int.toNat i17_1) (-1)).length) (set_len rfl)) J0)))) (by kernel_rfl)
 ·refine gn c_Se_29 K_Se_29 (s_Se_29 p0 l17_2) [zF,zn l17_2.length] (J h17_0 (J (ln l17_2.length) J0)) ?_ (by kernel_rfl)
  exact hout l17_2 (qj hm).symm
theorem ok_Se_0 (p0:S_Box) (r:Bool) (hm:m_Se_0 p0=some r):EE c_Se_0 K_Se_0 (s_Se_0 p0) (Post vf_Se (res_Se r)):=by
 obtain ⟨x0_0,h0_0,hm⟩:=bind_some hm
 obtain ⟨h0_1,hm⟩|⟨h0_1,hm⟩:=split_ite hm
 ·obtain ⟨h0_2,hm⟩|⟨h0_2,hm⟩:=split_ite hm
  ·exact go_end [.res (res_Sh x0_0),zF,zF,zF,zn p0.packets.length,zF,zF,zT] 1000 (J (ok_Sh p0.tracks x0_0 h0_0) (J (not_f h0_1) (J (not_f h0_1) (J (not_f h0_1) (J (lm rS_Packet p0.packets) (J (not_f h0_1) (J (not_f h0_1) (J h0_2 J0)))))))) (congrArg res_Se (qj hm)) (by kernel_rfl)
  ·obtain ⟨x0_3,h0_3,hm⟩:=bind_some hm
   refine gn c_Se_17 K_Se_17 (s_Se_17 p0 ((Int.toNat (p0.tracks.length:Int)):Int) 0 (List.replicate (Int.toNat (p0.tracks.length:Int)) (0:Int))) [.res (res_Sh x0_0),zF,zF,zF,zn p0.packets.length,zF,zF,zF,zn p0.tracks.length,.rows (mi (List.replicate (Int.toNat (p0.tracks.length:Int)) (0:Int))),zn (Int.toNat (p0.tracks.length:Int)),zn ((List.replicate (Int.toNat (p0.tracks.length:Int)) (0:Int)).length)] (J (ok_Sh p0.tracks x0_0 h0_0) (J (not_f h0_1) (J (not_f h0_1) (J (not_f h0_1) (J (lm rS_Packet p0.packets) (J (not_f h0_1) (J (not_f h0_1) (J h0_2 (J (lm rS_Track p0.tracks) (J (ck_p h0_3) (J (rep_ob (rI .i64) (Int.toNat (p0.tracks.length:Int)) (0:Int) [.lit (vI 0)] (by kernel_rfl)) (J (len_map (rI .i64) (show (Int.toNat (p0.tracks.length:Int))=(List.replicate (Int.toNat (p0.tracks.length:Int)) (0:Int)).length from (rep_len (Int.toNat (p0.tracks.length:Int)) (0:Int)))) (J (lens (Int.toNat (p0.tracks.length:Int)) ((List.replicate (Int.toNat (p0.tracks.length:Int)) (0:Int)).length) (rep_len (Int.toNat (p0.tracks.length:Int)) (0:Int))) J0))))))))))))) ?_ (by kernel_rfl)
   obtain ⟨e,he,hm⟩:=bind_some hm
   refine loop_rule (u:=.c c_Se_17) (K:=K_Se_17) (Q:=(Post vf_Se (res_Se r))) (b:=lp_Se_17 p0) (We:=O_Se_17 p0 (Post vf_Se (res_Se r))) (stJ:=fun s=>s_Se_17 p0 s.1 s.2.1 s.2.2) (s:=(((Int.toNat (p0.tracks.length:Int)):Int),0,(List.replicate (Int.toNat (p0.tracks.length:Int)) (0:Int)))) (fun s y hb hin hout=>ok_Se_17 p0 s.1 s.2.1 s.2.2 y hb (Post vf_Se (res_Se r)) hin hout) he ?_
   show EE c_Se_29 K_Se_29 (s_Se_29 p0 e) _
   exact ok_Se_29 p0 e r hm
 ·exact go_end [.res (res_Sh x0_0),zT,zT,zT,zT,zT,zT] 1000 (J (ok_Sh p0.tracks x0_0 h0_0) (J4 (not_t h0_1) (J (not_t h0_1) (J eT J0)))) (congrArg res_Se (qj hm)) (by kernel_rfl)
theorem ok_Se (p0:S_Box) (r:Bool) (hm:m_Se p0=some r):Runs ext tbl 103 (as_Se p0) (res_Se r):=
 runs_of (vf:=vf_Se) (by kernel_rfl) rfl (st:=(enter vf_Se (as_Se p0)).getD default) (by kernel_rfl) (go_on [] 1000 J0 (ok_Se_0 p0 r hm) (by kernel_rfl))
theorem ok_Sd_0 (p0:S_Box) (p1 p2:Int) (r:Bool) (hm:m_Sd_0 p0 p1 p2=some r):EE c_Sd_0 K_Sd_0 (s_Sd_0 p0 p1 p2) (Post vf_Sd (res_Sd r)):=by
 obtain ⟨x0_0,h0_0,hm⟩:=bind_some hm
 obtain ⟨x0_1,h0_1,hm⟩:=bind_some hm
 obtain ⟨x0_2,h0_2,hm⟩:=bind_some hm
 obtain ⟨x0_3,h0_3,hm⟩:=bind_some hm
 obtain ⟨h0_4,hm⟩|⟨h0_4,hm⟩:=split_ite hm
 ·exact go_end [.row (rS_Packet x0_0),.row (rS_Packet x0_1),.row (rS_Track x0_2),.row (rS_Track x0_3),zT] 1000 (J (rd_nn h0_0) (J (at_row rS_Packet (rd_get h0_0)) (J (rd_nn h0_1) (J (at_row rS_Packet (rd_get h0_1)) (J (rd_nn h0_2) (J (at_row rS_Track (rd_get h0_2)) (J (rd_nn h0_3) (J (at_row rS_Track (rd_get h0_3)) (J h0_4 J0))))))))) (congrArg res_Sd (qj hm)) (by kernel_rfl)
 ·obtain ⟨h0_5,hm⟩|⟨h0_5,hm⟩:=split_ite hm
  ·exact go_end [.row (rS_Packet x0_0),.row (rS_Packet x0_1),.row (rS_Track x0_2),.row (rS_Track x0_3),zF,zT] 1000 (J (rd_nn h0_0) (J (at_row rS_Packet (rd_get h0_0)) (J (rd_nn h0_1) (J (at_row rS_Packet (rd_get h0_1)) (J (rd_nn h0_2) (J (at_row rS_Track (rd_get h0_2)) (J (rd_nn h0_3) (J (at_row rS_Track (rd_get h0_3)) (J h0_4 (J h0_5 J0)))))))))) (congrArg res_Sd (qj hm)) (by kernel_rfl)
  ·exact go_end [.row (rS_Packet x0_0),.row (rS_Packet x0_1),.row (rS_Track x0_2),.row (rS_Track x0_3),zF,zF] 1000 (J (rd_nn h0_0) (J (at_row rS_Packet (rd_get h0_0)) (J (rd_nn h0_1) (J (at_row rS_Packet (rd_get h0_1)) (J (rd_nn h0_2) (J (at_row rS_Track (rd_get h0_2)) (J (rd_nn h0_3) (J (at_row rS_Track (rd_get h0_3)) (J h0_4 (J h0_5 J0)))))))))) (congrArg res_Sd (qj hm)) (by kernel_rfl)
theorem ok_Sd (p0:S_Box) (p1 p2:Int) (r:Bool) (hm:m_Sd p0 p1 p2=some r):Runs ext tbl 104 (as_Sd p0 p1 p2) (res_Sd r):=
 runs_of (vf:=vf_Sd) (by kernel_rfl) rfl (st:=(enter vf_Sd (as_Sd p0 p1 p2)).getD default) (by kernel_rfl) (go_on [] 1000 J0 (ok_Sd_0 p0 p1 p2 r hm) (by kernel_rfl))
def O_Sa_15 (Q:VX→St→Prop) (e:(Bool)⊕((Unit))):Prop:=match e with | .inl e=>Q=Post vf_Sa (res_Sa e) | .inr e=>EE c_Sa_31 K_Sa_31 (s_Sa_31) Q
theorem ok_Sa_31 (r:Bool) (hm:m_Sa_31=some r):EE c_Sa_31 K_Sa_31 (s_Sa_31) (Post vf_Sa (res_Sa r)):=by
 exact go_end [] 1000 J0 (congrArg res_Sa (qj hm)) (by kernel_rfl)
theorem ok_Sa_15 (p0:S_Box) (i15_0:Int) (y) (hm:m_Sa_15 p0 i15_0=some y) (Q)
  (hin:∀ s,y=.inl s→EE c_Sa_15 K_Sa_15 (s_Sa_15 p0 s) Q) (hout:∀ e,y=.inr e→O_Sa_15 Q e):EE c_Sa_15 K_Sa_15 (s_Sa_15 p0 i15_0) Q:=by
 obtain ⟨h15_0,hm⟩|⟨h15_0,hm⟩:=split_ite hm
 ·obtain ⟨x15_1,h15_1,hm⟩:=bind_some hm
  obtain ⟨h15_2,hm⟩|⟨h15_2,hm⟩:=split_ite hm
  ·exact gh (hin _ (qj hm).symm) [zn p0.packets.length,zT,.res (res_Sd x15_1),zF] (J (lm rS_Packet p0.packets) (J h15_0 (J (ok_Sd p0 (w64 (i15_0 - 1)) i15_0 x15_1 h15_1) (J (not_f h15_2) J0)))) (by kernel_rfl)
  ·have hQ:Q=Post vf_Sa (res_Sa false):=hout (.inl false) (qj hm).symm
   subst hQ
   exact go_end [zn p0.packets.length,zT,.res (res_Sd x15_1),zT] 1000 (J (lm rS_Packet p0.packets) (J h15_0 (J (ok_Sd p0 (w64 (i15_0 - 1)) i15_0 x15_1 h15_1) (J (not_t h15_2) J0)))) (rfl:res_Sa false=res_Sa false) (by kernel_rfl)
 ·refine gn c_Sa_31 K_Sa_31 (s_Sa_31) [zn p0.packets.length,zF] (J (lm rS_Packet p0.packets) (J h15_0 J0)) ?_ (by kernel_rfl)
  exact hout (.inr ()) (qj hm).symm
theorem ok_Sa_0 (p0:S_Box) (r:Bool) (hm:m_Sa_0 p0=some r):EE c_Sa_0 K_Sa_0 (s_Sa_0 p0) (Post vf_Sa (res_Sa r)):=by
 obtain ⟨x0_0,h0_0,hm⟩:=bind_some hm
 obtain ⟨h0_1,hm⟩|⟨h0_1,hm⟩:=split_ite hm
 ·refine gn c_Sa_15 K_Sa_15 (s_Sa_15 p0 1) [.res (res_Se x0_0),zF] (J (ok_Se p0 x0_0 h0_0) (J (not_f h0_1) J0)) ?_ (by kernel_rfl)
  obtain ⟨e,he,hm⟩:=bind_some hm
  refine loop_rule (u:=.c c_Sa_15) (K:=K_Sa_15) (Q:=(Post vf_Sa (res_Sa r))) (b:=lp_Sa_15 p0) (We:=O_Sa_15 (Post vf_Sa (res_Sa r))) (stJ:=fun s=>s_Sa_15 p0 s) (s:=1) (fun s y hb hin hout=>ok_Sa_15 p0 s y hb (Post vf_Sa (res_Sa r)) hin hout) he ?_
  rcases e with e | e
  ·exact congrArg (fun r=>Post vf_Sa (res_Sa r)) (qj hm).symm
  ·show EE c_Sa_31 K_Sa_31 (s_Sa_31) _
   exact ok_Sa_31 r hm
 ·exact go_end [.res (res_Se x0_0),zT] 1000 (J (ok_Se p0 x0_0 h0_0) (J (not_t h0_1) J0)) (congrArg res_Sa (qj hm)) (by kernel_rfl)
theorem ok_Sa (p0:S_Box) (r:Bool) (hm:m_Sa p0=some r):Runs ext tbl 48 (as_Sa p0) (res_Sa r):=
 runs_of (vf:=vf_Sa) (by kernel_rfl) rfl (st:=(enter vf_Sa (as_Sa p0)).getD default) (by kernel_rfl) (go_on [] 1000 J0 (ok_Sa_0 p0 r hm) (by kernel_rfl))
theorem ok_Si_12 (p0:S_Act) (b12_0 r:Bool) (hm:m_Si_12 p0 b12_0=some r):EE c_Si_12 K_Si_12 (s_Si_12 p0 b12_0) (Post vf_Si (res_Si r)):=by
 obtain ⟨h12_0,hm⟩|⟨h12_0,hm⟩:=split_ite hm
 ·exact go_end [zT] 1000 (J h12_0 J0) (congrArg res_Si (qj hm)) (by kernel_rfl)
 ·obtain ⟨h12_1,hm⟩|⟨h12_1,hm⟩:=split_ite hm
  ·obtain ⟨h12_2,hm⟩|⟨h12_2,hm⟩:=split_ite hm
   ·exact go_end [zF,zT,zT,zT,zT,zT] 1000 (J h12_0 (J h12_1 (J h12_2 (J h12_2 (J h12_2 (J h12_2 J0)))))) (congrArg res_Si (qj hm)) (by kernel_rfl)
   ·exact go_end [zF,zT,zF,zF,zF,zF] 1000 (J h12_0 (J h12_1 (J h12_2 (J h12_2 (J h12_2 (J h12_2 J0)))))) (congrArg res_Si (qj hm)) (by kernel_rfl)
  ·obtain ⟨h12_2,hm⟩|⟨h12_2,hm⟩:=split_ite hm
   ·obtain ⟨h12_3,hm⟩|⟨h12_3,hm⟩:=split_ite hm
    ·exact go_end [zF,zF,zT,zT,zT,zT,zT] 1000 (J h12_0 (J h12_1 (J h12_2 (J h12_3 (J h12_3 (J h12_3 (J h12_3 J0))))))) (congrArg res_Si (qj hm)) (by kernel_rfl)
    ·exact go_end [zF,zF,zT,zF,zF,zF,zF] 1000 (J h12_0 (J h12_1 (J h12_2 (J h12_3 (J h12_3 (J h12_3 (J h12_3 J0))))))) (congrArg res_Si (qj hm)) (by kernel_rfl)
   ·obtain ⟨h12_3,hm⟩|⟨h12_3,hm⟩:=split_ite hm
    ·obtain ⟨h12_4,hm⟩|⟨h12_4,hm⟩:=split_ite hm
     ·exact go_end [zF,zF,zF,zT,zT,zT,zT,zT] 1000 (J h12_0 (J h12_1 (J h12_2 (J h12_3 (J h12_4 (J h12_4 (J h12_4 (J h12_4 J0)))))))) (congrArg res_Si (qj hm)) (by kernel_rfl)
     ·exact go_end [zF,zF,zF,zT,zF,zF,zF,zF] 1000 (J h12_0 (J h12_1 (J h12_2 (J h12_3 (J h12_4 (J h12_4 (J h12_4 (J h12_4 J0)))))))) (congrArg res_Si (qj hm)) (by kernel_rfl)
    ·exact go_end [zF,zF,zF,zF] 1000 (J h12_0 (J h12_1 (J h12_2 (J h12_3 J0)))) (congrArg res_Si (qj hm)) (by kernel_rfl)
theorem ok_Si_0 (p0:S_Act) (r:Bool) (hm:m_Si_0 p0=some r):EE c_Si_0 K_Si_0 (s_Si_0 p0) (Post vf_Si (res_Si r)):=by
 obtain ⟨h0_0,hm⟩|⟨h0_0,hm⟩:=split_ite hm
 ·exact gh (ok_Si_12 _ _ r hm) [zT] (J h0_0 J0) (by kernel_rfl)
 ·exact gh (ok_Si_12 _ _ r hm) [zF] (J h0_0 J0) (by kernel_rfl)
theorem ok_Si (p0:S_Act) (r:Bool) (hm:m_Si p0=some r):Runs ext tbl 74 (as_Si p0) (res_Si r):=
 runs_of (vf:=vf_Si) (by kernel_rfl) rfl (st:=(enter vf_Si (as_Si p0)).getD default) (by kernel_rfl) (go_on [] 1000 J0 (ok_Si_0 p0 r hm) (by kernel_rfl))
theorem ok_Sj_0 (p0:S_Box) (p1 r:Int) (hm:m_Sj_0 p0 p1=some r):EE c_Sj_0 K_Sj_0 (s_Sj_0 p0 p1) (Post vf_Sj (res_Sj r)):=by
 obtain ⟨x0_0,h0_0,hm⟩:=bind_some hm
 obtain ⟨x0_1,h0_1,hm⟩:=bind_some hm
 obtain ⟨x0_2,h0_2,hm⟩:=bind_some hm
 exact go_end [.row (rS_Packet x0_0),.row (rS_Track x0_1)] 1000 (J (rd_nn h0_0) (J (at_row rS_Packet (rd_get h0_0)) (J (rd_nn h0_1) (J (at_row rS_Track (rd_get h0_1)) (J (ck_p h0_2) J0))))) (congrArg res_Sj (qj hm)) (by kernel_rfl)
theorem ok_Sj (p0:S_Box) (p1 r:Int) (hm:m_Sj p0 p1=some r):Runs ext tbl 75 (as_Sj p0 p1) (res_Sj r):=
 runs_of (vf:=vf_Sj) (by kernel_rfl) rfl (st:=(enter vf_Sj (as_Sj p0 p1)).getD default) (by kernel_rfl) (go_on [] 1000 J0 (ok_Sj_0 p0 p1 r hm) (by kernel_rfl))
def O_Sm_6 (Q:VX→St→Prop) (e:S_l17P):Prop:=Q=Post vf_Sm (res_Sm e)
theorem ok_Sm_18 (i6_0:Int) (p0:S_l17P) (i6_1:Int) (b18_0:Bool) (y) (hm:m_Sm_18 i6_0 p0 i6_1 b18_0=some y) (Q)
  (hin:∀ s,y=.inl s→EE c_Sm_6 K_Sm_6 (s_Sm_6 p0 s.1 s.2) Q) (hout:∀ e,y=.inr e→O_Sm_6 Q e):EE c_Sm_18 K_Sm_18 (s_Sm_18 i6_0 p0 i6_1 b18_0) Q:=by
 obtain ⟨h18_0,hm⟩|⟨h18_0,hm⟩:=split_ite hm
 ·obtain ⟨x18_1,h18_1,hm⟩:=bind_some hm
  exact gh (hin _ (qj hm).symm) [zT,.row ((rI .i64) x18_1),zn p0.due.length,zn p0.gone.length,zn p0.drop.length,zn p0.shows.length] (J h18_0 (J (rd_in rfl h18_1) (J (at_row (rI .i64) (rd_get0 h18_1)) (J (ln p0.due.length) (J (ln p0.gone.length) (J (ln p0.drop.length) (J (ln p0.shows.length) J0))))))) (by kernel_rfl)
 ·exact gh (hin _ (qj hm).symm) [zF,zn p0.due.length,zn p0.gone.length,zn p0.drop.length,zn p0.shows.length] (J h18_0 (J (ln p0.due.length) (J (ln p0.gone.length) (J (ln p0.drop.length) (J (ln p0.shows.length) J0))))) (by kernel_rfl)
theorem ok_Sm_6 (p0:S_l17P) (i6_0 i6_1:Int) (y) (hm:m_Sm_6 p0 i6_0 i6_1=some y) (Q)
  (hin:∀ s,y=.inl s→EE c_Sm_6 K_Sm_6 (s_Sm_6 p0 s.1 s.2) Q) (hout:∀ e,y=.inr e→O_Sm_6 Q e):EE c_Sm_6 K_Sm_6 (s_Sm_6 p0 i6_0 i6_1) Q:=by
 obtain ⟨h6_0,hm⟩|⟨h6_0,hm⟩:=split_ite hm
 ·obtain ⟨x6_1,h6_1,hm⟩:=bind_some hm
  obtain ⟨h6_2,hm⟩|⟨h6_2,hm⟩:=split_ite hm
  ·exact gh (ok_Sm_18 _ _ _ _ y hm Q hin hout) [zT,.row (rB x6_1),zF,zF,zF,zF,zF,zF,zF,zF,zn p0.due.length,zn p0.gone.length,zn p0.drop.length,zn p0.shows.length] (J h6_0 (J (rd_in rfl h6_1) (J (at_row rB (rd_get0 h6_1)) (J4 (not_f h6_2) (J4 (not_f h6_2) (J (ln p0.due.length) (J (ln p0.gone.length) (J (ln p0.drop.length) (J (ln p0.shows.length) J0))))))))) (by kernel_rfl)
  ·obtain ⟨h6_3,hm⟩|⟨h6_3,hm⟩:=split_ite hm
   ·exact gh (ok_Sm_18 _ _ _ _ y hm Q hin hout) [zT,.row (rB x6_1),zT,zT,zT,zT,zT,zT,zT,zT,zT,zT,zT,zT,zT,zT,zT,zT,zT,zT,zT,zT,zT,zn p0.due.length,zn p0.gone.length,zn p0.drop.length,zn p0.shows.length] (J h6_0 (J (rd_in rfl h6_1) (J (at_row rB (rd_get0 h6_1)) (J4 (not_t h6_2) (J (not_t h6_2) (J (not_t h6_2) (J4 h6_3 (J4 h6_3 (J4 h6_3 (J (not_t h6_2) (J h6_3 (J (not_t h6_2) (J (ln p0.due.length) (J (ln p0.gone.length) (J (ln p0.drop.length) (J (ln p0.shows.length) J0)))))))))))))))) (by kernel_rfl)
   ·obtain ⟨x6_4,h6_4,hm⟩:=bind_some hm
    exact gh (ok_Sm_18 _ _ _ _ y hm Q hin hout) [zT,.row (rB x6_1),zT,zT,zT,zT,zT,zT,zF,zF,zF,zF,zF,zF,zF,.row ((rI .i64) x6_4),zF,zF,zF,zF,zF,zT,zF,zT,zn p0.due.length,zn p0.gone.length,zn p0.drop.length,zn p0.shows.length] (J h6_0 (J (rd_in rfl h6_1) (J (at_row rB (rd_get0 h6_1)) (J4 (not_t h6_2) (J (not_t h6_2) (J (not_t h6_2) (J4 h6_3 (J h6_3 (J h6_3 (J (rd_in rfl h6_4) (J h6_3 (J (at_row (rI .i64) (rd_get0 h6_4)) (J4 h6_3 (J h6_3 (J (not_t h6_2) (J h6_3 (J (not_t h6_2) (J (ln p0.due.length) (J (ln p0.gone.length) (J (ln p0.drop.length) (J (ln p0.shows.length) J0))))))))))))))))))))) (by kernel_rfl)
 ·have hQ:Q=Post vf_Sm (res_Sm (S_l17P.mk p0.b p0.due p0.speed p0.wall p0.clock p0.pace p0.playing p0.busy p0.gone p0.left i6_1 p0.drop p0.shows)):=hout (S_l17P.mk p0.b p0.due p0.speed p0.wall p0.clock p0.pace p0.playing p0.busy p0.gone p0.left i6_1 p0.drop p0.shows) (qj hm).symm
  subst hQ
  exact go_end [zF,zi p0.due,zb p0.gone,zb p0.drop,.rows (List.map rS_Show p0.shows)] 1000 (J h6_0 (Ja (rI .i64) p0.due (Ja rB p0.gone (Ja rB p0.drop (Ja rS_Show p0.shows J0))))) (rfl:res_Sm (S_l17P.mk p0.b p0.due p0.speed p0.wall p0.clock p0.pace p0.playing p0.busy p0.gone p0.left i6_1 p0.drop p0.shows)=res_Sm (S_l17P.mk p0.b p0.due p0.speed p0.wall p0.clock p0.pace p0.playing p0.busy p0.gone p0.left i6_1 p0.drop p0.shows)) (by kernel_rfl)
theorem ok_Sm_0 (p0 r:S_l17P) (hm:m_Sm_0 p0=some r):EE c_Sm_0 K_Sm_0 (s_Sm_0 p0) (Post vf_Sm (res_Sm r)):=by
 refine gn c_Sm_6 K_Sm_6 (s_Sm_6 p0 0 (-1)) [zn p0.due.length,zn p0.gone.length,zn p0.drop.length,zn p0.shows.length] (J (ln p0.due.length) (J (ln p0.gone.length) (J (ln p0.drop.length) (J (ln p0.shows.length) J0)))) ?_ (by kernel_rfl)
 obtain ⟨e,he,hm⟩:=bind_some hm
 refine loop_rule (u:=.c c_Sm_6) (K:=K_Sm_6) (Q:=(Post vf_Sm (res_Sm r))) (b:=lp_Sm_6 p0) (We:=O_Sm_6 (Post vf_Sm (res_Sm r))) (stJ:=fun s=>s_Sm_6 p0 s.1 s.2) (s:=(0,(-1))) (fun s y hb hin hout=>ok_Sm_6 p0 s.1 s.2 y hb (Post vf_Sm (res_Sm r)) hin hout) he ?_
 exact congrArg (fun r=>Post vf_Sm (res_Sm r)) (qj hm).symm
theorem ok_Sm (p0 r:S_l17P) (hm:m_Sm p0=some r):Runs ext tbl 76 (as_Sm p0) (res_Sm r):=
 runs_of (vf:=vf_Sm) (by kernel_rfl) rfl (st:=(enter vf_Sm (as_Sm p0)).getD default) (by kernel_rfl) (go_on [zn p0.due.length,zn p0.gone.length,zn p0.drop.length,zn p0.shows.length] 1000 (J (len_map (rI .i64) (rfl:p0.due.length=p0.due.length)) (J (len_map rB (rfl:p0.gone.length=p0.gone.length)) (J (len_map rB (rfl:p0.drop.length=p0.drop.length)) (J (len_map rS_Show (rfl:p0.shows.length=p0.shows.length)) J0)))) (ok_Sm_0 p0 r hm) (by kernel_rfl))
theorem ok_Sl_0 (p0:S_l17P) (r:Int×S_l17P) (hm:m_Sl_0 p0=some r):EE c_Sl_0 K_Sl_0 (s_Sl_0 p0) (Post vf_Sl (res_Sl r)):=by
 obtain ⟨h0_0,hm⟩|⟨h0_0,hm⟩:=split_ite hm
 ·exact go_end [zT,zi p0.due,zb p0.gone,zb p0.drop,.rows (List.map rS_Show p0.shows)] 1000 (J h0_0 (Ja (rI .i64) p0.due (Ja rB p0.gone (Ja rB p0.drop (Ja rS_Show p0.shows J0))))) (congrArg res_Sl (qj hm)) (by kernel_rfl)
 ·exact go_end [zF,zi p0.due,zb p0.gone,zb p0.drop,.rows (List.map rS_Show p0.shows)] 1000 (J h0_0 (Ja (rI .i64) p0.due (Ja rB p0.gone (Ja rB p0.drop (Ja rS_Show p0.shows J0))))) (congrArg res_Sl (qj hm)) (by kernel_rfl)
theorem ok_Sl (p0:S_l17P) (r:Int×S_l17P) (hm:m_Sl p0=some r):Runs ext tbl 124 (as_Sl p0) (res_Sl r):=
 runs_of (vf:=vf_Sl) (by kernel_rfl) rfl (st:=(enter vf_Sl (as_Sl p0)).getD default) (by kernel_rfl) (go_on [zn p0.due.length,zn p0.gone.length,zn p0.drop.length,zn p0.shows.length] 1000 (J (len_map (rI .i64) (rfl:p0.due.length=p0.due.length)) (J (len_map rB (rfl:p0.gone.length=p0.gone.length)) (J (len_map rB (rfl:p0.drop.length=p0.drop.length)) (J (len_map rS_Show (rfl:p0.shows.length=p0.shows.length)) J0)))) (ok_Sl_0 p0 r hm) (by kernel_rfl))
theorem ok_Sk_0 (p1:Int) (p0:S_l17P) (r:Int×S_l17P) (hm:m_Sk_0 p1 p0=some r):EE c_Sk_0 K_Sk_0 (s_Sk_0 p1 p0) (Post vf_Sk (res_Sk r)):=by
 obtain ⟨x0_0,h0_0,hm⟩:=bind_some hm
 obtain ⟨x0_1,h0_1,hm⟩:=bind_some hm
 exact go_end [.row (rS_Packet x0_0),zn x0_0.data.length,zi p0.due,zb p0.gone,zb p0.drop,.rows (List.map rS_Show p0.shows)] 1000 (J (rd_nn h0_0) (J (at_row rS_Packet (rd_get h0_0)) (J (lm (rI .u8) x0_0.data) (J (ck_p h0_1) (Ja (rI .i64) p0.due (Ja rB p0.gone (Ja rB p0.drop (Ja rS_Show p0.shows J0)))))))) (congrArg res_Sk (qj hm)) (by kernel_rfl)
theorem ok_Sk (p0:S_l17P) (p1:Int) (r:Int×S_l17P) (hm:m_Sk p0 p1=some r):Runs ext tbl 125 (as_Sk p0 p1) (res_Sk r):=
 runs_of (vf:=vf_Sk) (by kernel_rfl) rfl (st:=(enter vf_Sk (as_Sk p0 p1)).getD default) (by kernel_rfl) (go_on [zn p0.due.length,zn p0.gone.length,zn p0.drop.length,zn p0.shows.length] 1000 (J (len_map (rI .i64) (rfl:p0.due.length=p0.due.length)) (J (len_map rB (rfl:p0.gone.length=p0.gone.length)) (J (len_map rB (rfl:p0.drop.length=p0.drop.length)) (J (len_map rS_Show (rfl:p0.shows.length=p0.shows.length)) J0)))) (ok_Sk_0 p1 p0 r hm) (by kernel_rfl))
def O_Sn_64 (Q:VX→St→Prop) (e:((List S_Track)×(List S_Packet)×Int×Int×Int×Int×Bool×Int×Int×Int×(List Int)×(List Bool)×(List Bool)×(List S_Show))):Prop:=EE c_Sn_82 K_Sn_82 (s_Sn_82 e.1 e.2.1 e.2.2.1 e.2.2.2.1 e.2.2.2.2.1 e.2.2.2.2.2.1 e.2.2.2.2.2.2.1 e.2.2.2.2.2.2.2.1 e.2.2.2.2.2.2.2.2.1 e.2.2.2.2.2.2.2.2.2.1 e.2.2.2.2.2.2.2.2.2.2.1 e.2.2.2.2.2.2.2.2.2.2.2.1 e.2.2.2.2.2.2.2.2.2.2.2.2.1 e.2.2.2.2.2.2.2.2.2.2.2.2.2) Q
def O_Sn_47 (p0:S_l17P) (i21_0:Int) (l42_0:(List Int)) (Q:VX→St→Prop) (e:((List Bool))):Prop:=EE c_Sn_59 K_Sn_59 (s_Sn_59 p0 i21_0 l42_0 e) Q
def O_Sn_26 (p0:S_l17P) (i21_0:Int) (Q:VX→St→Prop) (e:((List Int))):Prop:=EE c_Sn_42 K_Sn_42 (s_Sn_42 p0 i21_0 e) Q
def O_Sn_9 (p0:S_l17P) (Q:VX→St→Prop) (e:(Int×(List Int))):Prop:=EE c_Sn_21 K_Sn_21 (s_Sn_21 p0 e.1 e.2) Q
theorem ok_Sn_38 (i26_0:Int) (p0:S_l17P) (i21_0:Int) (x26_1:S_Packet) (l26_1:(List Int)) (b38_0:Bool) (y) (hm:m_Sn_38 i26_0 p0 i21_0 x26_1 l26_1 b38_0=some y) (Q)
  (hin:∀ s,y=.inl s→EE c_Sn_26 K_Sn_26 (s_Sn_26 p0 i21_0 s.1 s.2) Q) (hout:∀ e,y=.inr e→O_Sn_26 p0 i21_0 Q e):EE c_Sn_38 K_Sn_38 (s_Sn_38 i26_0 p0 i21_0 x26_1 l26_1 b38_0) Q:=by
 obtain ⟨h38_0,hm⟩|⟨h38_0,hm⟩:=split_ite hm
 ·obtain ⟨x38_1,h38_1,hm⟩:=bind_some hm
  exact gh (hin _ (qj hm).symm) [zT,.rows (mi (l26_1.set (0+Int.toNat x26_1.track) i26_0)),zn ((l26_1.set (0+Int.toNat x26_1.track) i26_0).length),zn p0.due.length,zn p0.gone.length,zn p0.drop.length,zn p0.shows.length] (J h38_0 (J (rd_in rfl h38_1) (J (put_ob (rI .i64) i26_0 0 (.lit (vI i26_0)) (rd_get0 h38_1) (by kernel_rfl) (by kernel_rfl)) (J (lens l26_1.length ((l26_1.set (0+Int.toNat x26_1.track) i26_0).length) (set_len rfl)) (J (ln p0.due.length) (J (ln p0.gone.length) (J (ln p0.drop.length) (J (ln p0.shows.length) J0)))))))) (by kernel_rfl)
 ·exact gh (hin _ (qj hm).symm) [zF,zn l26_1.length,zn p0.due.length,zn p0.gone.length,zn p0.drop.length,zn p0.shows.length] (J h38_0 (J (ln l26_1.length) (J (ln p0.due.length) (J (ln p0.gone.length) (J (ln p0.drop.length) (J (ln p0.shows.length) J0)))))) (by kernel_rfl)
theorem ok_Sn_78 (i64_0:Int) (p0:S_l17P) (l64_1:(List S_Track)) (l64_2:(List S_Packet)) (i64_3 i64_4 i64_5 i64_6:Int) (b64_7:Bool) (i64_8 i64_9 i64_10:Int) (l42_0 l64_11:(List Int)) (l76_0 l64_13:(List Bool)) (l64_14:(List S_Show)) (b78_0:Bool) (y) (hm:m_Sn_78 i64_0 p0 l64_1 l64_2 i64_3 i64_4 i64_5 i64_6 b64_7 i64_8 i64_9 i64_10 l42_0 l64_11 l76_0 l64_13 l64_14 b78_0=some y) (Q)
  (hin:∀ s,y=.inl s→EE c_Sn_64 K_Sn_64 (s_Sn_64 p0 l42_0 s.1 s.2.1 s.2.2.1 s.2.2.2.1 s.2.2.2.2.1 s.2.2.2.2.2.1 s.2.2.2.2.2.2.1 s.2.2.2.2.2.2.2.1 s.2.2.2.2.2.2.2.2.1 s.2.2.2.2.2.2.2.2.2.1 s.2.2.2.2.2.2.2.2.2.2.1 s.2.2.2.2.2.2.2.2.2.2.2.1 s.2.2.2.2.2.2.2.2.2.2.2.2.1 s.2.2.2.2.2.2.2.2.2.2.2.2.2.1 s.2.2.2.2.2.2.2.2.2.2.2.2.2.2) Q) (hout:∀ e,y=.inr e→O_Sn_64 Q e):EE c_Sn_78 K_Sn_78 (s_Sn_78 i64_0 p0 l64_1 l64_2 i64_3 i64_4 i64_5 i64_6 b64_7 i64_8 i64_9 i64_10 l42_0 l64_11 l76_0 l64_13 l64_14 b78_0) Q:=by
 obtain ⟨h78_0,hm⟩|⟨h78_0,hm⟩:=split_ite hm
 ·obtain ⟨x78_1,h78_1,hm⟩:=bind_some hm
  obtain ⟨x78_2,h78_2,hm⟩:=bind_some hm
  exact gh (hin _ (qj hm).symm) [zT,zi l64_11,zb l76_0,zb l64_13,.rows (List.map rS_Show l64_14),.res (res_Sl x78_1),zn x78_1.2.due.length,zn x78_1.2.gone.length,zn x78_1.2.drop.length,zn x78_1.2.shows.length,zi x78_1.2.due,zb x78_1.2.gone,zb x78_1.2.drop,.rows (List.map rS_Show x78_1.2.shows),.res (res_Sk x78_2),zn x78_2.2.due.length,zn x78_2.2.gone.length,zn x78_2.2.drop.length,zn x78_2.2.shows.length,zn l42_0.length,zn x78_2.2.due.length,zn x78_2.2.gone.length,zn x78_2.2.drop.length,zn x78_2.2.shows.length] (J h78_0 (Ja (rI .i64) l64_11 (Ja rB l76_0 (Ja rB l64_13 (Ja rS_Show l64_14 (J (ok_Sl (S_l17P.mk (S_Box.mk l64_1 l64_2) l64_11 i64_3 i64_4 i64_5 i64_6 b64_7 i64_8 l76_0 i64_9 i64_10 l64_13 l64_14) x78_1 h78_1) (J (lm (rI .i64) x78_1.2.due) (J (lm rB x78_1.2.gone) (J (lm rB x78_1.2.drop) (J (lm rS_Show x78_1.2.shows) (Ja (rI .i64) x78_1.2.due (Ja rB x78_1.2.gone (Ja rB x78_1.2.drop (Ja rS_Show x78_1.2.shows (J (ok_Sk x78_1.2 i64_0 x78_2 h78_2) (J (lm (rI .i64) x78_2.2.due) (J (lm rB x78_2.2.gone) (J (lm rB x78_2.2.drop) (J (lm rS_Show x78_2.2.shows) (J (ln l42_0.length) (J (ln x78_2.2.due.length) (J (ln x78_2.2.gone.length) (J (ln x78_2.2.drop.length) (J (ln x78_2.2.shows.length) J0)))))))))))))))))))))))) (by kernel_rfl)
 ·exact gh (hin _ (qj hm).symm) [zF,zn l42_0.length,zn l64_11.length,zn l76_0.length,zn l64_13.length,zn l64_14.length] (J h78_0 (J (ln l42_0.length) (J (ln l64_11.length) (J (ln l76_0.length) (J (ln l64_13.length) (J (ln l64_14.length) J0)))))) (by kernel_rfl)
theorem ok_Sn_76 (i64_0:Int) (p0:S_l17P) (l64_1:(List S_Track)) (l64_2:(List S_Packet)) (i64_3 i64_4 i64_5 i64_6:Int) (b64_7:Bool) (i64_8 i64_9 i64_10:Int) (x64_1:S_Packet) (l42_0 l64_11:(List Int)) (l64_13:(List Bool)) (l64_14:(List S_Show)) (l76_0:(List Bool)) (y) (hm:m_Sn_76 i64_0 p0 l64_1 l64_2 i64_3 i64_4 i64_5 i64_6 b64_7 i64_8 i64_9 i64_10 x64_1 l42_0 l64_11 l64_13 l64_14 l76_0=some y) (Q)
  (hin:∀ s,y=.inl s→EE c_Sn_64 K_Sn_64 (s_Sn_64 p0 l42_0 s.1 s.2.1 s.2.2.1 s.2.2.2.1 s.2.2.2.2.1 s.2.2.2.2.2.1 s.2.2.2.2.2.2.1 s.2.2.2.2.2.2.2.1 s.2.2.2.2.2.2.2.2.1 s.2.2.2.2.2.2.2.2.2.1 s.2.2.2.2.2.2.2.2.2.2.1 s.2.2.2.2.2.2.2.2.2.2.2.1 s.2.2.2.2.2.2.2.2.2.2.2.2.1 s.2.2.2.2.2.2.2.2.2.2.2.2.2.1 s.2.2.2.2.2.2.2.2.2.2.2.2.2.2) Q) (hout:∀ e,y=.inr e→O_Sn_64 Q e):EE c_Sn_76 K_Sn_76 (s_Sn_76 i64_0 p0 l64_1 l64_2 i64_3 i64_4 i64_5 i64_6 b64_7 i64_8 i64_9 i64_10 x64_1 l42_0 l64_11 l64_13 l64_14 l76_0) Q:=by
 obtain ⟨x76_0,h76_0,hm⟩:=bind_some hm
 obtain ⟨h76_1,hm⟩|⟨h76_1,hm⟩:=split_ite hm
 ·obtain ⟨x76_2,h76_2,hm⟩:=bind_some hm
  exact gh (ok_Sn_78 _ _ _ _ _ _ _ _ _ _ _ _ _ _ _ _ _ _ y hm Q hin hout) [.row ((rI .i64) x76_0),zT,zT,zT,zT,zT,zT,zT,.row ((rI .i64) x76_2),zT,zT,zT,zT,zT,zT,zn l42_0.length,zn l64_11.length,zn l76_0.length,zn l64_13.length,zn l64_14.length] (J (rd_in rfl h76_0) (J (at_row (rI .i64) (rd_get0 h76_0)) (J4 h76_1 (J h76_1 (J h76_1 (J (rd_in rfl h76_2) (J h76_1 (J (at_row (rI .i64) (rd_get0 h76_2)) (J4 h76_1 (J h76_1 (J h76_1 (J (ln l42_0.length) (J (ln l64_11.length) (J (ln l76_0.length) (J (ln l64_13.length) (J (ln l64_14.length) J0)))))))))))))))) (by kernel_rfl)
 ·exact gh (ok_Sn_78 _ _ _ _ _ _ _ _ _ _ _ _ _ _ _ _ _ _ y hm Q hin hout) [.row ((rI .i64) x76_0),zF,zF,zF,zF,zF,zF,zF,zF,zF,zF,zF,zF,zF,zn l42_0.length,zn l64_11.length,zn l76_0.length,zn l64_13.length,zn l64_14.length] (J (rd_in rfl h76_0) (J (at_row (rI .i64) (rd_get0 h76_0)) (J4 h76_1 (J4 h76_1 (J4 h76_1 (J h76_1 (J (ln l42_0.length) (J (ln l64_11.length) (J (ln l76_0.length) (J (ln l64_13.length) (J (ln l64_14.length) J0))))))))))) (by kernel_rfl)
theorem ok_Sn_82 (l82_0:(List S_Track)) (l82_1:(List S_Packet)) (i82_2 i82_3 i82_4 i82_5:Int) (b82_6:Bool) (i82_7 i82_8 i82_9:Int) (l82_10:(List Int)) (l82_11 l82_12:(List Bool)) (l82_13:(List S_Show)) (r:S_l17P) (hm:m_Sn_82 l82_0 l82_1 i82_2 i82_3 i82_4 i82_5 b82_6 i82_7 i82_8 i82_9 l82_10 l82_11 l82_12 l82_13=some r):EE c_Sn_82 K_Sn_82 (s_Sn_82 l82_0 l82_1 i82_2 i82_3 i82_4 i82_5 b82_6 i82_7 i82_8 i82_9 l82_10 l82_11 l82_12 l82_13) (Post vf_Sn (res_Sn r)):=by
 obtain ⟨x82_0,h82_0,hm⟩:=bind_some hm
 exact go_end [zi l82_10,zb l82_11,zb l82_12,.rows (List.map rS_Show l82_13),.res (res_Sm x82_0),zn x82_0.due.length,zn x82_0.gone.length,zn x82_0.drop.length,zn x82_0.shows.length,zi x82_0.due,zb x82_0.gone,zb x82_0.drop,.rows (List.map rS_Show x82_0.shows)] 1000 (Ja (rI .i64) l82_10 (Ja rB l82_11 (Ja rB l82_12 (Ja rS_Show l82_13 (J (ok_Sm (S_l17P.mk (S_Box.mk l82_0 l82_1) l82_10 i82_2 i82_3 i82_4 i82_5 b82_6 i82_7 l82_11 i82_8 i82_9 l82_12 l82_13) x82_0 h82_0) (J (lm (rI .i64) x82_0.due) (J (lm rB x82_0.gone) (J (lm rB x82_0.drop) (J (lm rS_Show x82_0.shows) (Ja (rI .i64) x82_0.due (Ja rB x82_0.gone (Ja rB x82_0.drop (Ja rS_Show x82_0.shows J0))))))))))))) (congrArg res_Sn (qj hm)) (by kernel_rfl)
theorem ok_Sn_64 (p0:S_l17P) (l42_0:(List Int)) (i64_0:Int) (l64_1:(List S_Track)) (l64_2:(List S_Packet)) (i64_3 i64_4 i64_5 i64_6:Int) (b64_7:Bool) (i64_8 i64_9 i64_10:Int) (l64_11:(List Int)) (l64_12 l64_13:(List Bool)) (l64_14:(List S_Show)) (y) (hm:m_Sn_64 p0 l42_0 i64_0 l64_1 l64_2 i64_3 i64_4 i64_5 i64_6 b64_7 i64_8 i64_9 i64_10 l64_11 l64_12 l64_13 l64_14=some y) (Q)
  (hin:∀ s,y=.inl s→EE c_Sn_64 K_Sn_64 (s_Sn_64 p0 l42_0 s.1 s.2.1 s.2.2.1 s.2.2.2.1 s.2.2.2.2.1 s.2.2.2.2.2.1 s.2.2.2.2.2.2.1 s.2.2.2.2.2.2.2.1 s.2.2.2.2.2.2.2.2.1 s.2.2.2.2.2.2.2.2.2.1 s.2.2.2.2.2.2.2.2.2.2.1 s.2.2.2.2.2.2.2.2.2.2.2.1 s.2.2.2.2.2.2.2.2.2.2.2.2.1 s.2.2.2.2.2.2.2.2.2.2.2.2.2.1 s.2.2.2.2.2.2.2.2.2.2.2.2.2.2) Q) (hout:∀ e,y=.inr e→O_Sn_64 Q e):EE c_Sn_64 K_Sn_64 (s_Sn_64 p0 l42_0 i64_0 l64_1 l64_2 i64_3 i64_4 i64_5 i64_6 b64_7 i64_8 i64_9 i64_10 l64_11 l64_12 l64_13 l64_14) Q:=by
 obtain ⟨h64_0,hm⟩|⟨h64_0,hm⟩:=split_ite hm
 ·obtain ⟨x64_1,h64_1,hm⟩:=bind_some hm
  obtain ⟨x64_2,h64_2,hm⟩:=bind_some hm
  obtain ⟨h64_3,hm⟩|⟨h64_3,hm⟩:=split_ite hm
  ·obtain ⟨x64_4,h64_4,hm⟩:=bind_some hm
   exact gh (ok_Sn_76 _ _ _ _ _ _ _ _ _ _ _ _ _ _ _ _ _ _ y hm Q hin hout) [zT,.row (rS_Packet x64_1),.row ((rI .i64) x64_2),zT,zT,zT,zT,zT,zT,zT,zT,zT,zT,zT,zT,zT,.rows (mb (l64_12.set (0+Int.toNat i64_0) true)),zn l42_0.length,zn l64_11.length,zn ((l64_12.set (0+Int.toNat i64_0) true).length),zn l64_13.length,zn l64_14.length] (J h64_0 (J (rd_nn h64_1) (J (at_row rS_Packet (rd_get h64_1)) (J (rd_in rfl h64_2) (J (at_row (rI .i64) (rd_get0 h64_2)) (J4 h64_3 (J4 h64_3 (J4 h64_3 (J h64_3 (J (rd_in rfl h64_4) (J (put_ob rB true 0 (.lit (.bool true)) (rd_get0 h64_4) (by kernel_rfl) (by kernel_rfl)) (J (ln l42_0.length) (J (ln l64_11.length) (J (lens l64_12.length ((l64_12.set (0+Int.toNat i64_0) true).length) (set_len rfl)) (J (ln l64_13.length) (J (ln l64_14.length) J0)))))))))))))))) (by kernel_rfl)
  ·obtain ⟨x64_4,h64_4,hm⟩:=bind_some hm
   obtain ⟨x64_5,h64_5,hm⟩:=bind_some hm
   exact gh (ok_Sn_76 _ _ _ _ _ _ _ _ _ _ _ _ _ _ _ _ _ _ y hm Q hin hout) [zT,.row (rS_Packet x64_1),.row ((rI .i64) x64_2),zF,zF,zF,zF,zF,zF,zF,.row ((rI .i64) x64_4),zF,zF,zF,zF,zF,zF,.rows (mb (l64_12.set (0+Int.toNat i64_0) (decide (x64_4 < i64_5)))),zn l42_0.length,zn l64_11.length,zn ((l64_12.set (0+Int.toNat i64_0) (decide (x64_4 < i64_5))).length),zn l64_13.length,zn l64_14.length] (J h64_0 (J (rd_nn h64_1) (J (at_row rS_Packet (rd_get h64_1)) (J (rd_in rfl h64_2) (J (at_row (rI .i64) (rd_get0 h64_2)) (J4 h64_3 (J h64_3 (J h64_3 (J (rd_in rfl h64_4) (J h64_3 (J (at_row (rI .i64) (rd_get0 h64_4)) (J4 h64_3 (J h64_3 (J h64_3 (J (rd_in rfl h64_5) (J (put_ob rB (decide (x64_4 < i64_5)) 0 (.lit (.bool (decide (x64_4 < i64_5)))) (rd_get0 h64_5) (by kernel_rfl) (by kernel_rfl)) (J (ln l42_0.length) (J (ln l64_11.length) (J (lens l64_12.length ((l64_12.set (0+Int.toNat i64_0) (decide (x64_4 < i64_5))).length) (set_len rfl)) (J (ln l64_13.length) (J (ln l64_14.length) J0))))))))))))))))))))) (by kernel_rfl)
 ·refine gn c_Sn_82 K_Sn_82 (s_Sn_82 l64_1 l64_2 i64_3 i64_4 i64_5 i64_6 b64_7 i64_8 i64_9 i64_10 l64_11 l64_12 l64_13 l64_14) [zF,zn l64_11.length,zn l64_12.length,zn l64_13.length,zn l64_14.length] (J h64_0 (J (ln l64_11.length) (J (ln l64_12.length) (J (ln l64_13.length) (J (ln l64_14.length) J0))))) ?_ (by kernel_rfl)
  exact hout (l64_1,l64_2,i64_3,i64_4,i64_5,i64_6,b64_7,i64_8,i64_9,i64_10,l64_11,l64_12,l64_13,l64_14) (qj hm).symm
theorem ok_Sn_59 (p0:S_l17P) (i21_0:Int) (l42_0:(List Int)) (l59_0:(List Bool)) (r:S_l17P) (hm:m_Sn_59 p0 i21_0 l42_0 l59_0=some r):EE c_Sn_59 K_Sn_59 (s_Sn_59 p0 i21_0 l42_0 l59_0) (Post vf_Sn (res_Sn r)):=by
 refine gn c_Sn_64 K_Sn_64 (s_Sn_64 p0 l42_0 0 p0.b.tracks p0.b.packets p0.speed p0.wall i21_0 p0.pace p0.playing p0.busy p0.left p0.soon p0.due p0.gone l59_0 p0.shows) [zn p0.b.packets.length,zn l42_0.length,zn p0.due.length,zn p0.gone.length,zn l59_0.length,zn p0.shows.length] (J (lm rS_Packet p0.b.packets) (J (ln l42_0.length) (J (ln p0.due.length) (J (ln p0.gone.length) (J (ln l59_0.length) (J (ln p0.shows.length) J0)))))) ?_ (by kernel_rfl)
 obtain ⟨e,he,hm⟩:=bind_some hm
 refine loop_rule (u:=.c c_Sn_64) (K:=K_Sn_64) (Q:=(Post vf_Sn (res_Sn r))) (b:=lp_Sn_64 p0 l42_0) (We:=O_Sn_64 (Post vf_Sn (res_Sn r))) (stJ:=fun s=>s_Sn_64 p0 l42_0 s.1 s.2.1 s.2.2.1 s.2.2.2.1 s.2.2.2.2.1 s.2.2.2.2.2.1 s.2.2.2.2.2.2.1 s.2.2.2.2.2.2.2.1 s.2.2.2.2.2.2.2.2.1 s.2.2.2.2.2.2.2.2.2.1 s.2.2.2.2.2.2.2.2.2.2.1 s.2.2.2.2.2.2.2.2.2.2.2.1 s.2.2.2.2.2.2.2.2.2.2.2.2.1 s.2.2.2.2.2.2.2.2.2.2.2.2.2.1 s.2.2.2.2.2.2.2.2.2.2.2.2.2.2) (s:=(0,p0.b.tracks,p0.b.packets,p0.speed,p0.wall,i21_0,p0.pace,p0.playing,p0.busy,p0.left,p0.soon,p0.due,p0.gone,l59_0,p0.shows)) (fun s y hb hin hout=>ok_Sn_64 p0 l42_0 s.1 s.2.1 s.2.2.1 s.2.2.2.1 s.2.2.2.2.1 s.2.2.2.2.2.1 s.2.2.2.2.2.2.1 s.2.2.2.2.2.2.2.1 s.2.2.2.2.2.2.2.2.1 s.2.2.2.2.2.2.2.2.2.1 s.2.2.2.2.2.2.2.2.2.2.1 s.2.2.2.2.2.2.2.2.2.2.2.1 s.2.2.2.2.2.2.2.2.2.2.2.2.1 s.2.2.2.2.2.2.2.2.2.2.2.2.2.1 s.2.2.2.2.2.2.2.2.2.2.2.2.2.2 y hb (Post vf_Sn (res_Sn r)) hin hout) he ?_
 show EE c_Sn_82 K_Sn_82 (s_Sn_82 e.1 e.2.1 e.2.2.1 e.2.2.2.1 e.2.2.2.2.1 e.2.2.2.2.2.1 e.2.2.2.2.2.2.1 e.2.2.2.2.2.2.2.1 e.2.2.2.2.2.2.2.2.1 e.2.2.2.2.2.2.2.2.2.1 e.2.2.2.2.2.2.2.2.2.2.1 e.2.2.2.2.2.2.2.2.2.2.2.1 e.2.2.2.2.2.2.2.2.2.2.2.2.1 e.2.2.2.2.2.2.2.2.2.2.2.2.2) _
 exact ok_Sn_82 e.1 e.2.1 e.2.2.1 e.2.2.2.1 e.2.2.2.2.1 e.2.2.2.2.2.1 e.2.2.2.2.2.2.1 e.2.2.2.2.2.2.2.1 e.2.2.2.2.2.2.2.2.1 e.2.2.2.2.2.2.2.2.2.1 e.2.2.2.2.2.2.2.2.2.2.1 e.2.2.2.2.2.2.2.2.2.2.2.1 e.2.2.2.2.2.2.2.2.2.2.2.2.1 e.2.2.2.2.2.2.2.2.2.2.2.2.2 r hm
theorem ok_Sn_47 (p0:S_l17P) (i21_0:Int) (l42_0:(List Int)) (i47_0:Int) (l47_1:(List Bool)) (y) (hm:m_Sn_47 p0 i21_0 l42_0 i47_0 l47_1=some y) (Q)
  (hin:∀ s,y=.inl s→EE c_Sn_47 K_Sn_47 (s_Sn_47 p0 i21_0 l42_0 s.1 s.2) Q) (hout:∀ e,y=.inr e→O_Sn_47 p0 i21_0 l42_0 Q e):EE c_Sn_47 K_Sn_47 (s_Sn_47 p0 i21_0 l42_0 i47_0 l47_1) Q:=by
 obtain ⟨h47_0,hm⟩|⟨h47_0,hm⟩:=split_ite hm
 ·obtain ⟨x47_1,h47_1,hm⟩:=bind_some hm
  exact gh (hin _ (qj hm).symm) [zT,.rows (mb (l47_1.set (0+Int.toNat i47_0) false)),zn l42_0.length,zn p0.due.length,zn p0.gone.length,zn ((l47_1.set (0+Int.toNat i47_0) false).length),zn p0.shows.length] (J h47_0 (J (rd_in rfl h47_1) (J (put_ob rB false 0 (.lit (.bool false)) (rd_get0 h47_1) (by kernel_rfl) (by kernel_rfl)) (J (ln l42_0.length) (J (ln p0.due.length) (J (ln p0.gone.length) (J (lens l47_1.length ((l47_1.set (0+Int.toNat i47_0) false).length) (set_len rfl)) (J (ln p0.shows.length) J0)))))))) (by kernel_rfl)
 ·refine gn c_Sn_59 K_Sn_59 (s_Sn_59 p0 i21_0 l42_0 l47_1) [zF,zn l42_0.length,zn p0.due.length,zn p0.gone.length,zn l47_1.length,zn p0.shows.length] (J h47_0 (J (ln l42_0.length) (J (ln p0.due.length) (J (ln p0.gone.length) (J (ln l47_1.length) (J (ln p0.shows.length) J0)))))) ?_ (by kernel_rfl)
  exact hout l47_1 (qj hm).symm
theorem ok_Sn_42 (p0:S_l17P) (i21_0:Int) (l42_0:(List Int)) (r:S_l17P) (hm:m_Sn_42 p0 i21_0 l42_0=some r):EE c_Sn_42 K_Sn_42 (s_Sn_42 p0 i21_0 l42_0) (Post vf_Sn (res_Sn r)):=by
 refine gn c_Sn_47 K_Sn_47 (s_Sn_47 p0 i21_0 l42_0 0 p0.drop) [zn l42_0.length,zn p0.due.length,zn p0.gone.length,zn p0.drop.length,zn p0.shows.length] (J (ln l42_0.length) (J (ln p0.due.length) (J (ln p0.gone.length) (J (ln p0.drop.length) (J (ln p0.shows.length) J0))))) ?_ (by kernel_rfl)
 obtain ⟨e,he,hm⟩:=bind_some hm
 refine loop_rule (u:=.c c_Sn_47) (K:=K_Sn_47) (Q:=(Post vf_Sn (res_Sn r))) (b:=lp_Sn_47 p0 i21_0 l42_0) (We:=O_Sn_47 p0 i21_0 l42_0 (Post vf_Sn (res_Sn r))) (stJ:=fun s=>s_Sn_47 p0 i21_0 l42_0 s.1 s.2) (s:=(0,p0.drop)) (fun s y hb hin hout=>ok_Sn_47 p0 i21_0 l42_0 s.1 s.2 y hb (Post vf_Sn (res_Sn r)) hin hout) he ?_
 show EE c_Sn_59 K_Sn_59 (s_Sn_59 p0 i21_0 l42_0 e) _
 exact ok_Sn_59 p0 i21_0 l42_0 e r hm
theorem ok_Sn_26 (p0:S_l17P) (i21_0 i26_0:Int) (l26_1:(List Int)) (y) (hm:m_Sn_26 p0 i21_0 i26_0 l26_1=some y) (Q)
  (hin:∀ s,y=.inl s→EE c_Sn_26 K_Sn_26 (s_Sn_26 p0 i21_0 s.1 s.2) Q) (hout:∀ e,y=.inr e→O_Sn_26 p0 i21_0 Q e):EE c_Sn_26 K_Sn_26 (s_Sn_26 p0 i21_0 i26_0 l26_1) Q:=by
 obtain ⟨h26_0,hm⟩|⟨h26_0,hm⟩:=split_ite hm
 ·obtain ⟨x26_1,h26_1,hm⟩:=bind_some hm
  obtain ⟨x26_2,h26_2,hm⟩:=bind_some hm
  obtain ⟨h26_3,hm⟩|⟨h26_3,hm⟩:=split_ite hm
  ·obtain ⟨x26_4,h26_4,hm⟩:=bind_some hm
   obtain ⟨h26_5,hm⟩|⟨h26_5,hm⟩:=split_ite hm
   ·exact gh (ok_Sn_38 _ _ _ _ _ _ y hm Q hin hout) [zT,.row (rS_Packet x26_1),.row ((rI .i64) x26_2),zT,zT,zT,zT,zT,.row ((rI .i64) x26_4),zT,zT,zT,zT,zT,zT,zT,zT,zT,zT,zT,zT,zT,zT,zT,zT,zT,zT,zT,zT,zT,zT,zn l26_1.length,zn p0.due.length,zn p0.gone.length,zn p0.drop.length,zn p0.shows.length] (J h26_0 (J (rd_nn h26_1) (J (at_row rS_Packet (rd_get h26_1)) (J (rd_in rfl h26_2) (J (at_row (rI .i64) (rd_get0 h26_2)) (J4 h26_3 (J (rd_in rfl h26_4) (J h26_3 (J (at_row (rI .i64) (rd_get0 h26_4)) (J4 h26_3 (J h26_3 (J h26_3 (J h26_3 (J4 h26_5 (J4 h26_5 (J4 h26_5 (J h26_5 (J h26_5 (J h26_5 (J (ln l26_1.length) (J (ln p0.due.length) (J (ln p0.gone.length) (J (ln p0.drop.length) (J (ln p0.shows.length) J0)))))))))))))))))))))))) (by kernel_rfl)
   ·obtain ⟨h26_6,hm⟩|⟨h26_6,hm⟩:=split_ite hm
    ·exact gh (ok_Sn_38 _ _ _ _ _ _ y hm Q hin hout) [zT,.row (rS_Packet x26_1),.row ((rI .i64) x26_2),zT,zT,zT,zT,zT,.row ((rI .i64) x26_4),zT,zT,zT,zT,zT,zT,zT,zF,zF,zF,zF,zF,zF,zF,.row ((rI .i64) x26_2),zF,zF,zF,zF,zF,zF,zT,zT,zF,zT,zF,zn l26_1.length,zn p0.due.length,zn p0.gone.length,zn p0.drop.length,zn p0.shows.length] (J h26_0 (J (rd_nn h26_1) (J (at_row rS_Packet (rd_get h26_1)) (J (rd_in rfl h26_2) (J (at_row (rI .i64) (rd_get0 h26_2)) (J4 h26_3 (J (rd_in rfl h26_4) (J h26_3 (J (at_row (rI .i64) (rd_get0 h26_4)) (J4 h26_3 (J h26_3 (J h26_3 (J h26_3 (J4 h26_5 (J h26_5 (J h26_5 (J (rd_in rfl h26_2) (J h26_5 (J (at_row (rI .i64) (rd_get0 h26_2)) (J4 h26_5 (J h26_5 (J h26_5 (J h26_6 (J h26_6 (J h26_5 (J h26_6 (J h26_5 (J (ln l26_1.length) (J (ln p0.due.length) (J (ln p0.gone.length) (J (ln p0.drop.length) (J (ln p0.shows.length) J0)))))))))))))))))))))))))))))))) (by kernel_rfl)
    ·exact gh (ok_Sn_38 _ _ _ _ _ _ y hm Q hin hout) [zT,.row (rS_Packet x26_1),.row ((rI .i64) x26_2),zT,zT,zT,zT,zT,.row ((rI .i64) x26_4),zT,zT,zT,zT,zT,zT,zT,zF,zF,zF,zF,zF,zF,zF,.row ((rI .i64) x26_2),zF,zF,zF,zF,zF,zF,zF,zF,zF,zF,zF,zn l26_1.length,zn p0.due.length,zn p0.gone.length,zn p0.drop.length,zn p0.shows.length] (J h26_0 (J (rd_nn h26_1) (J (at_row rS_Packet (rd_get h26_1)) (J (rd_in rfl h26_2) (J (at_row (rI .i64) (rd_get0 h26_2)) (J4 h26_3 (J (rd_in rfl h26_4) (J h26_3 (J (at_row (rI .i64) (rd_get0 h26_4)) (J4 h26_3 (J h26_3 (J h26_3 (J h26_3 (J4 h26_5 (J h26_5 (J h26_5 (J (rd_in rfl h26_2) (J h26_5 (J (at_row (rI .i64) (rd_get0 h26_2)) (J4 h26_5 (J h26_5 (J h26_5 (J h26_6 (J h26_6 (J h26_5 (J h26_6 (J h26_5 (J (ln l26_1.length) (J (ln p0.due.length) (J (ln p0.gone.length) (J (ln p0.drop.length) (J (ln p0.shows.length) J0)))))))))))))))))))))))))))))))) (by kernel_rfl)
  ·obtain ⟨h26_4,hm⟩|⟨h26_4,hm⟩:=split_ite hm
   ·exact gh (ok_Sn_38 _ _ _ _ _ _ y hm Q hin hout) [zT,.row (rS_Packet x26_1),.row ((rI .i64) x26_2),zF,zF,zF,zF,zF,zF,zF,zF,zF,zF,zF,zF,zF,zF,zF,zF,zF,zF,zF,.row ((rI .i64) x26_2),zF,zF,zF,zF,zF,zF,zT,zT,zF,zT,zF,zn l26_1.length,zn p0.due.length,zn p0.gone.length,zn p0.drop.length,zn p0.shows.length] (J h26_0 (J (rd_nn h26_1) (J (at_row rS_Packet (rd_get h26_1)) (J (rd_in rfl h26_2) (J (at_row (rI .i64) (rd_get0 h26_2)) (J4 h26_3 (J4 h26_3 (J4 h26_3 (J4 eF (J eF (J eF (J (rd_in rfl h26_2) (J eF (J (at_row (rI .i64) (rd_get0 h26_2)) (J4 eF (J eF (J eF (J h26_4 (J h26_4 (J eF (J h26_4 (J eF (J (ln l26_1.length) (J (ln p0.due.length) (J (ln p0.gone.length) (J (ln p0.drop.length) (J (ln p0.shows.length) J0))))))))))))))))))))))))))) (by kernel_rfl)
   ·exact gh (ok_Sn_38 _ _ _ _ _ _ y hm Q hin hout) [zT,.row (rS_Packet x26_1),.row ((rI .i64) x26_2),zF,zF,zF,zF,zF,zF,zF,zF,zF,zF,zF,zF,zF,zF,zF,zF,zF,zF,zF,.row ((rI .i64) x26_2),zF,zF,zF,zF,zF,zF,zF,zF,zF,zF,zF,zn l26_1.length,zn p0.due.length,zn p0.gone.length,zn p0.drop.length,zn p0.shows.length] (J h26_0 (J (rd_nn h26_1) (J (at_row rS_Packet (rd_get h26_1)) (J (rd_in rfl h26_2) (J (at_row (rI .i64) (rd_get0 h26_2)) (J4 h26_3 (J4 h26_3 (J4 h26_3 (J4 eF (J eF (J eF (J (rd_in rfl h26_2) (J eF (J (at_row (rI .i64) (rd_get0 h26_2)) (J4 eF (J eF (J eF (J h26_4 (J h26_4 (J eF (J h26_4 (J eF (J (ln l26_1.length) (J (ln p0.due.length) (J (ln p0.gone.length) (J (ln p0.drop.length) (J (ln p0.shows.length) J0))))))))))))))))))))))))))) (by kernel_rfl)
 ·refine gn c_Sn_42 K_Sn_42 (s_Sn_42 p0 i21_0 l26_1) [zF,zn l26_1.length,zn p0.due.length,zn p0.gone.length,zn p0.drop.length,zn p0.shows.length] (J h26_0 (J (ln l26_1.length) (J (ln p0.due.length) (J (ln p0.gone.length) (J (ln p0.drop.length) (J (ln p0.shows.length) J0)))))) ?_ (by kernel_rfl)
  exact hout l26_1 (qj hm).symm
theorem ok_Sn_21 (p0:S_l17P) (i21_0:Int) (l21_1:(List Int)) (r:S_l17P) (hm:m_Sn_21 p0 i21_0 l21_1=some r):EE c_Sn_21 K_Sn_21 (s_Sn_21 p0 i21_0 l21_1) (Post vf_Sn (res_Sn r)):=by
 refine gn c_Sn_26 K_Sn_26 (s_Sn_26 p0 i21_0 0 l21_1) [zn p0.b.packets.length,zn l21_1.length,zn p0.due.length,zn p0.gone.length,zn p0.drop.length,zn p0.shows.length] (J (lm rS_Packet p0.b.packets) (J (ln l21_1.length) (J (ln p0.due.length) (J (ln p0.gone.length) (J (ln p0.drop.length) (J (ln p0.shows.length) J0)))))) ?_ (by kernel_rfl)
 obtain ⟨e,he,hm⟩:=bind_some hm
 refine loop_rule (u:=.c c_Sn_26) (K:=K_Sn_26) (Q:=(Post vf_Sn (res_Sn r))) (b:=lp_Sn_26 p0 i21_0) (We:=O_Sn_26 p0 i21_0 (Post vf_Sn (res_Sn r))) (stJ:=fun s=>s_Sn_26 p0 i21_0 s.1 s.2) (s:=(0,l21_1)) (fun s y hb hin hout=>ok_Sn_26 p0 i21_0 s.1 s.2 y hb (Post vf_Sn (res_Sn r)) hin hout) he ?_
 show EE c_Sn_42 K_Sn_42 (s_Sn_42 p0 i21_0 e) _
 exact ok_Sn_42 p0 i21_0 e r hm
theorem ok_Sn_9 (p0:S_l17P) (i9_0 i9_1 i9_2:Int) (l9_3:(List Int)) (y) (hm:m_Sn_9 p0 i9_0 i9_1 i9_2 l9_3=some y) (Q)
  (hin:∀ s,y=.inl s→EE c_Sn_9 K_Sn_9 (s_Sn_9 p0 s.1 s.2.1 s.2.2.1 s.2.2.2) Q) (hout:∀ e,y=.inr e→O_Sn_9 p0 Q e):EE c_Sn_9 K_Sn_9 (s_Sn_9 p0 i9_0 i9_1 i9_2 l9_3) Q:=by
 obtain ⟨h9_0,hm⟩|⟨h9_0,hm⟩:=split_ite hm
 ·obtain ⟨x9_1,h9_1,hm⟩:=bind_some hm
  exact gh (hin _ (qj hm).symm) [zT,.rows (mi (l9_3.set (0+Int.toNat i9_1) (p0.due.length:Int))),zn ((l9_3.set (0+Int.toNat i9_1) (p0.due.length:Int)).length),zn p0.due.length,zn p0.gone.length,zn p0.drop.length,zn p0.shows.length] (J h9_0 (J (rd_in rfl h9_1) (J (put_ob (rI .i64) (p0.due.length:Int) 0 (.lit (vI (p0.due.length:Int))) (rd_get0 h9_1) (by kernel_rfl) (by kernel_rfl)) (J (lens l9_3.length ((l9_3.set (0+Int.toNat i9_1) (p0.due.length:Int)).length) (set_len rfl)) (J (ln p0.due.length) (J (ln p0.gone.length) (J (ln p0.drop.length) (J (ln p0.shows.length) J0)))))))) (by kernel_rfl)
 ·refine gn c_Sn_21 K_Sn_21 (s_Sn_21 p0 i9_2 l9_3) [zF,zn l9_3.length,zn p0.due.length,zn p0.gone.length,zn p0.drop.length,zn p0.shows.length] (J h9_0 (J (ln l9_3.length) (J (ln p0.due.length) (J (ln p0.gone.length) (J (ln p0.drop.length) (J (ln p0.shows.length) J0)))))) ?_ (by kernel_rfl)
  exact hout (i9_2,l9_3) (qj hm).symm
theorem ok_Sn_0 (p1:Int) (p0 r:S_l17P) (hm:m_Sn_0 p1 p0=some r):EE c_Sn_0 K_Sn_0 (s_Sn_0 p1 p0) (Post vf_Sn (res_Sn r)):=by
 obtain ⟨x0_0,h0_0,hm⟩:=bind_some hm
 refine gn c_Sn_9 K_Sn_9 (s_Sn_9 p0 ((Int.toNat (p0.b.tracks.length:Int)):Int) 0 (w64 (p1*1000)) (List.replicate (Int.toNat (p0.b.tracks.length:Int)) (0:Int))) [zn p0.b.tracks.length,.rows (mi (List.replicate (Int.toNat (p0.b.tracks.length:Int)) (0:Int))),zn (Int.toNat (p0.b.tracks.length:Int)),zn ((List.replicate (Int.toNat (p0.b.tracks.length:Int)) (0:Int)).length),zn p0.due.length,zn p0.gone.length,zn p0.drop.length,zn p0.shows.length] (J (lm rS_Track p0.b.tracks) (J (ck_p h0_0) (J (rep_ob (rI .i64) (Int.toNat (p0.b.tracks.length:Int)) (0:Int) [.lit (vI 0)] (by kernel_rfl)) (J (len_map (rI .i64) (show (Int.toNat (p0.b.tracks.length:Int))=(List.replicate (Int.toNat (p0.b.tracks.length:Int)) (0:Int)).length from (rep_len (Int.toNat (p0.b.tracks.length:Int)) (0:Int)))) (J (lens (Int.toNat (p0.b.tracks.length:Int)) ((List.replicate (Int.toNat (p0.b.tracks.length:Int)) (0:Int)).length) (rep_len (Int.toNat (p0.b.tracks.length:Int)) (0:Int))) (J (ln p0.due.length) (J (ln p0.gone.length) (J (ln p0.drop.length) (J (ln p0.shows.length) J0))))))))) ?_ (by kernel_rfl)
 obtain ⟨e,he,hm⟩:=bind_some hm
 refine loop_rule (u:=.c c_Sn_9) (K:=K_Sn_9) (Q:=(Post vf_Sn (res_Sn r))) (b:=lp_Sn_9 p0) (We:=O_Sn_9 p0 (Post vf_Sn (res_Sn r))) (stJ:=fun s=>s_Sn_9 p0 s.1 s.2.1 s.2.2.1 s.2.2.2) (s:=(((Int.toNat (p0.b.tracks.length:Int)):Int),0,(w64 (p1*1000)),(List.replicate (Int.toNat (p0.b.tracks.length:Int)) (0:Int)))) (fun s y hb hin hout=>ok_Sn_9 p0 s.1 s.2.1 s.2.2.1 s.2.2.2 y hb (Post vf_Sn (res_Sn r)) hin hout) he ?_
 show EE c_Sn_21 K_Sn_21 (s_Sn_21 p0 e.1 e.2) _
 exact ok_Sn_21 p0 e.1 e.2 r hm
theorem ok_Sn (p0:S_l17P) (p1:Int) (r:S_l17P) (hm:m_Sn p0 p1=some r):Runs ext tbl 77 (as_Sn p0 p1) (res_Sn r):=
 runs_of (vf:=vf_Sn) (by kernel_rfl) rfl (st:=(enter vf_Sn (as_Sn p0 p1)).getD default) (by kernel_rfl) (go_on [zn p0.due.length,zn p0.gone.length,zn p0.drop.length,zn p0.shows.length] 1000 (J (len_map (rI .i64) (rfl:p0.due.length=p0.due.length)) (J (len_map rB (rfl:p0.gone.length=p0.gone.length)) (J (len_map rB (rfl:p0.drop.length=p0.drop.length)) (J (len_map rS_Show (rfl:p0.shows.length=p0.shows.length)) J0)))) (ok_Sn_0 p1 p0 r hm) (by kernel_rfl))
theorem ok_So_24 (p1:Int) (x10_1:Int×S_l17P) (x0_0:S_Packet) (l18_0:(List Bool)) (i24_0:Int) (r:S_l17P) (hm:m_So_24 p1 x10_1 x0_0 l18_0 i24_0=some r):EE c_So_24 K_So_24 (s_So_24 p1 x10_1 x0_0 l18_0 i24_0) (Post vf_So (res_So r)):=by
 obtain ⟨x24_0,h24_0,hm⟩:=bind_some hm
 obtain ⟨x24_1,h24_1,hm⟩:=bind_some hm
 exact go_end [.row (rB x24_0),.rows (List.map rS_Show ([(S_Show.mk x10_1.2.wall (w64 (Int.tdiv x10_1.2.clock 1000)) p1 x24_0)]:List S_Show)),zn 1,.rows (List.map rS_Show (x10_1.2.shows++([(S_Show.mk x10_1.2.wall (w64 (Int.tdiv x10_1.2.clock 1000)) p1 x24_0)]:List S_Show))),zn ((x10_1.2.shows++([(S_Show.mk x10_1.2.wall (w64 (Int.tdiv x10_1.2.clock 1000)) p1 x24_0)]:List S_Show)).length),zi x10_1.2.due,zb x10_1.2.gone,zb l18_0,.rows (List.map rS_Show (x10_1.2.shows++([(S_Show.mk x10_1.2.wall (w64 (Int.tdiv x10_1.2.clock 1000)) p1 x24_0)]:List S_Show)))] 1000 (J (by decide:(1000:Int)≠0) (J (rd_in rfl h24_0) (J (at_row rB (rd_get0 h24_0)) (J (Eq.refl (List.map rS_Show ([(S_Show.mk x10_1.2.wall (w64 (Int.tdiv x10_1.2.clock 1000)) p1 x24_0)]:List S_Show))) (J (len_map rS_Show (show 1=([(S_Show.mk x10_1.2.wall (w64 (Int.tdiv x10_1.2.clock 1000)) p1 x24_0)]:List S_Show).length from rfl)) (J (all_le rS_Show ([(S_Show.mk x10_1.2.wall (w64 (Int.tdiv x10_1.2.clock 1000)) p1 x24_0)]:List S_Show) rfl) (J (app_ck rS_Show x10_1.2.shows ([(S_Show.mk x10_1.2.wall (w64 (Int.tdiv x10_1.2.clock 1000)) p1 x24_0)]:List S_Show) rfl rfl h24_1) (J (app_tell rS_Show x10_1.2.shows ([(S_Show.mk x10_1.2.wall (w64 (Int.tdiv x10_1.2.clock 1000)) p1 x24_0)]:List S_Show) rfl rfl) (J (len_map rS_Show (show (x10_1.2.shows++([(S_Show.mk x10_1.2.wall (w64 (Int.tdiv x10_1.2.clock 1000)) p1 x24_0)]:List S_Show)).length=(x10_1.2.shows++([(S_Show.mk x10_1.2.wall (w64 (Int.tdiv x10_1.2.clock 1000)) p1 x24_0)]:List S_Show)).length from rfl)) (Ja (rI .i64) x10_1.2.due (Ja rB x10_1.2.gone (Ja rB l18_0 (J (all_le0 rS_Show (x10_1.2.shows++([(S_Show.mk x10_1.2.wall (w64 (Int.tdiv x10_1.2.clock 1000)) p1 x24_0)]:List S_Show)) rfl) (J (all_t rS_Show (x10_1.2.shows++([(S_Show.mk x10_1.2.wall (w64 (Int.tdiv x10_1.2.clock 1000)) p1 x24_0)]:List S_Show)) rfl) J0)))))))))))))) (congrArg res_So (qj hm)) (by kernel_rfl)
theorem ok_So_18 (p1 i15_0:Int) (x10_1:Int×S_l17P) (x0_0:S_Packet) (l18_0:(List Bool)) (r:S_l17P) (hm:m_So_18 p1 i15_0 x10_1 x0_0 l18_0=some r):EE c_So_18 K_So_18 (s_So_18 p1 i15_0 x10_1 x0_0 l18_0) (Post vf_So (res_So r)):=by
 obtain ⟨x18_0,h18_0,hm⟩:=bind_some hm
 obtain ⟨h18_1,hm⟩|⟨h18_1,hm⟩:=split_ite hm
 ·exact gh (ok_So_24 _ _ _ _ _ r hm) [.row (rB x18_0),zF,zn x10_1.2.due.length,zn x10_1.2.gone.length,zn l18_0.length,zn x10_1.2.shows.length] (J (rd_in rfl h18_0) (J (at_row rB (rd_get0 h18_0)) (J (not_f h18_1) (J (ln x10_1.2.due.length) (J (ln x10_1.2.gone.length) (J (ln l18_0.length) (J (ln x10_1.2.shows.length) J0))))))) (by kernel_rfl)
 ·exact gh (ok_So_24 _ _ _ _ _ r hm) [.row (rB x18_0),zT,zn x10_1.2.due.length,zn x10_1.2.gone.length,zn l18_0.length,zn x10_1.2.shows.length] (J (rd_in rfl h18_0) (J (at_row rB (rd_get0 h18_0)) (J (not_t h18_1) (J (ln x10_1.2.due.length) (J (ln x10_1.2.gone.length) (J (ln l18_0.length) (J (ln x10_1.2.shows.length) J0))))))) (by kernel_rfl)
theorem ok_So_15 (p1:Int) (x10_1:Int×S_l17P) (x0_0:S_Packet) (i15_0:Int) (b15_1:Bool) (r:S_l17P) (hm:m_So_15 p1 x10_1 x0_0 i15_0 b15_1=some r):EE c_So_15 K_So_15 (s_So_15 p1 x10_1 x0_0 i15_0 b15_1) (Post vf_So (res_So r)):=by
 obtain ⟨h15_0,hm⟩|⟨h15_0,hm⟩:=split_ite hm
 ·obtain ⟨x15_1,h15_1,hm⟩:=bind_some hm
  exact gh (ok_So_18 _ _ _ _ _ r hm) [zT,.rows (mb (x10_1.2.drop.set (0+Int.toNat x0_0.track) true)),zn x10_1.2.due.length,zn x10_1.2.gone.length,zn ((x10_1.2.drop.set (0+Int.toNat x0_0.track) true).length),zn x10_1.2.shows.length] (J h15_0 (J (rd_in rfl h15_1) (J (put_ob rB true 0 (.lit (.bool true)) (rd_get0 h15_1) (by kernel_rfl) (by kernel_rfl)) (J (ln x10_1.2.due.length) (J (ln x10_1.2.gone.length) (J (lens x10_1.2.drop.length ((x10_1.2.drop.set (0+Int.toNat x0_0.track) true).length) (set_len rfl)) (J (ln x10_1.2.shows.length) J0))))))) (by kernel_rfl)
 ·exact gh (ok_So_18 _ _ _ _ _ r hm) [zF,zn x10_1.2.due.length,zn x10_1.2.gone.length,zn x10_1.2.drop.length,zn x10_1.2.shows.length] (J h15_0 (J (ln x10_1.2.due.length) (J (ln x10_1.2.gone.length) (J (ln x10_1.2.drop.length) (J (ln x10_1.2.shows.length) J0))))) (by kernel_rfl)
theorem ok_So_10 (p1:Int) (x0_1:S_Track) (p0:S_l17P) (x0_0:S_Packet) (l10_0:(List Bool)) (r:S_l17P) (hm:m_So_10 p1 x0_1 p0 x0_0 l10_0=some r):EE c_So_10 K_So_10 (s_So_10 p1 x0_1 p0 x0_0 l10_0) (Post vf_So (res_So r)):=by
 obtain ⟨x10_0,h10_0,hm⟩:=bind_some hm
 obtain ⟨x10_1,h10_1,hm⟩:=bind_some hm
 obtain ⟨h10_2,hm⟩|⟨h10_2,hm⟩:=split_ite hm
 ·obtain ⟨h10_3,hm⟩|⟨h10_3,hm⟩:=split_ite hm
  ·exact gh (ok_So_15 _ _ _ _ _ r hm) [zi p0.due,zb p0.gone,zb l10_0,.rows (List.map rS_Show p0.shows),.res (res_Sl x10_0),zn x10_0.2.due.length,zn x10_0.2.gone.length,zn x10_0.2.drop.length,zn x10_0.2.shows.length,zi x10_0.2.due,zb x10_0.2.gone,zb x10_0.2.drop,.rows (List.map rS_Show x10_0.2.shows),.res (res_Sk x10_1),zn x10_1.2.due.length,zn x10_1.2.gone.length,zn x10_1.2.drop.length,zn x10_1.2.shows.length,zT,zT,zT,zT,zT,zT,zT,zF,zF,zF,zF,zF,zF,zF,zF,zn x10_1.2.due.length,zn x10_1.2.gone.length,zn x10_1.2.drop.length,zn x10_1.2.shows.length] (Ja (rI .i64) p0.due (Ja rB p0.gone (Ja rB l10_0 (Ja rS_Show p0.shows (J (ok_Sl (S_l17P.mk p0.b p0.due p0.speed p0.wall p0.clock p0.pace p0.playing p0.busy p0.gone p0.left p0.soon l10_0 p0.shows) x10_0 h10_0) (J (lm (rI .i64) x10_0.2.due) (J (lm rB x10_0.2.gone) (J (lm rB x10_0.2.drop) (J (lm rS_Show x10_0.2.shows) (Ja (rI .i64) x10_0.2.due (Ja rB x10_0.2.gone (Ja rB x10_0.2.drop (Ja rS_Show x10_0.2.shows (J (ok_Sk x10_0.2 p1 x10_1 h10_1) (J (lm (rI .i64) x10_1.2.due) (J (lm rB x10_1.2.gone) (J (lm rB x10_1.2.drop) (J (lm rS_Show x10_1.2.shows) (J h10_2 (J h10_2 (J h10_2 (J4 eT (J4 (not_f h10_3) (J4 (not_f h10_3) (J (ln x10_1.2.due.length) (J (ln x10_1.2.gone.length) (J (ln x10_1.2.drop.length) (J (ln x10_1.2.shows.length) J0)))))))))))))))))))))))))))) (by kernel_rfl)
  ·exact gh (ok_So_15 _ _ _ _ _ r hm) [zi p0.due,zb p0.gone,zb l10_0,.rows (List.map rS_Show p0.shows),.res (res_Sl x10_0),zn x10_0.2.due.length,zn x10_0.2.gone.length,zn x10_0.2.drop.length,zn x10_0.2.shows.length,zi x10_0.2.due,zb x10_0.2.gone,zb x10_0.2.drop,.rows (List.map rS_Show x10_0.2.shows),.res (res_Sk x10_1),zn x10_1.2.due.length,zn x10_1.2.gone.length,zn x10_1.2.drop.length,zn x10_1.2.shows.length,zT,zT,zT,zT,zT,zT,zT,zT,zT,zT,zT,zT,zT,zT,zT,zn x10_1.2.due.length,zn x10_1.2.gone.length,zn x10_1.2.drop.length,zn x10_1.2.shows.length] (Ja (rI .i64) p0.due (Ja rB p0.gone (Ja rB l10_0 (Ja rS_Show p0.shows (J (ok_Sl (S_l17P.mk p0.b p0.due p0.speed p0.wall p0.clock p0.pace p0.playing p0.busy p0.gone p0.left p0.soon l10_0 p0.shows) x10_0 h10_0) (J (lm (rI .i64) x10_0.2.due) (J (lm rB x10_0.2.gone) (J (lm rB x10_0.2.drop) (J (lm rS_Show x10_0.2.shows) (Ja (rI .i64) x10_0.2.due (Ja rB x10_0.2.gone (Ja rB x10_0.2.drop (Ja rS_Show x10_0.2.shows (J (ok_Sk x10_0.2 p1 x10_1 h10_1) (J (lm (rI .i64) x10_1.2.due) (J (lm rB x10_1.2.gone) (J (lm rB x10_1.2.drop) (J (lm rS_Show x10_1.2.shows) (J h10_2 (J h10_2 (J h10_2 (J4 eT (J4 (not_t h10_3) (J4 (not_t h10_3) (J (ln x10_1.2.due.length) (J (ln x10_1.2.gone.length) (J (ln x10_1.2.drop.length) (J (ln x10_1.2.shows.length) J0)))))))))))))))))))))))))))) (by kernel_rfl)
 ·obtain ⟨h10_3,hm⟩|⟨h10_3,hm⟩:=split_ite hm
  ·obtain ⟨h10_4,hm⟩|⟨h10_4,hm⟩:=split_ite hm
   ·exact gh (ok_So_15 _ _ _ _ _ r hm) [zi p0.due,zb p0.gone,zb l10_0,.rows (List.map rS_Show p0.shows),.res (res_Sl x10_0),zn x10_0.2.due.length,zn x10_0.2.gone.length,zn x10_0.2.drop.length,zn x10_0.2.shows.length,zi x10_0.2.due,zb x10_0.2.gone,zb x10_0.2.drop,.rows (List.map rS_Show x10_0.2.shows),.res (res_Sk x10_1),zn x10_1.2.due.length,zn x10_1.2.gone.length,zn x10_1.2.drop.length,zn x10_1.2.shows.length,zF,zF,zF,zT,zT,zT,zT,zF,zF,zF,zF,zF,zF,zF,zF,zn x10_1.2.due.length,zn x10_1.2.gone.length,zn x10_1.2.drop.length,zn x10_1.2.shows.length] (Ja (rI .i64) p0.due (Ja rB p0.gone (Ja rB l10_0 (Ja rS_Show p0.shows (J (ok_Sl (S_l17P.mk p0.b p0.due p0.speed p0.wall p0.clock p0.pace p0.playing p0.busy p0.gone p0.left p0.soon l10_0 p0.shows) x10_0 h10_0) (J (lm (rI .i64) x10_0.2.due) (J (lm rB x10_0.2.gone) (J (lm rB x10_0.2.drop) (J (lm rS_Show x10_0.2.shows) (Ja (rI .i64) x10_0.2.due (Ja rB x10_0.2.gone (Ja rB x10_0.2.drop (Ja rS_Show x10_0.2.shows (J (ok_Sk x10_0.2 p1 x10_1 h10_1) (J (lm (rI .i64) x10_1.2.due) (J (lm rB x10_1.2.gone) (J (lm rB x10_1.2.drop) (J (lm rS_Show x10_1.2.shows) (J h10_2 (J h10_2 (J h10_2 (J4 h10_3 (J4 (not_f h10_4) (J4 (not_f h10_4) (J (ln x10_1.2.due.length) (J (ln x10_1.2.gone.length) (J (ln x10_1.2.drop.length) (J (ln x10_1.2.shows.length) J0)))))))))))))))))))))))))))) (by kernel_rfl)
   ·exact gh (ok_So_15 _ _ _ _ _ r hm) [zi p0.due,zb p0.gone,zb l10_0,.rows (List.map rS_Show p0.shows),.res (res_Sl x10_0),zn x10_0.2.due.length,zn x10_0.2.gone.length,zn x10_0.2.drop.length,zn x10_0.2.shows.length,zi x10_0.2.due,zb x10_0.2.gone,zb x10_0.2.drop,.rows (List.map rS_Show x10_0.2.shows),.res (res_Sk x10_1),zn x10_1.2.due.length,zn x10_1.2.gone.length,zn x10_1.2.drop.length,zn x10_1.2.shows.length,zF,zF,zF,zT,zT,zT,zT,zT,zT,zT,zT,zT,zT,zT,zT,zn x10_1.2.due.length,zn x10_1.2.gone.length,zn x10_1.2.drop.length,zn x10_1.2.shows.length] (Ja (rI .i64) p0.due (Ja rB p0.gone (Ja rB l10_0 (Ja rS_Show p0.shows (J (ok_Sl (S_l17P.mk p0.b p0.due p0.speed p0.wall p0.clock p0.pace p0.playing p0.busy p0.gone p0.left p0.soon l10_0 p0.shows) x10_0 h10_0) (J (lm (rI .i64) x10_0.2.due) (J (lm rB x10_0.2.gone) (J (lm rB x10_0.2.drop) (J (lm rS_Show x10_0.2.shows) (Ja (rI .i64) x10_0.2.due (Ja rB x10_0.2.gone (Ja rB x10_0.2.drop (Ja rS_Show x10_0.2.shows (J (ok_Sk x10_0.2 p1 x10_1 h10_1) (J (lm (rI .i64) x10_1.2.due) (J (lm rB x10_1.2.gone) (J (lm rB x10_1.2.drop) (J (lm rS_Show x10_1.2.shows) (J h10_2 (J h10_2 (J h10_2 (J4 h10_3 (J4 (not_t h10_4) (J4 (not_t h10_4) (J (ln x10_1.2.due.length) (J (ln x10_1.2.gone.length) (J (ln x10_1.2.drop.length) (J (ln x10_1.2.shows.length) J0)))))))))))))))))))))))))))) (by kernel_rfl)
  ·exact gh (ok_So_15 _ _ _ _ _ r hm) [zi p0.due,zb p0.gone,zb l10_0,.rows (List.map rS_Show p0.shows),.res (res_Sl x10_0),zn x10_0.2.due.length,zn x10_0.2.gone.length,zn x10_0.2.drop.length,zn x10_0.2.shows.length,zi x10_0.2.due,zb x10_0.2.gone,zb x10_0.2.drop,.rows (List.map rS_Show x10_0.2.shows),.res (res_Sk x10_1),zn x10_1.2.due.length,zn x10_1.2.gone.length,zn x10_1.2.drop.length,zn x10_1.2.shows.length,zF,zF,zF,zF,zF,zF,zF,zF,zF,zF,zF,zF,zF,zF,zF,zn x10_1.2.due.length,zn x10_1.2.gone.length,zn x10_1.2.drop.length,zn x10_1.2.shows.length] (Ja (rI .i64) p0.due (Ja rB p0.gone (Ja rB l10_0 (Ja rS_Show p0.shows (J (ok_Sl (S_l17P.mk p0.b p0.due p0.speed p0.wall p0.clock p0.pace p0.playing p0.busy p0.gone p0.left p0.soon l10_0 p0.shows) x10_0 h10_0) (J (lm (rI .i64) x10_0.2.due) (J (lm rB x10_0.2.gone) (J (lm rB x10_0.2.drop) (J (lm rS_Show x10_0.2.shows) (Ja (rI .i64) x10_0.2.due (Ja rB x10_0.2.gone (Ja rB x10_0.2.drop (Ja rS_Show x10_0.2.shows (J (ok_Sk x10_0.2 p1 x10_1 h10_1) (J (lm (rI .i64) x10_1.2.due) (J (lm rB x10_1.2.gone) (J (lm rB x10_1.2.drop) (J (lm rS_Show x10_1.2.shows) (J h10_2 (J h10_2 (J h10_2 (J4 h10_3 (J4 eF (J4 eF (J (ln x10_1.2.due.length) (J (ln x10_1.2.gone.length) (J (ln x10_1.2.drop.length) (J (ln x10_1.2.shows.length) J0)))))))))))))))))))))))))))) (by kernel_rfl)
theorem ok_So_0 (p1:Int) (p0 r:S_l17P) (hm:m_So_0 p1 p0=some r):EE c_So_0 K_So_0 (s_So_0 p1 p0) (Post vf_So (res_So r)):=by
 obtain ⟨x0_0,h0_0,hm⟩:=bind_some hm
 obtain ⟨x0_1,h0_1,hm⟩:=bind_some hm
 obtain ⟨h0_2,hm⟩|⟨h0_2,hm⟩:=split_ite hm
 ·obtain ⟨x0_3,h0_3,hm⟩:=bind_some hm
  exact gh (ok_So_10 _ _ _ _ _ r hm) [.row (rS_Packet x0_0),.row (rS_Track x0_1),zT,.rows (mb (p0.drop.set (0+Int.toNat x0_0.track) false)),zn p0.due.length,zn p0.gone.length,zn ((p0.drop.set (0+Int.toNat x0_0.track) false).length),zn p0.shows.length] (J (rd_nn h0_0) (J (at_row rS_Packet (rd_get h0_0)) (J (rd_nn h0_1) (J (at_row rS_Track (rd_get h0_1)) (J h0_2 (J (rd_in rfl h0_3) (J (put_ob rB false 0 (.lit (.bool false)) (rd_get0 h0_3) (by kernel_rfl) (by kernel_rfl)) (J (ln p0.due.length) (J (ln p0.gone.length) (J (lens p0.drop.length ((p0.drop.set (0+Int.toNat x0_0.track) false).length) (set_len rfl)) (J (ln p0.shows.length) J0))))))))))) (by kernel_rfl)
 ·exact gh (ok_So_10 _ _ _ _ _ r hm) [.row (rS_Packet x0_0),.row (rS_Track x0_1),zF,zn p0.due.length,zn p0.gone.length,zn p0.drop.length,zn p0.shows.length] (J (rd_nn h0_0) (J (at_row rS_Packet (rd_get h0_0)) (J (rd_nn h0_1) (J (at_row rS_Track (rd_get h0_1)) (J h0_2 (J (ln p0.due.length) (J (ln p0.gone.length) (J (ln p0.drop.length) (J (ln p0.shows.length) J0))))))))) (by kernel_rfl)
theorem ok_So (p0:S_l17P) (p1:Int) (r:S_l17P) (hm:m_So p0 p1=some r):Runs ext tbl 126 (as_So p0 p1) (res_So r):=
 runs_of (vf:=vf_So) (by kernel_rfl) rfl (st:=(enter vf_So (as_So p0 p1)).getD default) (by kernel_rfl) (go_on [zn p0.due.length,zn p0.gone.length,zn p0.drop.length,zn p0.shows.length] 1000 (J (len_map (rI .i64) (rfl:p0.due.length=p0.due.length)) (J (len_map rB (rfl:p0.gone.length=p0.gone.length)) (J (len_map rB (rfl:p0.drop.length=p0.drop.length)) (J (len_map rS_Show (rfl:p0.shows.length=p0.shows.length)) J0)))) (ok_So_0 p1 p0 r hm) (by kernel_rfl))
def O_Sp_21 (Q:VX→St→Prop) (e:((List S_Track)×(List S_Packet)×Int×Int×Int×Int×Bool×Int×Int×Int×(List Int)×(List Bool)×(List Bool)×(List S_Show))):Prop:=EE c_Sp_39 K_Sp_39 (s_Sp_39 e.1 e.2.1 e.2.2.1 e.2.2.2.1 e.2.2.2.2.1 e.2.2.2.2.2.1 e.2.2.2.2.2.2.1 e.2.2.2.2.2.2.2.1 e.2.2.2.2.2.2.2.2.1 e.2.2.2.2.2.2.2.2.2.1 e.2.2.2.2.2.2.2.2.2.2.1 e.2.2.2.2.2.2.2.2.2.2.2.1 e.2.2.2.2.2.2.2.2.2.2.2.2.1 e.2.2.2.2.2.2.2.2.2.2.2.2.2) Q
theorem ok_Sp_33 (i21_0:Int) (p0:S_l17P) (l21_1:(List S_Track)) (l21_2:(List S_Packet)) (i21_3 i21_4 i21_5 i21_6:Int) (b21_7:Bool) (i21_8 i21_9 i21_10:Int) (l21_11:(List Int)) (l21_12 l21_13:(List Bool)) (l21_14:(List S_Show)) (b33_0:Bool) (y) (hm:m_Sp_33 i21_0 p0 l21_1 l21_2 i21_3 i21_4 i21_5 i21_6 b21_7 i21_8 i21_9 i21_10 l21_11 l21_12 l21_13 l21_14 b33_0=some y) (Q)
  (hin:∀ s,y=.inl s→EE c_Sp_21 K_Sp_21 (s_Sp_21 p0 s.1 s.2.1 s.2.2.1 s.2.2.2.1 s.2.2.2.2.1 s.2.2.2.2.2.1 s.2.2.2.2.2.2.1 s.2.2.2.2.2.2.2.1 s.2.2.2.2.2.2.2.2.1 s.2.2.2.2.2.2.2.2.2.1 s.2.2.2.2.2.2.2.2.2.2.1 s.2.2.2.2.2.2.2.2.2.2.2.1 s.2.2.2.2.2.2.2.2.2.2.2.2.1 s.2.2.2.2.2.2.2.2.2.2.2.2.2.1 s.2.2.2.2.2.2.2.2.2.2.2.2.2.2) Q) (hout:∀ e,y=.inr e→O_Sp_21 Q e):EE c_Sp_33 K_Sp_33 (s_Sp_33 i21_0 p0 l21_1 l21_2 i21_3 i21_4 i21_5 i21_6 b21_7 i21_8 i21_9 i21_10 l21_11 l21_12 l21_13 l21_14 b33_0) Q:=by
 obtain ⟨h33_0,hm⟩|⟨h33_0,hm⟩:=split_ite hm
 ·obtain ⟨x33_1,h33_1,hm⟩:=bind_some hm
  obtain ⟨x33_2,h33_2,hm⟩:=bind_some hm
  exact gh (hin _ (qj hm).symm) [zT,.rows (mb (l21_12.set (0+Int.toNat i21_0) true)),zi l21_11,.rows (mb (l21_12.set (0+Int.toNat i21_0) true)),zb l21_13,.rows (List.map rS_Show l21_14),.res (res_So x33_2),zn x33_2.due.length,zn x33_2.gone.length,zn x33_2.drop.length,zn x33_2.shows.length,zn x33_2.due.length,zn x33_2.gone.length,zn x33_2.drop.length,zn x33_2.shows.length] (J h33_0 (J (rd_in rfl h33_1) (J (put_ob rB true 0 (.lit (.bool true)) (rd_get0 h33_1) (by kernel_rfl) (by kernel_rfl)) (Ja (rI .i64) l21_11 (J (all_le0 rB (l21_12.set (0+Int.toNat i21_0) true) (set_len rfl)) (J (all_t rB (l21_12.set (0+Int.toNat i21_0) true) (set_len rfl)) (Ja rB l21_13 (Ja rS_Show l21_14 (J (ok_So (S_l17P.mk (S_Box.mk l21_1 l21_2) l21_11 i21_3 i21_4 i21_5 i21_6 b21_7 i21_8 (l21_12.set (0+Int.toNat i21_0) true) i21_9 i21_10 l21_13 l21_14) i21_0 x33_2 h33_2) (J (lm (rI .i64) x33_2.due) (J (lm rB x33_2.gone) (J (lm rB x33_2.drop) (J (lm rS_Show x33_2.shows) (J (ln x33_2.due.length) (J (ln x33_2.gone.length) (J (ln x33_2.drop.length) (J (ln x33_2.shows.length) J0))))))))))))))))) (by kernel_rfl)
 ·exact gh (hin _ (qj hm).symm) [zF,zn l21_11.length,zn l21_12.length,zn l21_13.length,zn l21_14.length] (J h33_0 (J (ln l21_11.length) (J (ln l21_12.length) (J (ln l21_13.length) (J (ln l21_14.length) J0))))) (by kernel_rfl)
theorem ok_Sp_39 (l39_0:(List S_Track)) (l39_1:(List S_Packet)) (i39_2 i39_3 i39_4 i39_5:Int) (b39_6:Bool) (i39_7 i39_8 i39_9:Int) (l39_10:(List Int)) (l39_11 l39_12:(List Bool)) (l39_13:(List S_Show)) (r:S_l17P) (hm:m_Sp_39 l39_0 l39_1 i39_2 i39_3 i39_4 i39_5 b39_6 i39_7 i39_8 i39_9 l39_10 l39_11 l39_12 l39_13=some r):EE c_Sp_39 K_Sp_39 (s_Sp_39 l39_0 l39_1 i39_2 i39_3 i39_4 i39_5 b39_6 i39_7 i39_8 i39_9 l39_10 l39_11 l39_12 l39_13) (Post vf_Sp (res_Sp r)):=by
 obtain ⟨x39_0,h39_0,hm⟩:=bind_some hm
 exact go_end [zi l39_10,zb l39_11,zb l39_12,.rows (List.map rS_Show l39_13),.res (res_Sm x39_0),zn x39_0.due.length,zn x39_0.gone.length,zn x39_0.drop.length,zn x39_0.shows.length,zi x39_0.due,zb x39_0.gone,zb x39_0.drop,.rows (List.map rS_Show x39_0.shows)] 1000 (Ja (rI .i64) l39_10 (Ja rB l39_11 (Ja rB l39_12 (Ja rS_Show l39_13 (J (ok_Sm (S_l17P.mk (S_Box.mk l39_0 l39_1) l39_10 i39_2 i39_3 i39_4 i39_5 b39_6 i39_7 l39_11 i39_8 i39_9 l39_12 l39_13) x39_0 h39_0) (J (lm (rI .i64) x39_0.due) (J (lm rB x39_0.gone) (J (lm rB x39_0.drop) (J (lm rS_Show x39_0.shows) (Ja (rI .i64) x39_0.due (Ja rB x39_0.gone (Ja rB x39_0.drop (Ja rS_Show x39_0.shows J0))))))))))))) (congrArg res_Sp (qj hm)) (by kernel_rfl)
theorem ok_Sp_21 (p0:S_l17P) (i21_0:Int) (l21_1:(List S_Track)) (l21_2:(List S_Packet)) (i21_3 i21_4 i21_5 i21_6:Int) (b21_7:Bool) (i21_8 i21_9 i21_10:Int) (l21_11:(List Int)) (l21_12 l21_13:(List Bool)) (l21_14:(List S_Show)) (y) (hm:m_Sp_21 p0 i21_0 l21_1 l21_2 i21_3 i21_4 i21_5 i21_6 b21_7 i21_8 i21_9 i21_10 l21_11 l21_12 l21_13 l21_14=some y) (Q)
  (hin:∀ s,y=.inl s→EE c_Sp_21 K_Sp_21 (s_Sp_21 p0 s.1 s.2.1 s.2.2.1 s.2.2.2.1 s.2.2.2.2.1 s.2.2.2.2.2.1 s.2.2.2.2.2.2.1 s.2.2.2.2.2.2.2.1 s.2.2.2.2.2.2.2.2.1 s.2.2.2.2.2.2.2.2.2.1 s.2.2.2.2.2.2.2.2.2.2.1 s.2.2.2.2.2.2.2.2.2.2.2.1 s.2.2.2.2.2.2.2.2.2.2.2.2.1 s.2.2.2.2.2.2.2.2.2.2.2.2.2.1 s.2.2.2.2.2.2.2.2.2.2.2.2.2.2) Q) (hout:∀ e,y=.inr e→O_Sp_21 Q e):EE c_Sp_21 K_Sp_21 (s_Sp_21 p0 i21_0 l21_1 l21_2 i21_3 i21_4 i21_5 i21_6 b21_7 i21_8 i21_9 i21_10 l21_11 l21_12 l21_13 l21_14) Q:=by
 obtain ⟨h21_0,hm⟩|⟨h21_0,hm⟩:=split_ite hm
 ·obtain ⟨x21_1,h21_1,hm⟩:=bind_some hm
  obtain ⟨h21_2,hm⟩|⟨h21_2,hm⟩:=split_ite hm
  ·exact gh (ok_Sp_33 _ _ _ _ _ _ _ _ _ _ _ _ _ _ _ _ _ y hm Q hin hout) [zT,.row (rB x21_1),zF,zF,zF,zF,zF,zF,zF,zF,zF,zF,zF,zF,zF,zn l21_11.length,zn l21_12.length,zn l21_13.length,zn l21_14.length] (J h21_0 (J (rd_in rfl h21_1) (J (at_row rB (rd_get0 h21_1)) (J4 (not_f h21_2) (J4 (not_f h21_2) (J4 (not_f h21_2) (J (not_f h21_2) (J (ln l21_11.length) (J (ln l21_12.length) (J (ln l21_13.length) (J (ln l21_14.length) J0))))))))))) (by kernel_rfl)
  ·obtain ⟨x21_3,h21_3,hm⟩:=bind_some hm
   exact gh (ok_Sp_33 _ _ _ _ _ _ _ _ _ _ _ _ _ _ _ _ _ y hm Q hin hout) [zT,.row (rB x21_1),zT,zT,zT,zT,zT,zT,zT,.row ((rI .i64) x21_3),zT,zT,zT,zT,zT,zT,zn l21_11.length,zn l21_12.length,zn l21_13.length,zn l21_14.length] (J h21_0 (J (rd_in rfl h21_1) (J (at_row rB (rd_get0 h21_1)) (J4 (not_t h21_2) (J (not_t h21_2) (J (not_t h21_2) (J (rd_in rfl h21_3) (J (not_t h21_2) (J (at_row (rI .i64) (rd_get0 h21_3)) (J4 (not_t h21_2) (J (not_t h21_2) (J (not_t h21_2) (J (ln l21_11.length) (J (ln l21_12.length) (J (ln l21_13.length) (J (ln l21_14.length) J0)))))))))))))))) (by kernel_rfl)
 ·refine gn c_Sp_39 K_Sp_39 (s_Sp_39 l21_1 l21_2 i21_3 i21_4 i21_5 i21_6 b21_7 i21_8 i21_9 i21_10 l21_11 l21_12 l21_13 l21_14) [zF,zn l21_11.length,zn l21_12.length,zn l21_13.length,zn l21_14.length] (J h21_0 (J (ln l21_11.length) (J (ln l21_12.length) (J (ln l21_13.length) (J (ln l21_14.length) J0))))) ?_ (by kernel_rfl)
  exact hout (l21_1,l21_2,i21_3,i21_4,i21_5,i21_6,b21_7,i21_8,i21_9,i21_10,l21_11,l21_12,l21_13,l21_14) (qj hm).symm
theorem ok_Sp_0 (p0 r:S_l17P) (hm:m_Sp_0 p0=some r):EE c_Sp_0 K_Sp_0 (s_Sp_0 p0) (Post vf_Sp (res_Sp r)):=by
 obtain ⟨h0_0,hm⟩|⟨h0_0,hm⟩:=split_ite hm
 ·obtain ⟨h0_1,hm⟩|⟨h0_1,hm⟩:=split_ite hm
  ·exact go_end [zF,zT,zT,zT,zT,zT,zT,zT,zT,zT,zT,zT,zi p0.due,zb p0.gone,zb p0.drop,.rows (List.map rS_Show p0.shows)] 1000 (J (not_f h0_0) (J4 h0_1 (J4 h0_1 (J h0_1 (J h0_1 (J eT (Ja (rI .i64) p0.due (Ja rB p0.gone (Ja rB p0.drop (Ja rS_Show p0.shows J0)))))))))) (congrArg res_Sp (qj hm)) (by kernel_rfl)
  ·obtain ⟨h0_2,hm⟩|⟨h0_2,hm⟩:=split_ite hm
   ·exact go_end [zF,zF,zF,zF,zF,zF,zF,zF,zF,zF,zF,zT,zi p0.due,zb p0.gone,zb p0.drop,.rows (List.map rS_Show p0.shows)] 1000 (J (not_f h0_0) (J4 h0_1 (J4 h0_1 (J h0_1 (J h0_1 (J h0_2 (Ja (rI .i64) p0.due (Ja rB p0.gone (Ja rB p0.drop (Ja rS_Show p0.shows J0)))))))))) (congrArg res_Sp (qj hm)) (by kernel_rfl)
   ·refine gn c_Sp_21 K_Sp_21 (s_Sp_21 p0 0 p0.b.tracks p0.b.packets p0.speed (w64 (p0.wall+1)) (w64 (p0.clock+(w64 (10*p0.pace)))) p0.pace p0.playing p0.busy p0.left p0.soon p0.due p0.gone p0.drop p0.shows) [zF,zF,zF,zF,zF,zF,zF,zF,zF,zF,zF,zF,zn p0.due.length,zn p0.gone.length,zn p0.drop.length,zn p0.shows.length] (J (not_f h0_0) (J4 h0_1 (J4 h0_1 (J h0_1 (J h0_1 (J h0_2 (J (ln p0.due.length) (J (ln p0.gone.length) (J (ln p0.drop.length) (J (ln p0.shows.length) J0)))))))))) ?_ (by kernel_rfl)
    obtain ⟨e,he,hm⟩:=bind_some hm
    refine loop_rule (u:=.c c_Sp_21) (K:=K_Sp_21) (Q:=(Post vf_Sp (res_Sp r))) (b:=lp_Sp_21 p0) (We:=O_Sp_21 (Post vf_Sp (res_Sp r))) (stJ:=fun s=>s_Sp_21 p0 s.1 s.2.1 s.2.2.1 s.2.2.2.1 s.2.2.2.2.1 s.2.2.2.2.2.1 s.2.2.2.2.2.2.1 s.2.2.2.2.2.2.2.1 s.2.2.2.2.2.2.2.2.1 s.2.2.2.2.2.2.2.2.2.1 s.2.2.2.2.2.2.2.2.2.2.1 s.2.2.2.2.2.2.2.2.2.2.2.1 s.2.2.2.2.2.2.2.2.2.2.2.2.1 s.2.2.2.2.2.2.2.2.2.2.2.2.2.1 s.2.2.2.2.2.2.2.2.2.2.2.2.2.2) (s:=(0,p0.b.tracks,p0.b.packets,p0.speed,(w64 (p0.wall+1)),(w64 (p0.clock+(w64 (10*p0.pace)))),p0.pace,p0.playing,p0.busy,p0.left,p0.soon,p0.due,p0.gone,p0.drop,p0.shows)) (fun s y hb hin hout=>ok_Sp_21 p0 s.1 s.2.1 s.2.2.1 s.2.2.2.1 s.2.2.2.2.1 s.2.2.2.2.2.1 s.2.2.2.2.2.2.1 s.2.2.2.2.2.2.2.1 s.2.2.2.2.2.2.2.2.1 s.2.2.2.2.2.2.2.2.2.1 s.2.2.2.2.2.2.2.2.2.2.1 s.2.2.2.2.2.2.2.2.2.2.2.1 s.2.2.2.2.2.2.2.2.2.2.2.2.1 s.2.2.2.2.2.2.2.2.2.2.2.2.2.1 s.2.2.2.2.2.2.2.2.2.2.2.2.2.2 y hb (Post vf_Sp (res_Sp r)) hin hout) he ?_
    show EE c_Sp_39 K_Sp_39 (s_Sp_39 e.1 e.2.1 e.2.2.1 e.2.2.2.1 e.2.2.2.2.1 e.2.2.2.2.2.1 e.2.2.2.2.2.2.1 e.2.2.2.2.2.2.2.1 e.2.2.2.2.2.2.2.2.1 e.2.2.2.2.2.2.2.2.2.1 e.2.2.2.2.2.2.2.2.2.2.1 e.2.2.2.2.2.2.2.2.2.2.2.1 e.2.2.2.2.2.2.2.2.2.2.2.2.1 e.2.2.2.2.2.2.2.2.2.2.2.2.2) _
    exact ok_Sp_39 e.1 e.2.1 e.2.2.1 e.2.2.2.1 e.2.2.2.2.1 e.2.2.2.2.2.1 e.2.2.2.2.2.2.1 e.2.2.2.2.2.2.2.1 e.2.2.2.2.2.2.2.2.1 e.2.2.2.2.2.2.2.2.2.1 e.2.2.2.2.2.2.2.2.2.2.1 e.2.2.2.2.2.2.2.2.2.2.2.1 e.2.2.2.2.2.2.2.2.2.2.2.2.1 e.2.2.2.2.2.2.2.2.2.2.2.2.2 r hm
 ·exact go_end [zT,zi p0.due,zb p0.gone,zb p0.drop,.rows (List.map rS_Show p0.shows)] 1000 (J (not_t h0_0) (Ja (rI .i64) p0.due (Ja rB p0.gone (Ja rB p0.drop (Ja rS_Show p0.shows J0))))) (congrArg res_Sp (qj hm)) (by kernel_rfl)
theorem ok_Sp (p0 r:S_l17P) (hm:m_Sp p0=some r):Runs ext tbl 78 (as_Sp p0) (res_Sp r):=
 runs_of (vf:=vf_Sp) (by kernel_rfl) rfl (st:=(enter vf_Sp (as_Sp p0)).getD default) (by kernel_rfl) (go_on [zn p0.due.length,zn p0.gone.length,zn p0.drop.length,zn p0.shows.length] 1000 (J (len_map (rI .i64) (rfl:p0.due.length=p0.due.length)) (J (len_map rB (rfl:p0.gone.length=p0.gone.length)) (J (len_map rB (rfl:p0.drop.length=p0.drop.length)) (J (len_map rS_Show (rfl:p0.shows.length=p0.shows.length)) J0)))) (ok_Sp_0 p0 r hm) (by kernel_rfl))
def O_Sb_92 (p2:(List S_Act)) (i59_0:Int) (Q:VX→St→Prop) (e:((List S_Track)×(List S_Packet)×Int×Int×Int×Int×Bool×Int×Int×Int×(List Int)×(List Bool)×(List Bool)×(List S_Show))):Prop:=EE c_Sb_102 K_Sb_102 (s_Sb_102 p2 i59_0 e.1 e.2.1 e.2.2.1 e.2.2.2.1 e.2.2.2.2.1 e.2.2.2.2.2.1 e.2.2.2.2.2.2.1 e.2.2.2.2.2.2.2.1 e.2.2.2.2.2.2.2.2.1 e.2.2.2.2.2.2.2.2.2.1 e.2.2.2.2.2.2.2.2.2.2.1 e.2.2.2.2.2.2.2.2.2.2.2.1 e.2.2.2.2.2.2.2.2.2.2.2.2.1 e.2.2.2.2.2.2.2.2.2.2.2.2.2) Q
def O_Sb_59 (Q:VX→St→Prop) (e:((List S_Track)×(List S_Packet)×Int×Int×Int×Int×Bool×Int×Int×Int×(List Int)×(List Bool)×(List Bool)×(List S_Show))):Prop:=EE c_Sb_103 K_Sb_103 (s_Sb_103 e.1 e.2.1 e.2.2.1 e.2.2.2.1 e.2.2.2.2.1 e.2.2.2.2.2.1 e.2.2.2.2.2.2.1 e.2.2.2.2.2.2.2.1 e.2.2.2.2.2.2.2.2.1 e.2.2.2.2.2.2.2.2.2.1 e.2.2.2.2.2.2.2.2.2.2.1 e.2.2.2.2.2.2.2.2.2.2.2.1 e.2.2.2.2.2.2.2.2.2.2.2.2.1 e.2.2.2.2.2.2.2.2.2.2.2.2.2) Q
def O_Sb_40 (p2:(List S_Act)) (p0:S_Box) (p1:Int) (Q:VX→St→Prop) (e:((List Int)×(List Bool)×(List Bool))):Prop:=EE c_Sb_52 K_Sb_52 (s_Sb_52 p2 p0 p1 e.1 e.2.1 e.2.2) Q
def O_Sb_15 (p1:Int) (p2:(List S_Act)) (p0:S_Box) (Q:VX→St→Prop) (e:(S_Played)⊕((Unit))):Prop:=match e with | .inl e=>Q=Post vf_Sb (res_Sb e) | .inr e=>EE c_Sb_33 K_Sb_33 (s_Sb_33 p1 p2 p0) Q
theorem ok_Sb_102 (p2:(List S_Act)) (i59_0:Int) (l102_0:(List S_Track)) (l102_1:(List S_Packet)) (i102_2 i102_3 i102_4 i102_5:Int) (b102_6:Bool) (i102_7 i102_8 i102_9:Int) (l102_10:(List Int)) (l102_11 l102_12:(List Bool)) (l102_13:(List S_Show)) (y) (hm:m_Sb_102 p2 i59_0 l102_0 l102_1 i102_2 i102_3 i102_4 i102_5 b102_6 i102_7 i102_8 i102_9 l102_10 l102_11 l102_12 l102_13=some y) (Q)
  (hin:∀ s,y=.inl s→EE c_Sb_59 K_Sb_59 (s_Sb_59 p2 s.1 s.2.1 s.2.2.1 s.2.2.2.1 s.2.2.2.2.1 s.2.2.2.2.2.1 s.2.2.2.2.2.2.1 s.2.2.2.2.2.2.2.1 s.2.2.2.2.2.2.2.2.1 s.2.2.2.2.2.2.2.2.2.1 s.2.2.2.2.2.2.2.2.2.2.1 s.2.2.2.2.2.2.2.2.2.2.2.1 s.2.2.2.2.2.2.2.2.2.2.2.2.1 s.2.2.2.2.2.2.2.2.2.2.2.2.2.1 s.2.2.2.2.2.2.2.2.2.2.2.2.2.2) Q) (hout:∀ e,y=.inr e→O_Sb_59 Q e):EE c_Sb_102 K_Sb_102 (s_Sb_102 p2 i59_0 l102_0 l102_1 i102_2 i102_3 i102_4 i102_5 b102_6 i102_7 i102_8 i102_9 l102_10 l102_11 l102_12 l102_13) Q:=by
 exact gh (hin _ (qj hm).symm) [zn (([]:List S_Show).length),zn l102_10.length,zn l102_11.length,zn l102_12.length,zn l102_13.length] (J (lens (([]:List S_Show).length) (([]:List S_Show).length) rfl) (J (ln l102_10.length) (J (ln l102_11.length) (J (ln l102_12.length) (J (ln l102_13.length) J0))))) (by kernel_rfl)
theorem ok_Sb_92 (p2:(List S_Act)) (i59_0:Int) (x59_1:S_Act) (i92_0:Int) (l92_1:(List S_Track)) (l92_2:(List S_Packet)) (i92_3 i92_4 i92_5 i92_6:Int) (b92_7:Bool) (i92_8 i92_9 i92_10:Int) (l92_11:(List Int)) (l92_12 l92_13:(List Bool)) (l92_14:(List S_Show)) (y) (hm:m_Sb_92 p2 i59_0 x59_1 i92_0 l92_1 l92_2 i92_3 i92_4 i92_5 i92_6 b92_7 i92_8 i92_9 i92_10 l92_11 l92_12 l92_13 l92_14=some y) (Q)
  (hin:∀ s,y=.inl s→EE c_Sb_92 K_Sb_92 (s_Sb_92 p2 i59_0 x59_1 s.1 s.2.1 s.2.2.1 s.2.2.2.1 s.2.2.2.2.1 s.2.2.2.2.2.1 s.2.2.2.2.2.2.1 s.2.2.2.2.2.2.2.1 s.2.2.2.2.2.2.2.2.1 s.2.2.2.2.2.2.2.2.2.1 s.2.2.2.2.2.2.2.2.2.2.1 s.2.2.2.2.2.2.2.2.2.2.2.1 s.2.2.2.2.2.2.2.2.2.2.2.2.1 s.2.2.2.2.2.2.2.2.2.2.2.2.2.1 s.2.2.2.2.2.2.2.2.2.2.2.2.2.2) Q) (hout:∀ e,y=.inr e→O_Sb_92 p2 i59_0 Q e):EE c_Sb_92 K_Sb_92 (s_Sb_92 p2 i59_0 x59_1 i92_0 l92_1 l92_2 i92_3 i92_4 i92_5 i92_6 b92_7 i92_8 i92_9 i92_10 l92_11 l92_12 l92_13 l92_14) Q:=by
 obtain ⟨h92_0,hm⟩|⟨h92_0,hm⟩:=split_ite hm
 ·obtain ⟨x92_1,h92_1,hm⟩:=bind_some hm
  exact gh (hin _ (qj hm).symm) [zT,zi l92_11,zb l92_12,zb l92_13,.rows (List.map rS_Show l92_14),.res (res_Sp x92_1),zn x92_1.due.length,zn x92_1.gone.length,zn x92_1.drop.length,zn x92_1.shows.length,zn (([]:List S_Show).length),zn x92_1.due.length,zn x92_1.gone.length,zn x92_1.drop.length,zn x92_1.shows.length] (J h92_0 (Ja (rI .i64) l92_11 (Ja rB l92_12 (Ja rB l92_13 (Ja rS_Show l92_14 (J (ok_Sp (S_l17P.mk (S_Box.mk l92_1 l92_2) l92_11 i92_3 i92_4 i92_5 i92_6 b92_7 i92_8 l92_12 i92_9 i92_10 l92_13 l92_14) x92_1 h92_1) (J (lm (rI .i64) x92_1.due) (J (lm rB x92_1.gone) (J (lm rB x92_1.drop) (J (lm rS_Show x92_1.shows) (J (lens (([]:List S_Show).length) (([]:List S_Show).length) rfl) (J (ln x92_1.due.length) (J (ln x92_1.gone.length) (J (ln x92_1.drop.length) (J (ln x92_1.shows.length) J0))))))))))))))) (by kernel_rfl)
 ·refine gn c_Sb_102 K_Sb_102 (s_Sb_102 p2 i59_0 l92_1 l92_2 i92_3 i92_4 i92_5 i92_6 b92_7 i92_8 i92_9 i92_10 l92_11 l92_12 l92_13 l92_14) [zF,zn (([]:List S_Show).length),zn l92_11.length,zn l92_12.length,zn l92_13.length,zn l92_14.length] (J h92_0 (J (lens (([]:List S_Show).length) (([]:List S_Show).length) rfl) (J (ln l92_11.length) (J (ln l92_12.length) (J (ln l92_13.length) (J (ln l92_14.length) J0)))))) ?_ (by kernel_rfl)
  exact hout (l92_1,l92_2,i92_3,i92_4,i92_5,i92_6,b92_7,i92_8,i92_9,i92_10,l92_11,l92_12,l92_13,l92_14) (qj hm).symm
theorem ok_Sb_103 (l103_0:(List S_Track)) (l103_1:(List S_Packet)) (i103_2 i103_3 i103_4 i103_5:Int) (b103_6:Bool) (i103_7 i103_8 i103_9:Int) (l103_10:(List Int)) (l103_11 l103_12:(List Bool)) (l103_13:(List S_Show)) (r:S_Played) (hm:m_Sb_103 l103_0 l103_1 i103_2 i103_3 i103_4 i103_5 b103_6 i103_7 i103_8 i103_9 l103_10 l103_11 l103_12 l103_13=some r):EE c_Sb_103 K_Sb_103 (s_Sb_103 l103_0 l103_1 i103_2 i103_3 i103_4 i103_5 b103_6 i103_7 i103_8 i103_9 l103_10 l103_11 l103_12 l103_13) (Post vf_Sb (res_Sb r)):=by
 exact go_end [.rows (List.map rS_Show l103_13)] 1000 (J (by decide:(1000:Int)≠0) (Ja rS_Show l103_13 J0)) (congrArg res_Sb (qj hm)) (by kernel_rfl)
theorem ok_Sb_59 (p2:(List S_Act)) (i59_0:Int) (l59_1:(List S_Track)) (l59_2:(List S_Packet)) (i59_3 i59_4 i59_5 i59_6:Int) (b59_7:Bool) (i59_8 i59_9 i59_10:Int) (l59_11:(List Int)) (l59_12 l59_13:(List Bool)) (l59_14:(List S_Show)) (y) (hm:m_Sb_59 p2 i59_0 l59_1 l59_2 i59_3 i59_4 i59_5 i59_6 b59_7 i59_8 i59_9 i59_10 l59_11 l59_12 l59_13 l59_14=some y) (Q)
  (hin:∀ s,y=.inl s→EE c_Sb_59 K_Sb_59 (s_Sb_59 p2 s.1 s.2.1 s.2.2.1 s.2.2.2.1 s.2.2.2.2.1 s.2.2.2.2.2.1 s.2.2.2.2.2.2.1 s.2.2.2.2.2.2.2.1 s.2.2.2.2.2.2.2.2.1 s.2.2.2.2.2.2.2.2.2.1 s.2.2.2.2.2.2.2.2.2.2.1 s.2.2.2.2.2.2.2.2.2.2.2.1 s.2.2.2.2.2.2.2.2.2.2.2.2.1 s.2.2.2.2.2.2.2.2.2.2.2.2.2.1 s.2.2.2.2.2.2.2.2.2.2.2.2.2.2) Q) (hout:∀ e,y=.inr e→O_Sb_59 Q e):EE c_Sb_59 K_Sb_59 (s_Sb_59 p2 i59_0 l59_1 l59_2 i59_3 i59_4 i59_5 i59_6 b59_7 i59_8 i59_9 i59_10 l59_11 l59_12 l59_13 l59_14) Q:=by
 obtain ⟨h59_0,hm⟩|⟨h59_0,hm⟩:=split_ite hm
 ·obtain ⟨x59_1,h59_1,hm⟩:=bind_some hm
  obtain ⟨h59_2,hm⟩|⟨h59_2,hm⟩:=split_ite hm
  ·exact gh (ok_Sb_102 _ _ _ _ _ _ _ _ _ _ _ _ _ _ _ _ y hm Q hin hout) [zT,.row (rS_Act x59_1),zT,zn (([]:List S_Show).length),zn l59_11.length,zn l59_12.length,zn l59_13.length,zn l59_14.length] (J h59_0 (J (rd_nn h59_1) (J (at_row rS_Act (rd_get h59_1)) (J h59_2 (J (lens (([]:List S_Show).length) (([]:List S_Show).length) rfl) (J (ln l59_11.length) (J (ln l59_12.length) (J (ln l59_13.length) (J (ln l59_14.length) J0))))))))) (by kernel_rfl)
  ·obtain ⟨h59_3,hm⟩|⟨h59_3,hm⟩:=split_ite hm
   ·exact gh (ok_Sb_102 _ _ _ _ _ _ _ _ _ _ _ _ _ _ _ _ y hm Q hin hout) [zT,.row (rS_Act x59_1),zF,zT,zn (([]:List S_Show).length),zn l59_11.length,zn l59_12.length,zn l59_13.length,zn l59_14.length] (J h59_0 (J (rd_nn h59_1) (J (at_row rS_Act (rd_get h59_1)) (J h59_2 (J h59_3 (J (lens (([]:List S_Show).length) (([]:List S_Show).length) rfl) (J (ln l59_11.length) (J (ln l59_12.length) (J (ln l59_13.length) (J (ln l59_14.length) J0)))))))))) (by kernel_rfl)
   ·obtain ⟨h59_4,hm⟩|⟨h59_4,hm⟩:=split_ite hm
    ·exact gh (ok_Sb_102 _ _ _ _ _ _ _ _ _ _ _ _ _ _ _ _ y hm Q hin hout) [zT,.row (rS_Act x59_1),zF,zF,zT,zn (([]:List S_Show).length),zn l59_11.length,zn l59_12.length,zn l59_13.length,zn l59_14.length] (J h59_0 (J (rd_nn h59_1) (J (at_row rS_Act (rd_get h59_1)) (J h59_2 (J h59_3 (J h59_4 (J (lens (([]:List S_Show).length) (([]:List S_Show).length) rfl) (J (ln l59_11.length) (J (ln l59_12.length) (J (ln l59_13.length) (J (ln l59_14.length) J0))))))))))) (by kernel_rfl)
    ·obtain ⟨h59_5,hm⟩|⟨h59_5,hm⟩:=split_ite hm
     ·obtain ⟨x59_6,h59_6,hm⟩:=bind_some hm
      exact gh (ok_Sb_102 _ _ _ _ _ _ _ _ _ _ _ _ _ _ _ _ y hm Q hin hout) [zT,.row (rS_Act x59_1),zF,zF,zF,zT,zi l59_11,zb l59_12,zb l59_13,.rows (List.map rS_Show l59_14),.res (res_Sn x59_6),zn x59_6.due.length,zn x59_6.gone.length,zn x59_6.drop.length,zn x59_6.shows.length,zn (([]:List S_Show).length),zn x59_6.due.length,zn x59_6.gone.length,zn x59_6.drop.length,zn x59_6.shows.length] (J h59_0 (J (rd_nn h59_1) (J (at_row rS_Act (rd_get h59_1)) (J h59_2 (J h59_3 (J h59_4 (J h59_5 (Ja (rI .i64) l59_11 (Ja rB l59_12 (Ja rB l59_13 (Ja rS_Show l59_14 (J (ok_Sn (S_l17P.mk (S_Box.mk l59_1 l59_2) l59_11 i59_3 i59_4 i59_5 i59_6 b59_7 i59_8 l59_12 i59_9 i59_10 l59_13 l59_14) x59_1.value x59_6 h59_6) (J (lm (rI .i64) x59_6.due) (J (lm rB x59_6.gone) (J (lm rB x59_6.drop) (J (lm rS_Show x59_6.shows) (J (lens (([]:List S_Show).length) (([]:List S_Show).length) rfl) (J (ln x59_6.due.length) (J (ln x59_6.gone.length) (J (ln x59_6.drop.length) (J (ln x59_6.shows.length) J0))))))))))))))))))))) (by kernel_rfl)
     ·refine gn c_Sb_92 K_Sb_92 (s_Sb_92 p2 i59_0 x59_1 0 l59_1 l59_2 i59_3 i59_4 i59_5 i59_6 b59_7 i59_8 i59_9 i59_10 l59_11 l59_12 l59_13 l59_14) [zT,.row (rS_Act x59_1),zF,zF,zF,zF,zn (([]:List S_Show).length),zn l59_11.length,zn l59_12.length,zn l59_13.length,zn l59_14.length] (J h59_0 (J (rd_nn h59_1) (J (at_row rS_Act (rd_get h59_1)) (J h59_2 (J h59_3 (J h59_4 (J h59_5 (J (lens (([]:List S_Show).length) (([]:List S_Show).length) rfl) (J (ln l59_11.length) (J (ln l59_12.length) (J (ln l59_13.length) (J (ln l59_14.length) J0)))))))))))) ?_ (by kernel_rfl)
      obtain ⟨e,he,hm⟩:=bind_some hm
      refine loop_rule (u:=.c c_Sb_92) (K:=K_Sb_92) (Q:=Q) (b:=lp_Sb_92 p2 i59_0 x59_1) (We:=O_Sb_92 p2 i59_0 Q) (stJ:=fun s=>s_Sb_92 p2 i59_0 x59_1 s.1 s.2.1 s.2.2.1 s.2.2.2.1 s.2.2.2.2.1 s.2.2.2.2.2.1 s.2.2.2.2.2.2.1 s.2.2.2.2.2.2.2.1 s.2.2.2.2.2.2.2.2.1 s.2.2.2.2.2.2.2.2.2.1 s.2.2.2.2.2.2.2.2.2.2.1 s.2.2.2.2.2.2.2.2.2.2.2.1 s.2.2.2.2.2.2.2.2.2.2.2.2.1 s.2.2.2.2.2.2.2.2.2.2.2.2.2.1 s.2.2.2.2.2.2.2.2.2.2.2.2.2.2) (s:=(0,l59_1,l59_2,i59_3,i59_4,i59_5,i59_6,b59_7,i59_8,i59_9,i59_10,l59_11,l59_12,l59_13,l59_14)) (fun s y hb hin hout=>ok_Sb_92 p2 i59_0 x59_1 s.1 s.2.1 s.2.2.1 s.2.2.2.1 s.2.2.2.2.1 s.2.2.2.2.2.1 s.2.2.2.2.2.2.1 s.2.2.2.2.2.2.2.1 s.2.2.2.2.2.2.2.2.1 s.2.2.2.2.2.2.2.2.2.1 s.2.2.2.2.2.2.2.2.2.2.1 s.2.2.2.2.2.2.2.2.2.2.2.1 s.2.2.2.2.2.2.2.2.2.2.2.2.1 s.2.2.2.2.2.2.2.2.2.2.2.2.2.1 s.2.2.2.2.2.2.2.2.2.2.2.2.2.2 y hb Q hin hout) he ?_
      show EE c_Sb_102 K_Sb_102 (s_Sb_102 p2 i59_0 e.1 e.2.1 e.2.2.1 e.2.2.2.1 e.2.2.2.2.1 e.2.2.2.2.2.1 e.2.2.2.2.2.2.1 e.2.2.2.2.2.2.2.1 e.2.2.2.2.2.2.2.2.1 e.2.2.2.2.2.2.2.2.2.1 e.2.2.2.2.2.2.2.2.2.2.1 e.2.2.2.2.2.2.2.2.2.2.2.1 e.2.2.2.2.2.2.2.2.2.2.2.2.1 e.2.2.2.2.2.2.2.2.2.2.2.2.2) _
      exact ok_Sb_102 p2 i59_0 e.1 e.2.1 e.2.2.1 e.2.2.2.1 e.2.2.2.2.1 e.2.2.2.2.2.1 e.2.2.2.2.2.2.1 e.2.2.2.2.2.2.2.1 e.2.2.2.2.2.2.2.2.1 e.2.2.2.2.2.2.2.2.2.1 e.2.2.2.2.2.2.2.2.2.2.1 e.2.2.2.2.2.2.2.2.2.2.2.1 e.2.2.2.2.2.2.2.2.2.2.2.2.1 e.2.2.2.2.2.2.2.2.2.2.2.2.2 y hm Q hin hout
 ·refine gn c_Sb_103 K_Sb_103 (s_Sb_103 l59_1 l59_2 i59_3 i59_4 i59_5 i59_6 b59_7 i59_8 i59_9 i59_10 l59_11 l59_12 l59_13 l59_14) [zF,zn (([]:List S_Show).length),zn l59_11.length,zn l59_12.length,zn l59_13.length,zn l59_14.length] (J h59_0 (J (lens (([]:List S_Show).length) (([]:List S_Show).length) rfl) (J (ln l59_11.length) (J (ln l59_12.length) (J (ln l59_13.length) (J (ln l59_14.length) J0)))))) ?_ (by kernel_rfl)
  exact hout (l59_1,l59_2,i59_3,i59_4,i59_5,i59_6,b59_7,i59_8,i59_9,i59_10,l59_11,l59_12,l59_13,l59_14) (qj hm).symm
theorem ok_Sb_52 (p2:(List S_Act)) (p0:S_Box) (p1:Int) (l52_0:(List Int)) (l52_1 l52_2:(List Bool)) (r:S_Played) (hm:m_Sb_52 p2 p0 p1 l52_0 l52_1 l52_2=some r):EE c_Sb_52 K_Sb_52 (s_Sb_52 p2 p0 p1 l52_0 l52_1 l52_2) (Post vf_Sb (res_Sb r)):=by
 obtain ⟨x52_0,h52_0,hm⟩:=bind_some hm
 refine gn c_Sb_59 K_Sb_59 (s_Sb_59 p2 0 x52_0.b.tracks x52_0.b.packets x52_0.speed x52_0.wall x52_0.clock x52_0.pace x52_0.playing x52_0.busy x52_0.left x52_0.soon x52_0.due x52_0.gone x52_0.drop x52_0.shows) [zi l52_0,zb l52_1,zb l52_2,.res (res_Sm x52_0),zn x52_0.due.length,zn x52_0.gone.length,zn x52_0.drop.length,zn x52_0.shows.length,zn p2.length,zn (([]:List S_Show).length),zn x52_0.due.length,zn x52_0.gone.length,zn x52_0.drop.length,zn x52_0.shows.length] (Ja (rI .i64) l52_0 (Ja rB l52_1 (Ja rB l52_2 (J (ok_Sm (S_l17P.mk p0 l52_0 p1 0 0 100 false 0 l52_1 0 0 l52_2 []) x52_0 h52_0) (J (lm (rI .i64) x52_0.due) (J (lm rB x52_0.gone) (J (lm rB x52_0.drop) (J (lm rS_Show x52_0.shows) (J (lm rS_Act p2) (J (lens (([]:List S_Show).length) (([]:List S_Show).length) rfl) (J (ln x52_0.due.length) (J (ln x52_0.gone.length) (J (ln x52_0.drop.length) (J (ln x52_0.shows.length) J0)))))))))))))) ?_ (by kernel_rfl)
 obtain ⟨e,he,hm⟩:=bind_some hm
 refine loop_rule (u:=.c c_Sb_59) (K:=K_Sb_59) (Q:=(Post vf_Sb (res_Sb r))) (b:=lp_Sb_59 p2) (We:=O_Sb_59 (Post vf_Sb (res_Sb r))) (stJ:=fun s=>s_Sb_59 p2 s.1 s.2.1 s.2.2.1 s.2.2.2.1 s.2.2.2.2.1 s.2.2.2.2.2.1 s.2.2.2.2.2.2.1 s.2.2.2.2.2.2.2.1 s.2.2.2.2.2.2.2.2.1 s.2.2.2.2.2.2.2.2.2.1 s.2.2.2.2.2.2.2.2.2.2.1 s.2.2.2.2.2.2.2.2.2.2.2.1 s.2.2.2.2.2.2.2.2.2.2.2.2.1 s.2.2.2.2.2.2.2.2.2.2.2.2.2.1 s.2.2.2.2.2.2.2.2.2.2.2.2.2.2) (s:=(0,x52_0.b.tracks,x52_0.b.packets,x52_0.speed,x52_0.wall,x52_0.clock,x52_0.pace,x52_0.playing,x52_0.busy,x52_0.left,x52_0.soon,x52_0.due,x52_0.gone,x52_0.drop,x52_0.shows)) (fun s y hb hin hout=>ok_Sb_59 p2 s.1 s.2.1 s.2.2.1 s.2.2.2.1 s.2.2.2.2.1 s.2.2.2.2.2.1 s.2.2.2.2.2.2.1 s.2.2.2.2.2.2.2.1 s.2.2.2.2.2.2.2.2.1 s.2.2.2.2.2.2.2.2.2.1 s.2.2.2.2.2.2.2.2.2.2.1 s.2.2.2.2.2.2.2.2.2.2.2.1 s.2.2.2.2.2.2.2.2.2.2.2.2.1 s.2.2.2.2.2.2.2.2.2.2.2.2.2.1 s.2.2.2.2.2.2.2.2.2.2.2.2.2.2 y hb (Post vf_Sb (res_Sb r)) hin hout) he ?_
 show EE c_Sb_103 K_Sb_103 (s_Sb_103 e.1 e.2.1 e.2.2.1 e.2.2.2.1 e.2.2.2.2.1 e.2.2.2.2.2.1 e.2.2.2.2.2.2.1 e.2.2.2.2.2.2.2.1 e.2.2.2.2.2.2.2.2.1 e.2.2.2.2.2.2.2.2.2.1 e.2.2.2.2.2.2.2.2.2.2.1 e.2.2.2.2.2.2.2.2.2.2.2.1 e.2.2.2.2.2.2.2.2.2.2.2.2.1 e.2.2.2.2.2.2.2.2.2.2.2.2.2) _
 exact ok_Sb_103 e.1 e.2.1 e.2.2.1 e.2.2.2.1 e.2.2.2.2.1 e.2.2.2.2.2.1 e.2.2.2.2.2.2.1 e.2.2.2.2.2.2.2.1 e.2.2.2.2.2.2.2.2.1 e.2.2.2.2.2.2.2.2.2.1 e.2.2.2.2.2.2.2.2.2.2.1 e.2.2.2.2.2.2.2.2.2.2.2.1 e.2.2.2.2.2.2.2.2.2.2.2.2.1 e.2.2.2.2.2.2.2.2.2.2.2.2.2 r hm
theorem ok_Sb_40 (p2:(List S_Act)) (p0:S_Box) (p1 i40_0:Int) (l40_1:(List Int)) (l40_2 l40_3:(List Bool)) (y) (hm:m_Sb_40 p2 p0 p1 i40_0 l40_1 l40_2 l40_3=some y) (Q)
  (hin:∀ s,y=.inl s→EE c_Sb_40 K_Sb_40 (s_Sb_40 p2 p0 p1 s.1 s.2.1 s.2.2.1 s.2.2.2) Q) (hout:∀ e,y=.inr e→O_Sb_40 p2 p0 p1 Q e):EE c_Sb_40 K_Sb_40 (s_Sb_40 p2 p0 p1 i40_0 l40_1 l40_2 l40_3) Q:=by
 obtain ⟨h40_0,hm⟩|⟨h40_0,hm⟩:=split_ite hm
 ·obtain ⟨x40_1,h40_1,hm⟩:=bind_some hm
  obtain ⟨x40_2,h40_2,hm⟩:=bind_some hm
  exact gh (hin _ (qj hm).symm) [zT,.res (res_Sj x40_1),.rows (mi ([x40_1]:List Int)),zn 1,.rows (mi (l40_1++([x40_1]:List Int))),zn ((l40_1++([x40_1]:List Int)).length),zn (([]:List S_Show).length),zn ((l40_1++([x40_1]:List Int)).length),zn l40_2.length,zn l40_3.length] (J h40_0 (J (ok_Sj p0 i40_0 x40_1 h40_1) (J (Eq.refl (mi ([x40_1]:List Int))) (J (len_map (rI .i64) (show 1=([x40_1]:List Int).length from rfl)) (J (all_le (rI .i64) ([x40_1]:List Int) rfl) (J (app_ck (rI .i64) l40_1 ([x40_1]:List Int) rfl rfl h40_2) (J (app_tell (rI .i64) l40_1 ([x40_1]:List Int) rfl rfl) (J (len_map (rI .i64) (show (l40_1++([x40_1]:List Int)).length=(l40_1++([x40_1]:List Int)).length from rfl)) (J (lens (([]:List S_Show).length) (([]:List S_Show).length) rfl) (J (lens ((l40_1++([x40_1]:List Int)).length) ((l40_1++([x40_1]:List Int)).length) rfl) (J (ln l40_2.length) (J (ln l40_3.length) J0)))))))))))) (by kernel_rfl)
 ·refine gn c_Sb_52 K_Sb_52 (s_Sb_52 p2 p0 p1 l40_1 l40_2 l40_3) [zF,zn (([]:List S_Show).length),zn l40_1.length,zn l40_2.length,zn l40_3.length] (J h40_0 (J (lens (([]:List S_Show).length) (([]:List S_Show).length) rfl) (J (ln l40_1.length) (J (ln l40_2.length) (J (ln l40_3.length) J0))))) ?_ (by kernel_rfl)
  exact hout (l40_1,l40_2,l40_3) (qj hm).symm
theorem ok_Sb_33 (p1:Int) (p2:(List S_Act)) (p0:S_Box) (r:S_Played) (hm:m_Sb_33 p1 p2 p0=some r):EE c_Sb_33 K_Sb_33 (s_Sb_33 p1 p2 p0) (Post vf_Sb (res_Sb r)):=by
 obtain ⟨x33_0,h33_0,hm⟩:=bind_some hm
 obtain ⟨x33_1,h33_1,hm⟩:=bind_some hm
 refine gn c_Sb_40 K_Sb_40 (s_Sb_40 p2 p0 p1 0 ([]:List Int) (List.replicate (Int.toNat (p0.packets.length:Int)) (false:Bool)) (List.replicate (Int.toNat (p0.tracks.length:Int)) (false:Bool))) [zn p0.packets.length,zn p0.tracks.length,.rows (mb (List.replicate (Int.toNat (p0.packets.length:Int)) (false:Bool))),zn (Int.toNat (p0.packets.length:Int)),.rows (mb (List.replicate (Int.toNat (p0.tracks.length:Int)) (false:Bool))),zn (Int.toNat (p0.tracks.length:Int)),zn p0.packets.length,zn (([]:List S_Show).length),zn (([]:List Int).length),zn ((List.replicate (Int.toNat (p0.packets.length:Int)) (false:Bool)).length),zn ((List.replicate (Int.toNat (p0.tracks.length:Int)) (false:Bool)).length)] (J (lm rS_Packet p0.packets) (J (lm rS_Track p0.tracks) (J (ck_p h33_0) (J (rep_ob rB (Int.toNat (p0.packets.length:Int)) (false:Bool) [.lit (.bool false)] (by kernel_rfl)) (J (len_map rB (show (Int.toNat (p0.packets.length:Int))=(List.replicate (Int.toNat (p0.packets.length:Int)) (false:Bool)).length from (rep_len (Int.toNat (p0.packets.length:Int)) (false:Bool)))) (J (ck_p h33_1) (J (rep_ob rB (Int.toNat (p0.tracks.length:Int)) (false:Bool) [.lit (.bool false)] (by kernel_rfl)) (J (len_map rB (show (Int.toNat (p0.tracks.length:Int))=(List.replicate (Int.toNat (p0.tracks.length:Int)) (false:Bool)).length from (rep_len (Int.toNat (p0.tracks.length:Int)) (false:Bool)))) (J (lm rS_Packet p0.packets) (J (lens (([]:List S_Show).length) (([]:List S_Show).length) rfl) (J (lens 0 (([]:List Int).length) rfl) (J (lens (Int.toNat (p0.packets.length:Int)) ((List.replicate (Int.toNat (p0.packets.length:Int)) (false:Bool)).length) (rep_len (Int.toNat (p0.packets.length:Int)) (false:Bool))) (J (lens (Int.toNat (p0.tracks.length:Int)) ((List.replicate (Int.toNat (p0.tracks.length:Int)) (false:Bool)).length) (rep_len (Int.toNat (p0.tracks.length:Int)) (false:Bool))) J0))))))))))))) ?_ (by kernel_rfl)
 obtain ⟨e,he,hm⟩:=bind_some hm
 refine loop_rule (u:=.c c_Sb_40) (K:=K_Sb_40) (Q:=(Post vf_Sb (res_Sb r))) (b:=lp_Sb_40 p2 p0 p1) (We:=O_Sb_40 p2 p0 p1 (Post vf_Sb (res_Sb r))) (stJ:=fun s=>s_Sb_40 p2 p0 p1 s.1 s.2.1 s.2.2.1 s.2.2.2) (s:=(0,([]:List Int),(List.replicate (Int.toNat (p0.packets.length:Int)) (false:Bool)),(List.replicate (Int.toNat (p0.tracks.length:Int)) (false:Bool)))) (fun s y hb hin hout=>ok_Sb_40 p2 p0 p1 s.1 s.2.1 s.2.2.1 s.2.2.2 y hb (Post vf_Sb (res_Sb r)) hin hout) he ?_
 show EE c_Sb_52 K_Sb_52 (s_Sb_52 p2 p0 p1 e.1 e.2.1 e.2.2) _
 exact ok_Sb_52 p2 p0 p1 e.1 e.2.1 e.2.2 r hm
theorem ok_Sb_15 (p1:Int) (p2:(List S_Act)) (p0:S_Box) (i15_0:Int) (y) (hm:m_Sb_15 p1 p2 p0 i15_0=some y) (Q)
  (hin:∀ s,y=.inl s→EE c_Sb_15 K_Sb_15 (s_Sb_15 p1 p2 p0 s) Q) (hout:∀ e,y=.inr e→O_Sb_15 p1 p2 p0 Q e):EE c_Sb_15 K_Sb_15 (s_Sb_15 p1 p2 p0 i15_0) Q:=by
 obtain ⟨h15_0,hm⟩|⟨h15_0,hm⟩:=split_ite hm
 ·obtain ⟨x15_1,h15_1,hm⟩:=bind_some hm
  obtain ⟨x15_2,h15_2,hm⟩:=bind_some hm
  obtain ⟨h15_3,hm⟩|⟨h15_3,hm⟩:=split_ite hm
  ·exact gh (hin _ (qj hm).symm) [zT,.row (rS_Act x15_1),.res (res_Si x15_2),zF,zn (([]:List S_Show).length)] (J h15_0 (J (rd_nn h15_1) (J (at_row rS_Act (rd_get h15_1)) (J (ok_Si x15_1 x15_2 h15_2) (J (not_f h15_3) (J (lens (([]:List S_Show).length) (([]:List S_Show).length) rfl) J0)))))) (by kernel_rfl)
  ·have hQ:Q=Post vf_Sb (res_Sb (S_Played.mk 1 ([]:List S_Show) 0 0)):=hout (.inl (S_Played.mk 1 ([]:List S_Show) 0 0)) (qj hm).symm
   subst hQ
   exact go_end [zT,.row (rS_Act x15_1),.res (res_Si x15_2),zT,.rows (List.map rS_Show ([]:List S_Show))] 1000 (J h15_0 (J (rd_nn h15_1) (J (at_row rS_Act (rd_get h15_1)) (J (ok_Si x15_1 x15_2 h15_2) (J (not_t h15_3) (J (all_le0 rS_Show ([]:List S_Show) rfl) (J (all_t rS_Show ([]:List S_Show) rfl) J0))))))) (rfl:res_Sb (S_Played.mk 1 ([]:List S_Show) 0 0)=res_Sb (S_Played.mk 1 ([]:List S_Show) 0 0)) (by kernel_rfl)
 ·refine gn c_Sb_33 K_Sb_33 (s_Sb_33 p1 p2 p0) [zF,zn (([]:List S_Show).length)] (J h15_0 (J (lens (([]:List S_Show).length) (([]:List S_Show).length) rfl) J0)) ?_ (by kernel_rfl)
  exact hout (.inr ()) (qj hm).symm
theorem ok_Sb_5 (p1:Int) (p2:(List S_Act)) (p0:S_Box) (b5_0:Bool) (r:S_Played) (hm:m_Sb_5 p1 p2 p0 b5_0=some r):EE c_Sb_5 K_Sb_5 (s_Sb_5 p1 p2 p0 b5_0) (Post vf_Sb (res_Sb r)):=by
 obtain ⟨h5_0,hm⟩|⟨h5_0,hm⟩:=split_ite hm
 ·exact go_end [zT,.rows (List.map rS_Show ([]:List S_Show))] 1000 (J h5_0 (J (all_le0 rS_Show ([]:List S_Show) rfl) (J (all_t rS_Show ([]:List S_Show) rfl) J0))) (congrArg res_Sb (qj hm)) (by kernel_rfl)
 ·refine gn c_Sb_15 K_Sb_15 (s_Sb_15 p1 p2 p0 0) [zF,zn p2.length,zn (([]:List S_Show).length)] (J h5_0 (J (lm rS_Act p2) (J (lens (([]:List S_Show).length) (([]:List S_Show).length) rfl) J0))) ?_ (by kernel_rfl)
  obtain ⟨e,he,hm⟩:=bind_some hm
  refine loop_rule (u:=.c c_Sb_15) (K:=K_Sb_15) (Q:=(Post vf_Sb (res_Sb r))) (b:=lp_Sb_15 p1 p2 p0) (We:=O_Sb_15 p1 p2 p0 (Post vf_Sb (res_Sb r))) (stJ:=fun s=>s_Sb_15 p1 p2 p0 s) (s:=0) (fun s y hb hin hout=>ok_Sb_15 p1 p2 p0 s y hb (Post vf_Sb (res_Sb r)) hin hout) he ?_
  rcases e with e | e
  ·exact congrArg (fun r=>Post vf_Sb (res_Sb r)) (qj hm).symm
  ·show EE c_Sb_33 K_Sb_33 (s_Sb_33 p1 p2 p0) _
   exact ok_Sb_33 p1 p2 p0 r hm
theorem ok_Sb_0 (p0:S_Box) (p1:Int) (p2:(List S_Act)) (r:S_Played) (hm:m_Sb_0 p0 p1 p2=some r):EE c_Sb_0 K_Sb_0 (s_Sb_0 p0 p1 p2) (Post vf_Sb (res_Sb r)):=by
 obtain ⟨x0_0,h0_0,hm⟩:=bind_some hm
 obtain ⟨h0_1,hm⟩|⟨h0_1,hm⟩:=split_ite hm
 ·obtain ⟨h0_2,hm⟩|⟨h0_2,hm⟩:=split_ite hm
  ·exact gh (ok_Sb_5 _ _ _ _ r hm) [.res (res_Sa x0_0),zF,zF,zF,zT,zT,zT,zT,zT,zT,zT,zn (([]:List S_Show).length)] (J (ok_Sa p0 x0_0 h0_0) (J (not_f h0_1) (J (not_f h0_1) (J (not_f h0_1) (J h0_2 (J h0_2 (J h0_2 (J4 eT (J (lens 0 (([]:List S_Show).length) rfl) J0))))))))) (by kernel_rfl)
  ·obtain ⟨h0_3,hm⟩|⟨h0_3,hm⟩:=split_ite hm
   ·exact gh (ok_Sb_5 _ _ _ _ r hm) [.res (res_Sa x0_0),zF,zF,zF,zF,zF,zF,zT,zT,zT,zT,zn (([]:List S_Show).length)] (J (ok_Sa p0 x0_0 h0_0) (J (not_f h0_1) (J (not_f h0_1) (J (not_f h0_1) (J h0_2 (J h0_2 (J h0_2 (J4 h0_3 (J (lens 0 (([]:List S_Show).length) rfl) J0))))))))) (by kernel_rfl)
   ·exact gh (ok_Sb_5 _ _ _ _ r hm) [.res (res_Sa x0_0),zF,zF,zF,zF,zF,zF,zF,zF,zn p2.length,zF,zF,zn (([]:List S_Show).length)] (J (ok_Sa p0 x0_0 h0_0) (J (not_f h0_1) (J (not_f h0_1) (J (not_f h0_1) (J h0_2 (J h0_2 (J h0_2 (J h0_3 (J h0_3 (J (lm rS_Act p2) (J h0_3 (J h0_3 (J (lens 0 (([]:List S_Show).length) rfl) J0))))))))))))) (by kernel_rfl)
 ·exact gh (ok_Sb_5 _ _ _ _ r hm) [.res (res_Sa x0_0),zT,zT,zT,zT,zT,zT,zT,zT,zT,zT,zn (([]:List S_Show).length)] (J (ok_Sa p0 x0_0 h0_0) (J (not_t h0_1) (J (not_t h0_1) (J (not_t h0_1) (J4 eT (J eT (J eT (J eT (J (lens 0 (([]:List S_Show).length) rfl) J0))))))))) (by kernel_rfl)
theorem ok_Sb (p0:S_Box) (p1:Int) (p2:(List S_Act)) (r:S_Played) (hm:m_Sb p0 p1 p2=some r):Runs ext tbl 26 (as_Sb p0 p1 p2) (res_Sb r):=
 runs_of (vf:=vf_Sb) (by kernel_rfl) rfl (st:=(enter vf_Sb (as_Sb p0 p1 p2)).getD default) (by kernel_rfl) (go_on [] 1000 J0 (ok_Sb_0 p0 p1 p2 r hm) (by kernel_rfl))
def O_Il_15 (Q:VX→St→Prop) (e:(Bool)⊕((Unit))):Prop:=match e with | .inl e=>Q=Post vf_Il (res_Il e) | .inr e=>EE c_Il_33 K_Il_33 (s_Il_33) Q
theorem ok_Il_33 (r:Bool) (hm:m_Il_33=some r):EE c_Il_33 K_Il_33 (s_Il_33) (Post vf_Il (res_Il r)):=by
 exact go_end [] 1000 J0 (congrArg res_Il (qj hm)) (by kernel_rfl)
theorem ok_Il_15 (p0:S_Track) (i15_0:Int) (y) (hm:m_Il_15 p0 i15_0=some y) (Q)
  (hin:∀ s,y=.inl s→EE c_Il_15 K_Il_15 (s_Il_15 p0 s) Q) (hout:∀ e,y=.inr e→O_Il_15 Q e):EE c_Il_15 K_Il_15 (s_Il_15 p0 i15_0) Q:=by
 obtain ⟨h15_0,hm⟩|⟨h15_0,hm⟩:=split_ite hm
 ·obtain ⟨x15_1,h15_1,hm⟩:=bind_some hm
  obtain ⟨h15_2,hm⟩|⟨h15_2,hm⟩:=split_ite hm
  ·have hQ:Q=Post vf_Il (res_Il false):=hout (.inl false) (qj hm).symm
   subst hQ
   exact go_end [zT,.int x15_1,zT,zT,zT,zT,zT,zT,zT] 1000 (J h15_0 (J (sat_nn h15_1) (J (sat_at h15_1) (J4 h15_2 (J h15_2 (J h15_2 (J eT J0))))))) (rfl:res_Il false=res_Il false) (by kernel_rfl)
  ·obtain ⟨h15_3,hm⟩|⟨h15_3,hm⟩:=split_ite hm
   ·have hQ:Q=Post vf_Il (res_Il false):=hout (.inl false) (qj hm).symm
    subst hQ
    exact go_end [zT,.int x15_1,zF,zF,zF,zF,.int x15_1,zF,zF,zT] 1000 (J h15_0 (J (sat_nn h15_1) (J (sat_at h15_1) (J4 h15_2 (J (sat_nn h15_1) (J (sat_at h15_1) (J h15_2 (J h15_2 (J h15_3 J0))))))))) (rfl:res_Il false=res_Il false) (by kernel_rfl)
   ·exact gh (hin _ (qj hm).symm) [zT,.int x15_1,zF,zF,zF,zF,.int x15_1,zF,zF,zF] (J h15_0 (J (sat_nn h15_1) (J (sat_at h15_1) (J4 h15_2 (J (sat_nn h15_1) (J (sat_at h15_1) (J h15_2 (J h15_2 (J h15_3 J0))))))))) (by kernel_rfl)
 ·refine gn c_Il_33 K_Il_33 (s_Il_33) [zF] (J h15_0 J0) ?_ (by kernel_rfl)
  exact hout (.inr ()) (qj hm).symm
theorem ok_Il_0 (p0:S_Track) (r:Bool) (hm:m_Il_0 p0=some r):EE c_Il_0 K_Il_0 (s_Il_0 p0) (Post vf_Il (res_Il r)):=by
 obtain ⟨h0_0,hm⟩|⟨h0_0,hm⟩:=split_ite hm
 ·exact go_end [zT,zT,zT,zT,zT,zT,zT,zT,zT,zT,zT,zT,zT,zT,zT,zT,zT,zT] 1000 (J4 h0_0 (J4 eT (J4 eT (J4 eT (J eT (J eT J0)))))) (congrArg res_Il (qj hm)) (by kernel_rfl)
 ·obtain ⟨h0_1,hm⟩|⟨h0_1,hm⟩:=split_ite hm
  ·exact go_end [zF,zF,zF,zF,zT,zT,zT,zT,zT,zT,zT,zT,zT,zT,zT,zT,zT,zT] 1000 (J4 h0_0 (J4 h0_1 (J4 eT (J4 eT (J eT (J eT J0)))))) (congrArg res_Il (qj hm)) (by kernel_rfl)
  ·obtain ⟨h0_2,hm⟩|⟨h0_2,hm⟩:=split_ite hm
   ·exact go_end [zF,zF,zF,zF,zF,zF,zF,zF,zT,zT,zT,zT,zT,zT,zT,zT,zT,zT] 1000 (J4 h0_0 (J4 h0_1 (J4 h0_2 (J4 eT (J eT (J eT J0)))))) (congrArg res_Il (qj hm)) (by kernel_rfl)
   ·obtain ⟨h0_3,hm⟩|⟨h0_3,hm⟩:=split_ite hm
    ·exact go_end [zF,zF,zF,zF,zF,zF,zF,zF,zF,zF,zF,zF,zT,zT,zT,zT,zT,zT] 1000 (J4 h0_0 (J4 h0_1 (J4 h0_2 (J4 h0_3 (J h0_3 (J eT J0)))))) (congrArg res_Il (qj hm)) (by kernel_rfl)
    ·obtain ⟨h0_4,hm⟩|⟨h0_4,hm⟩:=split_ite hm
     ·exact go_end [zF,zF,zF,zF,zF,zF,zF,zF,zF,zF,zF,zF,zF,zF,zF,zF,zF,zT] 1000 (J4 h0_0 (J4 h0_1 (J4 h0_2 (J4 h0_3 (J h0_3 (J h0_4 J0)))))) (congrArg res_Il (qj hm)) (by kernel_rfl)
     ·refine gn c_Il_15 K_Il_15 (s_Il_15 p0 0) [zF,zF,zF,zF,zF,zF,zF,zF,zF,zF,zF,zF,zF,zF,zF,zF,zF,zF] (J4 h0_0 (J4 h0_1 (J4 h0_2 (J4 h0_3 (J h0_3 (J h0_4 J0)))))) ?_ (by kernel_rfl)
      obtain ⟨e,he,hm⟩:=bind_some hm
      refine loop_rule (u:=.c c_Il_15) (K:=K_Il_15) (Q:=(Post vf_Il (res_Il r))) (b:=lp_Il_15 p0) (We:=O_Il_15 (Post vf_Il (res_Il r))) (stJ:=fun s=>s_Il_15 p0 s) (s:=0) (fun s y hb hin hout=>ok_Il_15 p0 s y hb (Post vf_Il (res_Il r)) hin hout) he ?_
      rcases e with e | e
      ·exact congrArg (fun r=>Post vf_Il (res_Il r)) (qj hm).symm
      ·show EE c_Il_33 K_Il_33 (s_Il_33) _
       exact ok_Il_33 r hm
theorem ok_Il (p0:S_Track) (r:Bool) (hm:m_Il p0=some r):Runs ext tbl 131 (as_Il p0) (res_Il r):=
 runs_of (vf:=vf_Il) (by kernel_rfl) rfl (st:=(enter vf_Il (as_Il p0)).getD default) (by kernel_rfl) (go_on [] 1000 J0 (ok_Il_0 p0 r hm) (by kernel_rfl))
theorem ok_Ik_0 (p0:Int) (r:Bool) (hm:m_Ik_0 p0=some r):EE c_Ik_0 K_Ik_0 (s_Ik_0 p0) (Post vf_Ik (res_Ik r)):=by
 obtain ⟨h0_0,hm⟩|⟨h0_0,hm⟩:=split_ite hm
 ·exact go_end [zT,zT,zT] 1000 (J h0_0 (J h0_0 (J h0_0 J0))) (congrArg res_Ik (qj hm)) (by kernel_rfl)
 ·exact go_end [zF,zF,zF] 1000 (J h0_0 (J h0_0 (J h0_0 J0))) (congrArg res_Ik (qj hm)) (by kernel_rfl)
theorem ok_Ik (p0:Int) (r:Bool) (hm:m_Ik p0=some r):Runs ext tbl 133 (as_Ik p0) (res_Ik r):=
 runs_of (vf:=vf_Ik) (by kernel_rfl) rfl (st:=(enter vf_Ik (as_Ik p0)).getD default) (by kernel_rfl) (go_on [] 1000 J0 (ok_Ik_0 p0 r hm) (by kernel_rfl))
def O_Ij_59 (Q:VX→St→Prop) (e:(Bool)⊕((Int))):Prop:=match e with | .inl e=>Q=Post vf_Ij (res_Ij e) | .inr e=>EE c_Ij_81 K_Ij_81 (s_Ij_81 e) Q
def O_Ij_42 (p0:S_Box) (Q:VX→St→Prop) (e:((List Int))):Prop:=EE c_Ij_54 K_Ij_54 (s_Ij_54 p0 e) Q
def O_Ij_15 (p0:S_Box) (Q:VX→St→Prop) (e:(Bool)⊕((Unit))):Prop:=match e with | .inl e=>Q=Post vf_Ij (res_Ij e) | .inr e=>EE c_Ij_33 K_Ij_33 (s_Ij_33 p0) Q
theorem ok_Ij_77 (i59_0:Int) (p0:S_Box) (i59_1:Int) (x59_1:S_Packet) (l59_2:(List Int)) (y) (hm:m_Ij_77 i59_0 p0 i59_1 x59_1 l59_2=some y) (Q)
  (hin:∀ s,y=.inl s→EE c_Ij_59 K_Ij_59 (s_Ij_59 p0 s.1 s.2.1 s.2.2) Q) (hout:∀ e,y=.inr e→O_Ij_59 Q e):EE c_Ij_77 K_Ij_77 (s_Ij_77 i59_0 p0 i59_1 x59_1 l59_2) Q:=by
 obtain ⟨x77_0,h77_0,hm⟩:=bind_some hm
 exact gh (hin _ (qj hm).symm) [.rows (mi (l59_2.set (0+Int.toNat x59_1.track) x59_1.time)),zn x59_1.data.length,zn ((l59_2.set (0+Int.toNat x59_1.track) x59_1.time).length)] (J (rd_in rfl h77_0) (J (put_ob (rI .i64) x59_1.time 0 (.lit (vI x59_1.time)) (rd_get0 h77_0) (by kernel_rfl) (by kernel_rfl)) (J (lm (rI .u8) x59_1.data) (J (lens l59_2.length ((l59_2.set (0+Int.toNat x59_1.track) x59_1.time).length) (set_len rfl)) J0)))) (by kernel_rfl)
theorem ok_Ij_81 (i81_0:Int) (r:Bool) (hm:m_Ij_81 i81_0=some r):EE c_Ij_81 K_Ij_81 (s_Ij_81 i81_0) (Post vf_Ij (res_Ij r)):=by
 exact go_end [] 1000 J0 (congrArg res_Ij (qj hm)) (by kernel_rfl)
theorem ok_Ij_59 (p0:S_Box) (i59_0 i59_1:Int) (l59_2:(List Int)) (y) (hm:m_Ij_59 p0 i59_0 i59_1 l59_2=some y) (Q)
  (hin:∀ s,y=.inl s→EE c_Ij_59 K_Ij_59 (s_Ij_59 p0 s.1 s.2.1 s.2.2) Q) (hout:∀ e,y=.inr e→O_Ij_59 Q e):EE c_Ij_59 K_Ij_59 (s_Ij_59 p0 i59_0 i59_1 l59_2) Q:=by
 obtain ⟨h59_0,hm⟩|⟨h59_0,hm⟩:=split_ite hm
 ·obtain ⟨x59_1,h59_1,hm⟩:=bind_some hm
  obtain ⟨h59_2,hm⟩|⟨h59_2,hm⟩:=split_ite hm
  ·have hQ:Q=Post vf_Ij (res_Ij false):=hout (.inl false) (qj hm).symm
   subst hQ
   exact go_end [zT,.row (rS_Packet x59_1),zT,zT,zT,zT,zT,zT,zT,zT,zT,zT,zT,zT,zT,zT,zT,zT,zT,zT,zT,zT,zT,zT,zT,zT,zT,zT,zT,zT,zT,zT,zT,zT,zT,zT,zT,zT] 1000 (J h59_0 (J (rd_nn h59_1) (J (at_row rS_Packet (rd_get h59_1)) (J4 h59_2 (J h59_2 (J h59_2 (J h59_2 (J4 eT (J4 eT (J4 eT (J4 eT (J4 eT (J4 eT (J4 eT (J eT J0))))))))))))))) (rfl:res_Ij false=res_Ij false) (by kernel_rfl)
  ·obtain ⟨h59_3,hm⟩|⟨h59_3,hm⟩:=split_ite hm
   ·have hQ:Q=Post vf_Ij (res_Ij false):=hout (.inl false) (qj hm).symm
    subst hQ
    exact go_end [zT,.row (rS_Packet x59_1),zF,zF,zF,zF,zF,zn p0.tracks.length,zF,zF,zT,zT,zT,zT,zT,zT,zT,zT,zT,zT,zT,zT,zT,zT,zT,zT,zT,zT,zT,zT,zT,zT,zT,zT,zT,zT,zT,zT,zT] 1000 (J h59_0 (J (rd_nn h59_1) (J (at_row rS_Packet (rd_get h59_1)) (J4 h59_2 (J h59_2 (J (lm rS_Track p0.tracks) (J h59_2 (J h59_2 (J4 h59_3 (J h59_3 (J4 eT (J4 eT (J4 eT (J4 eT (J4 eT (J eT (J eT (J eT (J eT J0))))))))))))))))))) (rfl:res_Ij false=res_Ij false) (by kernel_rfl)
   ·obtain ⟨x59_4,h59_4,hm⟩:=bind_some hm
    obtain ⟨h59_5,hm⟩|⟨h59_5,hm⟩:=split_ite hm
    ·obtain ⟨x59_6,h59_6,hm⟩:=bind_some hm
     obtain ⟨h59_7,hm⟩|⟨h59_7,hm⟩:=split_ite hm
     ·obtain ⟨x59_8,h59_8,hm⟩:=bind_some hm
      obtain ⟨h59_9,hm⟩|⟨h59_9,hm⟩:=split_ite hm
      ·have hQ:Q=Post vf_Ij (res_Ij false):=hout (.inl false) (qj hm).symm
       subst hQ
       exact go_end [zT,.row (rS_Packet x59_1),zF,zF,zF,zF,zF,zn p0.tracks.length,zF,zF,zF,zF,zF,.res (res_Ik x59_4),zF,zF,zF,zF,zF,.res (res_Ik x59_6),zF,zF,zF,zF,zF,zF,zF,zF,zF,.row ((rI .i64) x59_8),zF,zF,zT,zT,zT,zT,zT,zT,zT,zT,zT,zT] 1000 (J h59_0 (J (rd_nn h59_1) (J (at_row rS_Packet (rd_get h59_1)) (J4 h59_2 (J h59_2 (J (lm rS_Track p0.tracks) (J h59_2 (J h59_2 (J h59_3 (J h59_3 (J h59_3 (J (ok_Ik x59_1.time x59_4 h59_4) (J h59_3 (J h59_3 (J (not_f h59_5) (J (not_f h59_5) (J (not_f h59_5) (J (ok_Ik x59_1.span x59_6 h59_6) (J (not_f h59_5) (J (not_f h59_5) (J4 (not_f h59_7) (J (not_f h59_7) (J (not_f h59_7) (J (rd_in rfl h59_8) (J (not_f h59_7) (J (at_row (rI .i64) (rd_get0 h59_8)) (J (not_f h59_7) (J (not_f h59_7) (J4 h59_9 (J4 h59_9 (J h59_9 (J eT J0)))))))))))))))))))))))))))))))) (rfl:res_Ij false=res_Ij false) (by kernel_rfl)
      ·obtain ⟨h59_10,hm⟩|⟨h59_10,hm⟩:=split_ite hm
       ·obtain ⟨h59_11,hm⟩|⟨h59_11,hm⟩:=split_ite hm
        ·exact gh (ok_Ij_77 _ _ _ _ _ y hm Q hin hout) [zT,.row (rS_Packet x59_1),zF,zF,zF,zF,zF,zn p0.tracks.length,zF,zF,zF,zF,zF,.res (res_Ik x59_4),zF,zF,zF,zF,zF,.res (res_Ik x59_6),zF,zF,zF,zF,zF,zF,zF,zF,zF,.row ((rI .i64) x59_8),zF,zF,zF,zF,zF,zF,zF,.row ((rI .i64) x59_8),zF,zF,zT,zT,zT,zF,zT,zF,zF,zn l59_2.length] (J h59_0 (J (rd_nn h59_1) (J (at_row rS_Packet (rd_get h59_1)) (J4 h59_2 (J h59_2 (J (lm rS_Track p0.tracks) (J h59_2 (J h59_2 (J h59_3 (J h59_3 (J h59_3 (J (ok_Ik x59_1.time x59_4 h59_4) (J h59_3 (J h59_3 (J (not_f h59_5) (J (not_f h59_5) (J (not_f h59_5) (J (ok_Ik x59_1.span x59_6 h59_6) (J (not_f h59_5) (J (not_f h59_5) (J4 (not_f h59_7) (J (not_f h59_7) (J (not_f h59_7) (J (rd_in rfl h59_8) (J (not_f h59_7) (J (at_row (rI .i64) (rd_get0 h59_8)) (J (not_f h59_7) (J (not_f h59_7) (J4 h59_9 (J (rd_in rfl h59_8) (J h59_9 (J (at_row (rI .i64) (rd_get0 h59_8)) (J h59_9 (J h59_9 (J h59_10 (J h59_10 (J h59_10 (J h59_9 (J h59_10 (J h59_9 (J (not_f h59_11) (J (ln l59_2.length) J0)))))))))))))))))))))))))))))))))))))))))) (by kernel_rfl)
        ·have hQ:Q=Post vf_Ij (res_Ij false):=hout (.inl false) (qj hm).symm
         subst hQ
         exact go_end [zT,.row (rS_Packet x59_1),zF,zF,zF,zF,zF,zn p0.tracks.length,zF,zF,zF,zF,zF,.res (res_Ik x59_4),zF,zF,zF,zF,zF,.res (res_Ik x59_6),zF,zF,zF,zF,zF,zF,zF,zF,zF,.row ((rI .i64) x59_8),zF,zF,zF,zF,zF,zF,zF,.row ((rI .i64) x59_8),zF,zF,zT,zT,zT,zF,zT,zF,zT] 1000 (J h59_0 (J (rd_nn h59_1) (J (at_row rS_Packet (rd_get h59_1)) (J4 h59_2 (J h59_2 (J (lm rS_Track p0.tracks) (J h59_2 (J h59_2 (J h59_3 (J h59_3 (J h59_3 (J (ok_Ik x59_1.time x59_4 h59_4) (J h59_3 (J h59_3 (J (not_f h59_5) (J (not_f h59_5) (J (not_f h59_5) (J (ok_Ik x59_1.span x59_6 h59_6) (J (not_f h59_5) (J (not_f h59_5) (J4 (not_f h59_7) (J (not_f h59_7) (J (not_f h59_7) (J (rd_in rfl h59_8) (J (not_f h59_7) (J (at_row (rI .i64) (rd_get0 h59_8)) (J (not_f h59_7) (J (not_f h59_7) (J4 h59_9 (J (rd_in rfl h59_8) (J h59_9 (J (at_row (rI .i64) (rd_get0 h59_8)) (J h59_9 (J h59_9 (J h59_10 (J h59_10 (J h59_10 (J h59_9 (J h59_10 (J h59_9 (J (not_t h59_11) J0))))))))))))))))))))))))))))))))))))))))) (rfl:res_Ij false=res_Ij false) (by kernel_rfl)
       ·exact gh (ok_Ij_77 _ _ _ _ _ y hm Q hin hout) [zT,.row (rS_Packet x59_1),zF,zF,zF,zF,zF,zn p0.tracks.length,zF,zF,zF,zF,zF,.res (res_Ik x59_4),zF,zF,zF,zF,zF,.res (res_Ik x59_6),zF,zF,zF,zF,zF,zF,zF,zF,zF,.row ((rI .i64) x59_8),zF,zF,zF,zF,zF,zF,zF,.row ((rI .i64) x59_8),zF,zF,zF,zF,zF,zF,zF,zF,zF,zn l59_2.length] (J h59_0 (J (rd_nn h59_1) (J (at_row rS_Packet (rd_get h59_1)) (J4 h59_2 (J h59_2 (J (lm rS_Track p0.tracks) (J h59_2 (J h59_2 (J h59_3 (J h59_3 (J h59_3 (J (ok_Ik x59_1.time x59_4 h59_4) (J h59_3 (J h59_3 (J (not_f h59_5) (J (not_f h59_5) (J (not_f h59_5) (J (ok_Ik x59_1.span x59_6 h59_6) (J (not_f h59_5) (J (not_f h59_5) (J4 (not_f h59_7) (J (not_f h59_7) (J (not_f h59_7) (J (rd_in rfl h59_8) (J (not_f h59_7) (J (at_row (rI .i64) (rd_get0 h59_8)) (J (not_f h59_7) (J (not_f h59_7) (J4 h59_9 (J (rd_in rfl h59_8) (J h59_9 (J (at_row (rI .i64) (rd_get0 h59_8)) (J h59_9 (J h59_9 (J h59_10 (J h59_10 (J h59_10 (J h59_9 (J h59_10 (J h59_9 (J eF (J (ln l59_2.length) J0)))))))))))))))))))))))))))))))))))))))))) (by kernel_rfl)
     ·have hQ:Q=Post vf_Ij (res_Ij false):=hout (.inl false) (qj hm).symm
      subst hQ
      exact go_end [zT,.row (rS_Packet x59_1),zF,zF,zF,zF,zF,zn p0.tracks.length,zF,zF,zF,zF,zF,.res (res_Ik x59_4),zF,zF,zF,zF,zF,.res (res_Ik x59_6),zF,zF,zT,zT,zT,zT,zT,zT,zT,zT,zT,zT,zT,zT,zT,zT,zT,zT,zT,zT,zT] 1000 (J h59_0 (J (rd_nn h59_1) (J (at_row rS_Packet (rd_get h59_1)) (J4 h59_2 (J h59_2 (J (lm rS_Track p0.tracks) (J h59_2 (J h59_2 (J h59_3 (J h59_3 (J h59_3 (J (ok_Ik x59_1.time x59_4 h59_4) (J h59_3 (J h59_3 (J (not_f h59_5) (J (not_f h59_5) (J (not_f h59_5) (J (ok_Ik x59_1.span x59_6 h59_6) (J (not_f h59_5) (J (not_f h59_5) (J4 (not_t h59_7) (J4 (not_t h59_7) (J (not_t h59_7) (J4 eT (J4 eT (J eT (J eT J0))))))))))))))))))))))))))) (rfl:res_Ij false=res_Ij false) (by kernel_rfl)
    ·have hQ:Q=Post vf_Ij (res_Ij false):=hout (.inl false) (qj hm).symm
     subst hQ
     exact go_end [zT,.row (rS_Packet x59_1),zF,zF,zF,zF,zF,zn p0.tracks.length,zF,zF,zF,zF,zF,.res (res_Ik x59_4),zF,zF,zT,zT,zT,zT,zT,zT,zT,zT,zT,zT,zT,zT,zT,zT,zT,zT,zT,zT,zT,zT,zT,zT,zT,zT] 1000 (J h59_0 (J (rd_nn h59_1) (J (at_row rS_Packet (rd_get h59_1)) (J4 h59_2 (J h59_2 (J (lm rS_Track p0.tracks) (J h59_2 (J h59_2 (J h59_3 (J h59_3 (J h59_3 (J (ok_Ik x59_1.time x59_4 h59_4) (J h59_3 (J h59_3 (J4 (not_t h59_5) (J (not_t h59_5) (J4 eT (J4 eT (J4 eT (J4 eT (J eT (J eT (J eT J0))))))))))))))))))))))) (rfl:res_Ij false=res_Ij false) (by kernel_rfl)
 ·refine gn c_Ij_81 K_Ij_81 (s_Ij_81 i59_0) [zF] (J h59_0 J0) ?_ (by kernel_rfl)
  exact hout (.inr i59_0) (qj hm).symm
theorem ok_Ij_54 (p0:S_Box) (l54_0:(List Int)) (r:Bool) (hm:m_Ij_54 p0 l54_0=some r):EE c_Ij_54 K_Ij_54 (s_Ij_54 p0 l54_0) (Post vf_Ij (res_Ij r)):=by
 refine gn c_Ij_59 K_Ij_59 (s_Ij_59 p0 0 0 l54_0) [zn p0.packets.length,zn l54_0.length] (J (lm rS_Packet p0.packets) (J (ln l54_0.length) J0)) ?_ (by kernel_rfl)
 obtain ⟨e,he,hm⟩:=bind_some hm
 refine loop_rule (u:=.c c_Ij_59) (K:=K_Ij_59) (Q:=(Post vf_Ij (res_Ij r))) (b:=lp_Ij_59 p0) (We:=O_Ij_59 (Post vf_Ij (res_Ij r))) (stJ:=fun s=>s_Ij_59 p0 s.1 s.2.1 s.2.2) (s:=(0,0,l54_0)) (fun s y hb hin hout=>ok_Ij_59 p0 s.1 s.2.1 s.2.2 y hb (Post vf_Ij (res_Ij r)) hin hout) he ?_
 rcases e with e | e
 ·exact congrArg (fun r=>Post vf_Ij (res_Ij r)) (qj hm).symm
 ·show EE c_Ij_81 K_Ij_81 (s_Ij_81 e) _
  exact ok_Ij_81 e r hm
theorem ok_Ij_42 (p0:S_Box) (i42_0 i42_1:Int) (l42_2:(List Int)) (y) (hm:m_Ij_42 p0 i42_0 i42_1 l42_2=some y) (Q)
  (hin:∀ s,y=.inl s→EE c_Ij_42 K_Ij_42 (s_Ij_42 p0 s.1 s.2.1 s.2.2) Q) (hout:∀ e,y=.inr e→O_Ij_42 p0 Q e):EE c_Ij_42 K_Ij_42 (s_Ij_42 p0 i42_0 i42_1 l42_2) Q:=by
 obtain ⟨h42_0,hm⟩|⟨h42_0,hm⟩:=split_ite hm
 ·obtain ⟨x42_1,h42_1,hm⟩:=bind_some hm
  exact gh (hin _ (qj hm).symm) [zT,.rows (mi (l42_2.set (0+Int.toNat i42_1) (-1))),zn ((l42_2.set (0+Int.toNat i42_1) (-1)).length)] (J h42_0 (J (rd_in rfl h42_1) (J (put_ob (rI .i64) (-1) 0 (.lit (vI (-1))) (rd_get0 h42_1) (by kernel_rfl) (by kernel_rfl)) (J (lens l42_2.length ((l42_2.set (0+Int.toNat i42_1) (-1)).length) (set_len rfl)) J0)))) (by kernel_rfl)
 ·refine gn c_Ij_54 K_Ij_54 (s_Ij_54 p0 l42_2) [zF,zn l42_2.length] (J h42_0 (J (ln l42_2.length) J0)) ?_ (by kernel_rfl)
  exact hout l42_2 (qj hm).symm
theorem ok_Ij_33 (p0:S_Box) (r:Bool) (hm:m_Ij_33 p0=some r):EE c_Ij_33 K_Ij_33 (s_Ij_33 p0) (Post vf_Ij (res_Ij r)):=by
 obtain ⟨x33_0,h33_0,hm⟩:=bind_some hm
 refine gn c_Ij_42 K_Ij_42 (s_Ij_42 p0 ((Int.toNat (p0.tracks.length:Int)):Int) 0 (List.replicate (Int.toNat (p0.tracks.length:Int)) (0:Int))) [zn p0.tracks.length,.rows (mi (List.replicate (Int.toNat (p0.tracks.length:Int)) (0:Int))),zn (Int.toNat (p0.tracks.length:Int)),zn ((List.replicate (Int.toNat (p0.tracks.length:Int)) (0:Int)).length)] (J (lm rS_Track p0.tracks) (J (ck_p h33_0) (J (rep_ob (rI .i64) (Int.toNat (p0.tracks.length:Int)) (0:Int) [.lit (vI 0)] (by kernel_rfl)) (J (len_map (rI .i64) (show (Int.toNat (p0.tracks.length:Int))=(List.replicate (Int.toNat (p0.tracks.length:Int)) (0:Int)).length from (rep_len (Int.toNat (p0.tracks.length:Int)) (0:Int)))) (J (lens (Int.toNat (p0.tracks.length:Int)) ((List.replicate (Int.toNat (p0.tracks.length:Int)) (0:Int)).length) (rep_len (Int.toNat (p0.tracks.length:Int)) (0:Int))) J0))))) ?_ (by kernel_rfl)
 obtain ⟨e,he,hm⟩:=bind_some hm
 refine loop_rule (u:=.c c_Ij_42) (K:=K_Ij_42) (Q:=(Post vf_Ij (res_Ij r))) (b:=lp_Ij_42 p0) (We:=O_Ij_42 p0 (Post vf_Ij (res_Ij r))) (stJ:=fun s=>s_Ij_42 p0 s.1 s.2.1 s.2.2) (s:=(((Int.toNat (p0.tracks.length:Int)):Int),0,(List.replicate (Int.toNat (p0.tracks.length:Int)) (0:Int)))) (fun s y hb hin hout=>ok_Ij_42 p0 s.1 s.2.1 s.2.2 y hb (Post vf_Ij (res_Ij r)) hin hout) he ?_
 show EE c_Ij_54 K_Ij_54 (s_Ij_54 p0 e) _
 exact ok_Ij_54 p0 e r hm
end Go.Proofs.V

namespace Go.Proofs.V
open Go
theorem ok_Ij_15 (p0:S_Box) (i15_0:Int) (y) (hm:m_Ij_15 p0 i15_0=some y) (Q)
  (hin:∀ s,y=.inl s→EE c_Ij_15 K_Ij_15 (s_Ij_15 p0 s) Q) (hout:∀ e,y=.inr e→O_Ij_15 p0 Q e):EE c_Ij_15 K_Ij_15 (s_Ij_15 p0 i15_0) Q:=by
 obtain ⟨h15_0,hm⟩|⟨h15_0,hm⟩:=split_ite hm
 ·obtain ⟨x15_1,h15_1,hm⟩:=bind_some hm
  obtain ⟨x15_2,h15_2,hm⟩:=bind_some hm
  obtain ⟨h15_3,hm⟩|⟨h15_3,hm⟩:=split_ite hm
  ·exact gh (hin _ (qj hm).symm) [zT,.row (rS_Track x15_1),.res (res_Il x15_2),zF] (J h15_0 (J (rd_nn h15_1) (J (at_row rS_Track (rd_get h15_1)) (J (ok_Il x15_1 x15_2 h15_2) (J (not_f h15_3) J0))))) (by kernel_rfl)
  ·have hQ:Q=Post vf_Ij (res_Ij false):=hout (.inl false) (qj hm).symm
   subst hQ
   exact go_end [zT,.row (rS_Track x15_1),.res (res_Il x15_2),zT] 1000 (J h15_0 (J (rd_nn h15_1) (J (at_row rS_Track (rd_get h15_1)) (J (ok_Il x15_1 x15_2 h15_2) (J (not_t h15_3) J0))))) (rfl:res_Ij false=res_Ij false) (by kernel_rfl)
 ·refine gn c_Ij_33 K_Ij_33 (s_Ij_33 p0) [zF] (J h15_0 J0) ?_ (by kernel_rfl)
  exact hout (.inr ()) (qj hm).symm
theorem ok_Ij_0 (p0:S_Box) (r:Bool) (hm:m_Ij_0 p0=some r):EE c_Ij_0 K_Ij_0 (s_Ij_0 p0) (Post vf_Ij (res_Ij r)):=by
 obtain ⟨h0_0,hm⟩|⟨h0_0,hm⟩:=split_ite hm
 ·exact go_end [zn p0.tracks.length,zT,zT,zT,zT,zT,zT,zT,zT,zT,zT,zT] 1000 (J (lm rS_Track p0.tracks) (J4 h0_0 (J h0_0 (J4 eT (J eT (J eT J0)))))) (congrArg res_Ij (qj hm)) (by kernel_rfl)
 ·obtain ⟨h0_1,hm⟩|⟨h0_1,hm⟩:=split_ite hm
  ·exact go_end [zn p0.tracks.length,zF,zF,zF,zn p0.tracks.length,zF,zF,zT,zT,zT,zT,zT,zT] 1000 (J (lm rS_Track p0.tracks) (J h0_0 (J h0_0 (J h0_0 (J (lm rS_Track p0.tracks) (J h0_0 (J h0_0 (J4 h0_1 (J h0_1 (J eT J0)))))))))) (congrArg res_Ij (qj hm)) (by kernel_rfl)
  ·obtain ⟨h0_2,hm⟩|⟨h0_2,hm⟩:=split_ite hm
   ·exact go_end [zn p0.tracks.length,zF,zF,zF,zn p0.tracks.length,zF,zF,zF,zF,zF,zn p0.packets.length,zF,zF,zT] 1000 (J (lm rS_Track p0.tracks) (J h0_0 (J h0_0 (J h0_0 (J (lm rS_Track p0.tracks) (J h0_0 (J h0_0 (J h0_1 (J h0_1 (J h0_1 (J (lm rS_Packet p0.packets) (J h0_1 (J h0_1 (J h0_2 J0)))))))))))))) (congrArg res_Ij (qj hm)) (by kernel_rfl)
   ·refine gn c_Ij_15 K_Ij_15 (s_Ij_15 p0 0) [zn p0.tracks.length,zF,zF,zF,zn p0.tracks.length,zF,zF,zF,zF,zF,zn p0.packets.length,zF,zF,zF,zn p0.tracks.length] (J (lm rS_Track p0.tracks) (J h0_0 (J h0_0 (J h0_0 (J (lm rS_Track p0.tracks) (J h0_0 (J h0_0 (J h0_1 (J h0_1 (J h0_1 (J (lm rS_Packet p0.packets) (J h0_1 (J h0_1 (J h0_2 (J (lm rS_Track p0.tracks) J0))))))))))))))) ?_ (by kernel_rfl)
    obtain ⟨e,he,hm⟩:=bind_some hm
    refine loop_rule (u:=.c c_Ij_15) (K:=K_Ij_15) (Q:=(Post vf_Ij (res_Ij r))) (b:=lp_Ij_15 p0) (We:=O_Ij_15 p0 (Post vf_Ij (res_Ij r))) (stJ:=fun s=>s_Ij_15 p0 s) (s:=0) (fun s y hb hin hout=>ok_Ij_15 p0 s y hb (Post vf_Ij (res_Ij r)) hin hout) he ?_
    rcases e with e | e
    ·exact congrArg (fun r=>Post vf_Ij (res_Ij r)) (qj hm).symm
    ·show EE c_Ij_33 K_Ij_33 (s_Ij_33 p0) _
     exact ok_Ij_33 p0 r hm
theorem ok_Ij (p0:S_Box) (r:Bool) (hm:m_Ij p0=some r):Runs ext tbl 112 (as_Ij p0) (res_Ij r):=
 runs_of (vf:=vf_Ij) (by kernel_rfl) rfl (st:=(enter vf_Ij (as_Ij p0)).getD default) (by kernel_rfl) (go_on [] 1000 J0 (ok_Ij_0 p0 r hm) (by kernel_rfl))
theorem ok_If_0 (p0:S_Box) (p1 p2:Int) (r:Bool) (hm:m_If_0 p0 p1 p2=some r):EE c_If_0 K_If_0 (s_If_0 p0 p1 p2) (Post vf_If (res_If r)):=by
 obtain ⟨x0_0,h0_0,hm⟩:=bind_some hm
 obtain ⟨x0_1,h0_1,hm⟩:=bind_some hm
 obtain ⟨x0_2,h0_2,hm⟩:=bind_some hm
 obtain ⟨x0_3,h0_3,hm⟩:=bind_some hm
 obtain ⟨h0_4,hm⟩|⟨h0_4,hm⟩:=split_ite hm
 ·exact go_end [.row (rS_Packet x0_0),.row (rS_Packet x0_1),.row (rS_Track x0_2),.row (rS_Track x0_3),zT] 1000 (J (rd_nn h0_0) (J (at_row rS_Packet (rd_get h0_0)) (J (rd_nn h0_1) (J (at_row rS_Packet (rd_get h0_1)) (J (rd_nn h0_2) (J (at_row rS_Track (rd_get h0_2)) (J (rd_nn h0_3) (J (at_row rS_Track (rd_get h0_3)) (J h0_4 J0))))))))) (congrArg res_If (qj hm)) (by kernel_rfl)
 ·obtain ⟨h0_5,hm⟩|⟨h0_5,hm⟩:=split_ite hm
  ·exact go_end [.row (rS_Packet x0_0),.row (rS_Packet x0_1),.row (rS_Track x0_2),.row (rS_Track x0_3),zF,zT] 1000 (J (rd_nn h0_0) (J (at_row rS_Packet (rd_get h0_0)) (J (rd_nn h0_1) (J (at_row rS_Packet (rd_get h0_1)) (J (rd_nn h0_2) (J (at_row rS_Track (rd_get h0_2)) (J (rd_nn h0_3) (J (at_row rS_Track (rd_get h0_3)) (J h0_4 (J h0_5 J0)))))))))) (congrArg res_If (qj hm)) (by kernel_rfl)
  ·exact go_end [.row (rS_Packet x0_0),.row (rS_Packet x0_1),.row (rS_Track x0_2),.row (rS_Track x0_3),zF,zF] 1000 (J (rd_nn h0_0) (J (at_row rS_Packet (rd_get h0_0)) (J (rd_nn h0_1) (J (at_row rS_Packet (rd_get h0_1)) (J (rd_nn h0_2) (J (at_row rS_Track (rd_get h0_2)) (J (rd_nn h0_3) (J (at_row rS_Track (rd_get h0_3)) (J h0_4 (J h0_5 J0)))))))))) (congrArg res_If (qj hm)) (by kernel_rfl)
theorem ok_If (p0:S_Box) (p1 p2:Int) (r:Bool) (hm:m_If p0 p1 p2=some r):Runs ext tbl 113 (as_If p0 p1 p2) (res_If r):=
 runs_of (vf:=vf_If) (by kernel_rfl) rfl (st:=(enter vf_If (as_If p0 p1 p2)).getD default) (by kernel_rfl) (go_on [] 1000 J0 (ok_If_0 p0 p1 p2 r hm) (by kernel_rfl))
def O_Ia_15 (Q:VX→St→Prop) (e:(Bool)⊕((Unit))):Prop:=match e with | .inl e=>Q=Post vf_Ia (res_Ia e) | .inr e=>EE c_Ia_31 K_Ia_31 (s_Ia_31) Q
theorem ok_Ia_31 (r:Bool) (hm:m_Ia_31=some r):EE c_Ia_31 K_Ia_31 (s_Ia_31) (Post vf_Ia (res_Ia r)):=by
 exact go_end [] 1000 J0 (congrArg res_Ia (qj hm)) (by kernel_rfl)
theorem ok_Ia_15 (p0:S_Box) (i15_0:Int) (y) (hm:m_Ia_15 p0 i15_0=some y) (Q)
  (hin:∀ s,y=.inl s→EE c_Ia_15 K_Ia_15 (s_Ia_15 p0 s) Q) (hout:∀ e,y=.inr e→O_Ia_15 Q e):EE c_Ia_15 K_Ia_15 (s_Ia_15 p0 i15_0) Q:=by
 obtain ⟨h15_0,hm⟩|⟨h15_0,hm⟩:=split_ite hm
 ·obtain ⟨x15_1,h15_1,hm⟩:=bind_some hm
  obtain ⟨h15_2,hm⟩|⟨h15_2,hm⟩:=split_ite hm
  ·have hQ:Q=Post vf_Ia (res_Ia false):=hout (.inl false) (qj hm).symm
   subst hQ
   exact go_end [zn p0.packets.length,zT,.res (res_If x15_1),zT] 1000 (J (lm rS_Packet p0.packets) (J h15_0 (J (ok_If p0 i15_0 (w64 (i15_0 - 1)) x15_1 h15_1) (J h15_2 J0)))) (rfl:res_Ia false=res_Ia false) (by kernel_rfl)
  ·exact gh (hin _ (qj hm).symm) [zn p0.packets.length,zT,.res (res_If x15_1),zF] (J (lm rS_Packet p0.packets) (J h15_0 (J (ok_If p0 i15_0 (w64 (i15_0 - 1)) x15_1 h15_1) (J h15_2 J0)))) (by kernel_rfl)
 ·refine gn c_Ia_31 K_Ia_31 (s_Ia_31) [zn p0.packets.length,zF] (J (lm rS_Packet p0.packets) (J h15_0 J0)) ?_ (by kernel_rfl)
  exact hout (.inr ()) (qj hm).symm
theorem ok_Ia_0 (p0:S_Box) (r:Bool) (hm:m_Ia_0 p0=some r):EE c_Ia_0 K_Ia_0 (s_Ia_0 p0) (Post vf_Ia (res_Ia r)):=by
 obtain ⟨x0_0,h0_0,hm⟩:=bind_some hm
 obtain ⟨h0_1,hm⟩|⟨h0_1,hm⟩:=split_ite hm
 ·refine gn c_Ia_15 K_Ia_15 (s_Ia_15 p0 1) [.res (res_Ij x0_0),zF] (J (ok_Ij p0 x0_0 h0_0) (J (not_f h0_1) J0)) ?_ (by kernel_rfl)
  obtain ⟨e,he,hm⟩:=bind_some hm
  refine loop_rule (u:=.c c_Ia_15) (K:=K_Ia_15) (Q:=(Post vf_Ia (res_Ia r))) (b:=lp_Ia_15 p0) (We:=O_Ia_15 (Post vf_Ia (res_Ia r))) (stJ:=fun s=>s_Ia_15 p0 s) (s:=1) (fun s y hb hin hout=>ok_Ia_15 p0 s y hb (Post vf_Ia (res_Ia r)) hin hout) he ?_
  rcases e with e | e
  ·exact congrArg (fun r=>Post vf_Ia (res_Ia r)) (qj hm).symm
  ·show EE c_Ia_31 K_Ia_31 (s_Ia_31) _
   exact ok_Ia_31 r hm
 ·exact go_end [.res (res_Ij x0_0),zT] 1000 (J (ok_Ij p0 x0_0 h0_0) (J (not_t h0_1) J0)) (congrArg res_Ia (qj hm)) (by kernel_rfl)
theorem ok_Ia (p0:S_Box) (r:Bool) (hm:m_Ia p0=some r):Runs ext tbl 54 (as_Ia p0) (res_Ia r):=
 runs_of (vf:=vf_Ia) (by kernel_rfl) rfl (st:=(enter vf_Ia (as_Ia p0)).getD default) (by kernel_rfl) (go_on [] 1000 J0 (ok_Ia_0 p0 r hm) (by kernel_rfl))
theorem ok_Id_0 (p0 p1:Int) (p2:S_Act) (r:Bool×S_Act) (hm:m_Id_0 p0 p1 p2=some r):EE c_Id_0 K_Id_0 (s_Id_0 p0 p1 p2) (Post vf_Id (res_Id r)):=by
 obtain ⟨h0_0,hm⟩|⟨h0_0,hm⟩:=split_ite hm
 ·exact go_end [zT,zT,zT,zT,zT] 1000 (J4 h0_0 (J h0_0 J0)) (congrArg res_Id (qj hm)) (by kernel_rfl)
 ·exact go_end [zF,zF,zF,zF,zF] 1000 (J4 h0_0 (J h0_0 J0)) (congrArg res_Id (qj hm)) (by kernel_rfl)
theorem ok_Id (p0 p1:Int) (p2:S_Act) (r:Bool×S_Act) (hm:m_Id p0 p1 p2=some r):Runs ext tbl 122 (as_Id p0 p1 p2) (res_Id r):=
 runs_of (vf:=vf_Id) (by kernel_rfl) rfl (st:=(enter vf_Id (as_Id p0 p1 p2)).getD default) (by kernel_rfl) (go_on [] 1000 J0 (ok_Id_0 p0 p1 p2 r hm) (by kernel_rfl))
theorem ok_Ic_14 (p0:S_Act) (b14_0 r:Bool) (hm:m_Ic_14 p0 b14_0=some r):EE c_Ic_14 K_Ic_14 (s_Ic_14 p0 b14_0) (Post vf_Ic (res_Ic r)):=by
 obtain ⟨h14_0,hm⟩|⟨h14_0,hm⟩:=split_ite hm
 ·exact go_end [zT] 1000 (J h14_0 J0) (congrArg res_Ic (qj hm)) (by kernel_rfl)
 ·obtain ⟨h14_1,hm⟩|⟨h14_1,hm⟩:=split_ite hm
  ·obtain ⟨x14_2,h14_2,hm⟩:=bind_some hm
   exact go_end [zF,zT,.res (res_Id x14_2)] 1000 (J h14_0 (J h14_1 (J (ok_Id 0 359999999 p0 x14_2 h14_2) J0))) (congrArg res_Ic (qj hm)) (by kernel_rfl)
  ·obtain ⟨h14_2,hm⟩|⟨h14_2,hm⟩:=split_ite hm
   ·obtain ⟨x14_3,h14_3,hm⟩:=bind_some hm
    exact go_end [zF,zF,zT,.res (res_Id x14_3)] 1000 (J h14_0 (J h14_1 (J h14_2 (J (ok_Id 0 100000 p0 x14_3 h14_3) J0)))) (congrArg res_Ic (qj hm)) (by kernel_rfl)
   ·obtain ⟨h14_3,hm⟩|⟨h14_3,hm⟩:=split_ite hm
    ·obtain ⟨x14_4,h14_4,hm⟩:=bind_some hm
     exact go_end [zF,zF,zF,zT,.res (res_Id x14_4)] 1000 (J h14_0 (J h14_1 (J h14_2 (J h14_3 (J (ok_Id 25 400 p0 x14_4 h14_4) J0))))) (congrArg res_Ic (qj hm)) (by kernel_rfl)
    ·exact go_end [zF,zF,zF,zF] 1000 (J h14_0 (J h14_1 (J h14_2 (J h14_3 J0)))) (congrArg res_Ic (qj hm)) (by kernel_rfl)
theorem ok_Ic_0 (p0:S_Act) (r:Bool) (hm:m_Ic_0 p0=some r):EE c_Ic_0 K_Ic_0 (s_Ic_0 p0) (Post vf_Ic (res_Ic r)):=by
 obtain ⟨h0_0,hm⟩|⟨h0_0,hm⟩:=split_ite hm
 ·exact gh (ok_Ic_14 _ _ r hm) [zT] (J h0_0 J0) (by kernel_rfl)
 ·exact gh (ok_Ic_14 _ _ r hm) [zF] (J h0_0 J0) (by kernel_rfl)
theorem ok_Ic (p0:S_Act) (r:Bool) (hm:m_Ic p0=some r):Runs ext tbl 70 (as_Ic p0) (res_Ic r):=
 runs_of (vf:=vf_Ic) (by kernel_rfl) rfl (st:=(enter vf_Ic (as_Ic p0)).getD default) (by kernel_rfl) (go_on [] 1000 J0 (ok_Ic_0 p0 r hm) (by kernel_rfl))
theorem ok_Ie_0 (p0:S_Box) (p1 r:Int) (hm:m_Ie_0 p0 p1=some r):EE c_Ie_0 K_Ie_0 (s_Ie_0 p0 p1) (Post vf_Ie (res_Ie r)):=by
 obtain ⟨x0_0,h0_0,hm⟩:=bind_some hm
 obtain ⟨x0_1,h0_1,hm⟩:=bind_some hm
 obtain ⟨x0_2,h0_2,hm⟩:=bind_some hm
 exact go_end [.row (rS_Packet x0_0),.row (rS_Track x0_1)] 1000 (J (rd_nn h0_0) (J (at_row rS_Packet (rd_get h0_0)) (J (rd_nn h0_1) (J (at_row rS_Track (rd_get h0_1)) (J (ck_p h0_2) J0))))) (congrArg res_Ie (qj hm)) (by kernel_rfl)
theorem ok_Ie (p0:S_Box) (p1 r:Int) (hm:m_Ie p0 p1=some r):Runs ext tbl 71 (as_Ie p0 p1) (res_Ie r):=
 runs_of (vf:=vf_Ie) (by kernel_rfl) rfl (st:=(enter vf_Ie (as_Ie p0 p1)).getD default) (by kernel_rfl) (go_on [] 1000 J0 (ok_Ie_0 p0 p1 r hm) (by kernel_rfl))
theorem ok_Ig_0 (p1:Int) (p0:S_zplayer) (r:Int×S_zplayer) (hm:m_Ig_0 p1 p0=some r):EE c_Ig_0 K_Ig_0 (s_Ig_0 p1 p0) (Post vf_Ig (res_Ig r)):=by
 obtain ⟨x0_0,h0_0,hm⟩:=bind_some hm
 obtain ⟨x0_1,h0_1,hm⟩:=bind_some hm
 exact go_end [.row (rS_Packet x0_0),zn x0_0.data.length,zi p0.due,zb p0.gone,zb p0.dropping,.rows (List.map rS_Show p0.shows)] 1000 (J (rd_nn h0_0) (J (at_row rS_Packet (rd_get h0_0)) (J (lm (rI .u8) x0_0.data) (J (ck_p h0_1) (Ja (rI .i64) p0.due (Ja rB p0.gone (Ja rB p0.dropping (Ja rS_Show p0.shows J0)))))))) (congrArg res_Ig (qj hm)) (by kernel_rfl)
theorem ok_Ig (p0:S_zplayer) (p1:Int) (r:Int×S_zplayer) (hm:m_Ig p0 p1=some r):Runs ext tbl 123 (as_Ig p0 p1) (res_Ig r):=
 runs_of (vf:=vf_Ig) (by kernel_rfl) rfl (st:=(enter vf_Ig (as_Ig p0 p1)).getD default) (by kernel_rfl) (go_on [zn p0.due.length,zn p0.gone.length,zn p0.dropping.length,zn p0.shows.length] 1000 (J (len_map (rI .i64) (rfl:p0.due.length=p0.due.length)) (J (len_map rB (rfl:p0.gone.length=p0.gone.length)) (J (len_map rB (rfl:p0.dropping.length=p0.dropping.length)) (J (len_map rS_Show (rfl:p0.shows.length=p0.shows.length)) J0)))) (ok_Ig_0 p1 p0 r hm) (by kernel_rfl))
def O_Ih_26 (i9_1 i9_0:Int) (p0:S_zplayer) (i9_2:Int) (l9_4:(List Bool)) (Q:VX→St→Prop) (e:((List Int))):Prop:=EE c_Ih_42 K_Ih_42 (s_Ih_42 i9_1 i9_0 p0 i9_2 l9_4 e) Q
def O_Ih_49 (Q:VX→St→Prop) (e:((List S_Track)×(List S_Packet)×Int×Int×Int×Int×Int×(List Int)×(List Bool)×(List Bool)×(List S_Show))):Prop:=EE c_Ih_69 K_Ih_69 (s_Ih_69 e.1 e.2.1 e.2.2.1 e.2.2.2.1 e.2.2.2.2.1 e.2.2.2.2.2.1 e.2.2.2.2.2.2.1 e.2.2.2.2.2.2.2.1 e.2.2.2.2.2.2.2.2.1 e.2.2.2.2.2.2.2.2.2.1 e.2.2.2.2.2.2.2.2.2.2) Q
def O_Ih_9 (p0:S_zplayer) (Q:VX→St→Prop) (e:(Int×(List Int)×(List Bool))):Prop:=EE c_Ih_44 K_Ih_44 (s_Ih_44 p0 e.1 e.2.1 e.2.2) Q
theorem ok_Ih_38 (i9_1 i26_0 i9_0:Int) (p0:S_zplayer) (i9_2:Int) (l26_1:(List Int)) (l9_4:(List Bool)) (b38_0:Bool) (y) (hm:m_Ih_38 i9_1 i26_0 i9_0 p0 i9_2 l26_1 l9_4 b38_0=some y) (Q)
  (hin:∀ s,y=.inl s→EE c_Ih_26 K_Ih_26 (s_Ih_26 i9_1 i9_0 p0 i9_2 l9_4 s.1 s.2) Q) (hout:∀ e,y=.inr e→O_Ih_26 i9_1 i9_0 p0 i9_2 l9_4 Q e):EE c_Ih_38 K_Ih_38 (s_Ih_38 i9_1 i26_0 i9_0 p0 i9_2 l26_1 l9_4 b38_0) Q:=by
 obtain ⟨h38_0,hm⟩|⟨h38_0,hm⟩:=split_ite hm
 ·obtain ⟨x38_1,h38_1,hm⟩:=bind_some hm
  exact gh (hin _ (qj hm).symm) [zT,.rows (mi (l26_1.set (0+Int.toNat i9_1) i26_0)),zn ((l26_1.set (0+Int.toNat i9_1) i26_0).length),zn p0.due.length,zn p0.gone.length,zn l9_4.length,zn p0.shows.length] (J h38_0 (J (rd_in rfl h38_1) (J (put_ob (rI .i64) i26_0 0 (.lit (vI i26_0)) (rd_get0 h38_1) (by kernel_rfl) (by kernel_rfl)) (J (lens l26_1.length ((l26_1.set (0+Int.toNat i9_1) i26_0).length) (set_len rfl)) (J (ln p0.due.length) (J (ln p0.gone.length) (J (ln l9_4.length) (J (ln p0.shows.length) J0)))))))) (by kernel_rfl)
 ·exact gh (hin _ (qj hm).symm) [zF,zn l26_1.length,zn p0.due.length,zn p0.gone.length,zn l9_4.length,zn p0.shows.length] (J h38_0 (J (ln l26_1.length) (J (ln p0.due.length) (J (ln p0.gone.length) (J (ln l9_4.length) (J (ln p0.shows.length) J0)))))) (by kernel_rfl)
theorem ok_Ih_42 (i9_1 i9_0:Int) (p0:S_zplayer) (i9_2:Int) (l9_4:(List Bool)) (l42_0:(List Int)) (y) (hm:m_Ih_42 i9_1 i9_0 p0 i9_2 l9_4 l42_0=some y) (Q)
  (hin:∀ s,y=.inl s→EE c_Ih_9 K_Ih_9 (s_Ih_9 p0 s.1 s.2.1 s.2.2.1 s.2.2.2.1 s.2.2.2.2) Q) (hout:∀ e,y=.inr e→O_Ih_9 p0 Q e):EE c_Ih_42 K_Ih_42 (s_Ih_42 i9_1 i9_0 p0 i9_2 l9_4 l42_0) Q:=by
 obtain ⟨x42_0,h42_0,hm⟩:=bind_some hm
 exact gh (hin _ (qj hm).symm) [.rows (mb (l9_4.set (0+Int.toNat i9_1) false)),zn l42_0.length,zn p0.due.length,zn p0.gone.length,zn ((l9_4.set (0+Int.toNat i9_1) false).length),zn p0.shows.length] (J (rd_in rfl h42_0) (J (put_ob rB false 0 (.lit (.bool false)) (rd_get0 h42_0) (by kernel_rfl) (by kernel_rfl)) (J (ln l42_0.length) (J (ln p0.due.length) (J (ln p0.gone.length) (J (lens l9_4.length ((l9_4.set (0+Int.toNat i9_1) false).length) (set_len rfl)) (J (ln p0.shows.length) J0))))))) (by kernel_rfl)
theorem ok_Ih_26 (i9_1 i9_0:Int) (p0:S_zplayer) (i9_2:Int) (l9_4:(List Bool)) (i26_0:Int) (l26_1:(List Int)) (y) (hm:m_Ih_26 i9_1 i9_0 p0 i9_2 l9_4 i26_0 l26_1=some y) (Q)
  (hin:∀ s,y=.inl s→EE c_Ih_26 K_Ih_26 (s_Ih_26 i9_1 i9_0 p0 i9_2 l9_4 s.1 s.2) Q) (hout:∀ e,y=.inr e→O_Ih_26 i9_1 i9_0 p0 i9_2 l9_4 Q e):EE c_Ih_26 K_Ih_26 (s_Ih_26 i9_1 i9_0 p0 i9_2 l9_4 i26_0 l26_1) Q:=by
 obtain ⟨h26_0,hm⟩|⟨h26_0,hm⟩:=split_ite hm
 ·obtain ⟨x26_1,h26_1,hm⟩:=bind_some hm
  obtain ⟨h26_2,hm⟩|⟨h26_2,hm⟩:=split_ite hm
  ·obtain ⟨h26_3,hm⟩|⟨h26_3,hm⟩:=split_ite hm
   ·obtain ⟨x26_4,h26_4,hm⟩:=bind_some hm
    obtain ⟨h26_5,hm⟩|⟨h26_5,hm⟩:=split_ite hm
    ·exact gh (ok_Ih_38 _ _ _ _ _ _ _ _ y hm Q hin hout) [zT,.row (rS_Packet x26_1),zT,zT,zT,zT,zT,zT,zT,zT,zT,zT,.row ((rI .i64) x26_4),zT,zT,zT,zT,zT,zT,zT,zT,zT,zT,zT,zT,zT,zT,zT,zT,zT,zT,zn l26_1.length,zn p0.due.length,zn p0.gone.length,zn l9_4.length,zn p0.shows.length] (J h26_0 (J (rd_nn h26_1) (J (at_row rS_Packet (rd_get h26_1)) (J h26_2 (J h26_2 (J h26_2 (J4 h26_3 (J h26_3 (J h26_3 (J (rd_in rfl h26_4) (J h26_3 (J (at_row (rI .i64) (rd_get0 h26_4)) (J4 h26_3 (J h26_3 (J h26_2 (J h26_3 (J h26_2 (J4 h26_5 (J h26_5 (J h26_5 (J h26_5 (J h26_2 (J h26_5 (J h26_2 (J (ln l26_1.length) (J (ln p0.due.length) (J (ln p0.gone.length) (J (ln l9_4.length) (J (ln p0.shows.length) J0))))))))))))))))))))))))))))) (by kernel_rfl)
    ·obtain ⟨x26_6,h26_6,hm⟩:=bind_some hm
     obtain ⟨h26_7,hm⟩|⟨h26_7,hm⟩:=split_ite hm
     ·exact gh (ok_Ih_38 _ _ _ _ _ _ _ _ y hm Q hin hout) [zT,.row (rS_Packet x26_1),zT,zT,zT,zT,zT,zT,zT,zT,zT,zT,.row ((rI .i64) x26_4),zT,zT,zT,zT,zT,zT,zT,zT,zF,zF,zF,zF,.row ((rI .i64) x26_6),zF,zF,zT,zT,zT,zT,zT,zT,zT,.row ((rI .i64) x26_4),zT,zT,zT,zT,zT,zF,zT,zT,zF,zT,zn l26_1.length,zn p0.due.length,zn p0.gone.length,zn l9_4.length,zn p0.shows.length] (J h26_0 (J (rd_nn h26_1) (J (at_row rS_Packet (rd_get h26_1)) (J h26_2 (J h26_2 (J h26_2 (J4 h26_3 (J h26_3 (J h26_3 (J (rd_in rfl h26_4) (J h26_3 (J (at_row (rI .i64) (rd_get0 h26_4)) (J4 h26_3 (J h26_3 (J h26_2 (J h26_3 (J h26_2 (J h26_5 (J h26_5 (J h26_5 (J (rd_in rfl h26_6) (J h26_5 (J (at_row (rI .i64) (rd_get0 h26_6)) (J h26_5 (J h26_5 (J4 h26_7 (J h26_7 (J h26_7 (J (rd_in rfl h26_4) (J h26_7 (J (at_row (rI .i64) (rd_get0 h26_4)) (J4 h26_7 (J h26_7 (J h26_5 (J h26_7 (J h26_2 (J h26_5 (J h26_2 (J (ln l26_1.length) (J (ln p0.due.length) (J (ln p0.gone.length) (J (ln l9_4.length) (J (ln p0.shows.length) J0))))))))))))))))))))))))))))))))))))))))))) (by kernel_rfl)
     ·exact gh (ok_Ih_38 _ _ _ _ _ _ _ _ y hm Q hin hout) [zT,.row (rS_Packet x26_1),zT,zT,zT,zT,zT,zT,zT,zT,zT,zT,.row ((rI .i64) x26_4),zT,zT,zT,zT,zT,zT,zT,zT,zF,zF,zF,zF,.row ((rI .i64) x26_6),zF,zF,zF,zF,zF,zF,zF,zF,zF,zF,zF,zF,zF,zF,zF,zF,zT,zF,zT,zn l26_1.length,zn p0.due.length,zn p0.gone.length,zn l9_4.length,zn p0.shows.length] (J h26_0 (J (rd_nn h26_1) (J (at_row rS_Packet (rd_get h26_1)) (J h26_2 (J h26_2 (J h26_2 (J4 h26_3 (J h26_3 (J h26_3 (J (rd_in rfl h26_4) (J h26_3 (J (at_row (rI .i64) (rd_get0 h26_4)) (J4 h26_3 (J h26_3 (J h26_2 (J h26_3 (J h26_2 (J h26_5 (J h26_5 (J h26_5 (J (rd_in rfl h26_6) (J h26_5 (J (at_row (rI .i64) (rd_get0 h26_6)) (J h26_5 (J h26_5 (J4 h26_7 (J4 h26_7 (J4 h26_7 (J h26_5 (J h26_7 (J h26_2 (J h26_5 (J h26_2 (J (ln l26_1.length) (J (ln p0.due.length) (J (ln p0.gone.length) (J (ln l9_4.length) (J (ln p0.shows.length) J0)))))))))))))))))))))))))))))))))))))) (by kernel_rfl)
   ·obtain ⟨x26_4,h26_4,hm⟩:=bind_some hm
    obtain ⟨h26_5,hm⟩|⟨h26_5,hm⟩:=split_ite hm
    ·obtain ⟨x26_6,h26_6,hm⟩:=bind_some hm
     exact gh (ok_Ih_38 _ _ _ _ _ _ _ _ y hm Q hin hout) [zT,.row (rS_Packet x26_1),zT,zT,zT,zF,zF,zF,zF,zF,zF,zF,zF,zF,zF,zF,zF,zT,zF,zT,zF,zF,zF,zF,.row ((rI .i64) x26_4),zF,zF,zT,zT,zT,zT,zT,zT,zT,.row ((rI .i64) x26_6),zT,zT,zT,zT,zT,zF,zT,zT,zF,zT,zn l26_1.length,zn p0.due.length,zn p0.gone.length,zn l9_4.length,zn p0.shows.length] (J h26_0 (J (rd_nn h26_1) (J (at_row rS_Packet (rd_get h26_1)) (J h26_2 (J h26_2 (J h26_2 (J4 h26_3 (J4 h26_3 (J4 h26_3 (J h26_2 (J h26_3 (J h26_2 (J eF (J eF (J eF (J (rd_in rfl h26_4) (J eF (J (at_row (rI .i64) (rd_get0 h26_4)) (J eF (J eF (J4 h26_5 (J h26_5 (J h26_5 (J (rd_in rfl h26_6) (J h26_5 (J (at_row (rI .i64) (rd_get0 h26_6)) (J4 h26_5 (J h26_5 (J eF (J h26_5 (J h26_2 (J eF (J h26_2 (J (ln l26_1.length) (J (ln p0.due.length) (J (ln p0.gone.length) (J (ln l9_4.length) (J (ln p0.shows.length) J0)))))))))))))))))))))))))))))))))))))) (by kernel_rfl)
    ·exact gh (ok_Ih_38 _ _ _ _ _ _ _ _ y hm Q hin hout) [zT,.row (rS_Packet x26_1),zT,zT,zT,zF,zF,zF,zF,zF,zF,zF,zF,zF,zF,zF,zF,zT,zF,zT,zF,zF,zF,zF,.row ((rI .i64) x26_4),zF,zF,zF,zF,zF,zF,zF,zF,zF,zF,zF,zF,zF,zF,zF,zF,zT,zF,zT,zn l26_1.length,zn p0.due.length,zn p0.gone.length,zn l9_4.length,zn p0.shows.length] (J h26_0 (J (rd_nn h26_1) (J (at_row rS_Packet (rd_get h26_1)) (J h26_2 (J h26_2 (J h26_2 (J4 h26_3 (J4 h26_3 (J4 h26_3 (J h26_2 (J h26_3 (J h26_2 (J eF (J eF (J eF (J (rd_in rfl h26_4) (J eF (J (at_row (rI .i64) (rd_get0 h26_4)) (J eF (J eF (J4 h26_5 (J4 h26_5 (J4 h26_5 (J eF (J h26_5 (J h26_2 (J eF (J h26_2 (J (ln l26_1.length) (J (ln p0.due.length) (J (ln p0.gone.length) (J (ln l9_4.length) (J (ln p0.shows.length) J0))))))))))))))))))))))))))))))))) (by kernel_rfl)
  ·exact gh (ok_Ih_38 _ _ _ _ _ _ _ _ y hm Q hin hout) [zT,.row (rS_Packet x26_1),zF,zF,zF,zF,zF,zF,zF,zn l26_1.length,zn p0.due.length,zn p0.gone.length,zn l9_4.length,zn p0.shows.length] (J h26_0 (J (rd_nn h26_1) (J (at_row rS_Packet (rd_get h26_1)) (J4 h26_2 (J h26_2 (J h26_2 (J h26_2 (J (ln l26_1.length) (J (ln p0.due.length) (J (ln p0.gone.length) (J (ln l9_4.length) (J (ln p0.shows.length) J0)))))))))))) (by kernel_rfl)
 ·refine gn c_Ih_42 K_Ih_42 (s_Ih_42 i9_1 i9_0 p0 i9_2 l9_4 l26_1) [zF,zn l26_1.length,zn p0.due.length,zn p0.gone.length,zn l9_4.length,zn p0.shows.length] (J h26_0 (J (ln l26_1.length) (J (ln p0.due.length) (J (ln p0.gone.length) (J (ln l9_4.length) (J (ln p0.shows.length) J0)))))) ?_ (by kernel_rfl)
  exact hout l26_1 (qj hm).symm
theorem ok_Ih_63 (i49_0:Int) (p0:S_zplayer) (l49_1:(List S_Track)) (l49_2:(List S_Packet)) (i49_3 i49_4 i49_5 i49_6 i49_7:Int) (l44_1 l49_8:(List Int)) (l49_10:(List Bool)) (l49_11:(List S_Show)) (b63_0:Bool) (l63_1:(List Bool)) (y) (hm:m_Ih_63 i49_0 p0 l49_1 l49_2 i49_3 i49_4 i49_5 i49_6 i49_7 l44_1 l49_8 l49_10 l49_11 b63_0 l63_1=some y) (Q)
  (hin:∀ s,y=.inl s→EE c_Ih_49 K_Ih_49 (s_Ih_49 p0 l44_1 s.1 s.2.1 s.2.2.1 s.2.2.2.1 s.2.2.2.2.1 s.2.2.2.2.2.1 s.2.2.2.2.2.2.1 s.2.2.2.2.2.2.2.1 s.2.2.2.2.2.2.2.2.1 s.2.2.2.2.2.2.2.2.2.1 s.2.2.2.2.2.2.2.2.2.2.1 s.2.2.2.2.2.2.2.2.2.2.2) Q) (hout:∀ e,y=.inr e→O_Ih_49 Q e):EE c_Ih_63 K_Ih_63 (s_Ih_63 i49_0 p0 l49_1 l49_2 i49_3 i49_4 i49_5 i49_6 i49_7 l44_1 l49_8 l49_10 l49_11 b63_0 l63_1) Q:=by
 obtain ⟨h63_0,hm⟩|⟨h63_0,hm⟩:=split_ite hm
 ·obtain ⟨x63_1,h63_1,hm⟩:=bind_some hm
  obtain ⟨x63_2,h63_2,hm⟩:=bind_some hm
  exact gh (hin _ (qj hm).symm) [zT,.rows (mb (l63_1.set (0+Int.toNat i49_0) true)),zi l49_8,.rows (mb (l63_1.set (0+Int.toNat i49_0) true)),zb l49_10,.rows (List.map rS_Show l49_11),.res (res_Ig x63_2),zn x63_2.2.due.length,zn x63_2.2.gone.length,zn x63_2.2.dropping.length,zn x63_2.2.shows.length,zn l44_1.length,zn x63_2.2.due.length,zn x63_2.2.gone.length,zn x63_2.2.dropping.length,zn x63_2.2.shows.length] (J h63_0 (J (rd_in rfl h63_1) (J (put_ob rB true 0 (.lit (.bool true)) (rd_get0 h63_1) (by kernel_rfl) (by kernel_rfl)) (Ja (rI .i64) l49_8 (J (all_le0 rB (l63_1.set (0+Int.toNat i49_0) true) (set_len rfl)) (J (all_t rB (l63_1.set (0+Int.toNat i49_0) true) (set_len rfl)) (Ja rB l49_10 (Ja rS_Show l49_11 (J (ok_Ig (S_zplayer.mk (S_Box.mk l49_1 l49_2) i49_3 l49_8 (l63_1.set (0+Int.toNat i49_0) true) i49_4 l49_10 i49_5 i49_6 i49_7 l49_11) i49_0 x63_2 h63_2) (J (lm (rI .i64) x63_2.2.due) (J (lm rB x63_2.2.gone) (J (lm rB x63_2.2.dropping) (J (lm rS_Show x63_2.2.shows) (J (ln l44_1.length) (J (ln x63_2.2.due.length) (J (ln x63_2.2.gone.length) (J (ln x63_2.2.dropping.length) (J (ln x63_2.2.shows.length) J0)))))))))))))))))) (by kernel_rfl)
 ·exact gh (hin _ (qj hm).symm) [zF,zn l44_1.length,zn l49_8.length,zn l63_1.length,zn l49_10.length,zn l49_11.length] (J h63_0 (J (ln l44_1.length) (J (ln l49_8.length) (J (ln l63_1.length) (J (ln l49_10.length) (J (ln l49_11.length) J0)))))) (by kernel_rfl)
theorem ok_Ih_69 (l69_0:(List S_Track)) (l69_1:(List S_Packet)) (i69_2 i69_3 i69_4 i69_5 i69_6:Int) (l69_7:(List Int)) (l69_8 l69_9:(List Bool)) (l69_10:(List S_Show)) (r:S_zplayer) (hm:m_Ih_69 l69_0 l69_1 i69_2 i69_3 i69_4 i69_5 i69_6 l69_7 l69_8 l69_9 l69_10=some r):EE c_Ih_69 K_Ih_69 (s_Ih_69 l69_0 l69_1 i69_2 i69_3 i69_4 i69_5 i69_6 l69_7 l69_8 l69_9 l69_10) (Post vf_Ih (res_Ih r)):=by
 exact go_end [zi l69_7,zb l69_8,zb l69_9,.rows (List.map rS_Show l69_10)] 1000 (Ja (rI .i64) l69_7 (Ja rB l69_8 (Ja rB l69_9 (Ja rS_Show l69_10 J0)))) (congrArg res_Ih (qj hm)) (by kernel_rfl)
theorem ok_Ih_49 (p0:S_zplayer) (l44_1:(List Int)) (i49_0:Int) (l49_1:(List S_Track)) (l49_2:(List S_Packet)) (i49_3 i49_4 i49_5 i49_6 i49_7:Int) (l49_8:(List Int)) (l49_9 l49_10:(List Bool)) (l49_11:(List S_Show)) (y) (hm:m_Ih_49 p0 l44_1 i49_0 l49_1 l49_2 i49_3 i49_4 i49_5 i49_6 i49_7 l49_8 l49_9 l49_10 l49_11=some y) (Q)
  (hin:∀ s,y=.inl s→EE c_Ih_49 K_Ih_49 (s_Ih_49 p0 l44_1 s.1 s.2.1 s.2.2.1 s.2.2.2.1 s.2.2.2.2.1 s.2.2.2.2.2.1 s.2.2.2.2.2.2.1 s.2.2.2.2.2.2.2.1 s.2.2.2.2.2.2.2.2.1 s.2.2.2.2.2.2.2.2.2.1 s.2.2.2.2.2.2.2.2.2.2.1 s.2.2.2.2.2.2.2.2.2.2.2) Q) (hout:∀ e,y=.inr e→O_Ih_49 Q e):EE c_Ih_49 K_Ih_49 (s_Ih_49 p0 l44_1 i49_0 l49_1 l49_2 i49_3 i49_4 i49_5 i49_6 i49_7 l49_8 l49_9 l49_10 l49_11) Q:=by
 obtain ⟨h49_0,hm⟩|⟨h49_0,hm⟩:=split_ite hm
 ·obtain ⟨x49_1,h49_1,hm⟩:=bind_some hm
  obtain ⟨x49_2,h49_2,hm⟩:=bind_some hm
  obtain ⟨x49_3,h49_3,hm⟩:=bind_some hm
  obtain ⟨h49_4,hm⟩|⟨h49_4,hm⟩:=split_ite hm
  ·exact gh (ok_Ih_63 _ _ _ _ _ _ _ _ _ _ _ _ _ _ _ y hm Q hin hout) [zT,.row (rS_Packet x49_1),.row ((rI .i64) x49_2),.rows (mb (l49_9.set (0+Int.toNat i49_0) (decide (i49_0 < x49_2)))),.row (rB (decide (i49_0 < x49_2))),zF,zF,zF,zF,zF,zF,zF,zF,zF,zF,zF,zF,zF,zn l44_1.length,zn l49_8.length,zn ((l49_9.set (0+Int.toNat i49_0) (decide (i49_0 < x49_2))).length),zn l49_10.length,zn l49_11.length] (J h49_0 (J (rd_nn h49_1) (J (at_row rS_Packet (rd_get h49_1)) (J (rd_in rfl h49_2) (J (at_row (rI .i64) (rd_get0 h49_2)) (J (rd_in rfl h49_3) (J (put_ob rB (decide (i49_0 < x49_2)) 0 (.lit (.bool (decide (i49_0 < x49_2)))) (rd_get0 h49_3) (by kernel_rfl) (by kernel_rfl)) (J (rd_in rfl h49_3) (J (at_row rB (set_at (decide (i49_0 < x49_2)) (rd_get0 h49_3))) (J4 (not_f h49_4) (J4 (not_f h49_4) (J4 (not_f h49_4) (J (not_f h49_4) (J (ln l44_1.length) (J (ln l49_8.length) (J (lens l49_9.length ((l49_9.set (0+Int.toNat i49_0) (decide (i49_0 < x49_2))).length) (set_len rfl)) (J (ln l49_10.length) (J (ln l49_11.length) J0)))))))))))))))))) (by kernel_rfl)
  ·obtain ⟨x49_5,h49_5,hm⟩:=bind_some hm
   exact gh (ok_Ih_63 _ _ _ _ _ _ _ _ _ _ _ _ _ _ _ y hm Q hin hout) [zT,.row (rS_Packet x49_1),.row ((rI .i64) x49_2),.rows (mb (l49_9.set (0+Int.toNat i49_0) (decide (i49_0 < x49_2)))),.row (rB (decide (i49_0 < x49_2))),zT,zT,zT,zT,zT,zT,zT,.row ((rI .i64) x49_5),zT,zT,zT,zT,zT,zT,zn l44_1.length,zn l49_8.length,zn ((l49_9.set (0+Int.toNat i49_0) (decide (i49_0 < x49_2))).length),zn l49_10.length,zn l49_11.length] (J h49_0 (J (rd_nn h49_1) (J (at_row rS_Packet (rd_get h49_1)) (J (rd_in rfl h49_2) (J (at_row (rI .i64) (rd_get0 h49_2)) (J (rd_in rfl h49_3) (J (put_ob rB (decide (i49_0 < x49_2)) 0 (.lit (.bool (decide (i49_0 < x49_2)))) (rd_get0 h49_3) (by kernel_rfl) (by kernel_rfl)) (J (rd_in rfl h49_3) (J (at_row rB (set_at (decide (i49_0 < x49_2)) (rd_get0 h49_3))) (J4 (not_t h49_4) (J (not_t h49_4) (J (not_t h49_4) (J (rd_in rfl h49_5) (J (not_t h49_4) (J (at_row (rI .i64) (rd_get0 h49_5)) (J4 (not_t h49_4) (J (not_t h49_4) (J (not_t h49_4) (J (ln l44_1.length) (J (ln l49_8.length) (J (lens l49_9.length ((l49_9.set (0+Int.toNat i49_0) (decide (i49_0 < x49_2))).length) (set_len rfl)) (J (ln l49_10.length) (J (ln l49_11.length) J0))))))))))))))))))))))) (by kernel_rfl)
 ·refine gn c_Ih_69 K_Ih_69 (s_Ih_69 l49_1 l49_2 i49_3 i49_4 i49_5 i49_6 i49_7 l49_8 l49_9 l49_10 l49_11) [zF,zn l49_8.length,zn l49_9.length,zn l49_10.length,zn l49_11.length] (J h49_0 (J (ln l49_8.length) (J (ln l49_9.length) (J (ln l49_10.length) (J (ln l49_11.length) J0))))) ?_ (by kernel_rfl)
  exact hout (l49_1,l49_2,i49_3,i49_4,i49_5,i49_6,i49_7,l49_8,l49_9,l49_10,l49_11) (qj hm).symm
theorem ok_Ih_44 (p0:S_zplayer) (i44_0:Int) (l44_1:(List Int)) (l44_2:(List Bool)) (r:S_zplayer) (hm:m_Ih_44 p0 i44_0 l44_1 l44_2=some r):EE c_Ih_44 K_Ih_44 (s_Ih_44 p0 i44_0 l44_1 l44_2) (Post vf_Ih (res_Ih r)):=by
 refine gn c_Ih_49 K_Ih_49 (s_Ih_49 p0 l44_1 0 p0.b.tracks p0.b.packets p0.speed p0.next p0.wall i44_0 p0.busy p0.due p0.gone l44_2 p0.shows) [zn p0.b.packets.length,zn l44_1.length,zn p0.due.length,zn p0.gone.length,zn l44_2.length,zn p0.shows.length] (J (lm rS_Packet p0.b.packets) (J (ln l44_1.length) (J (ln p0.due.length) (J (ln p0.gone.length) (J (ln l44_2.length) (J (ln p0.shows.length) J0)))))) ?_ (by kernel_rfl)
 obtain ⟨e,he,hm⟩:=bind_some hm
 refine loop_rule (u:=.c c_Ih_49) (K:=K_Ih_49) (Q:=(Post vf_Ih (res_Ih r))) (b:=lp_Ih_49 p0 l44_1) (We:=O_Ih_49 (Post vf_Ih (res_Ih r))) (stJ:=fun s=>s_Ih_49 p0 l44_1 s.1 s.2.1 s.2.2.1 s.2.2.2.1 s.2.2.2.2.1 s.2.2.2.2.2.1 s.2.2.2.2.2.2.1 s.2.2.2.2.2.2.2.1 s.2.2.2.2.2.2.2.2.1 s.2.2.2.2.2.2.2.2.2.1 s.2.2.2.2.2.2.2.2.2.2.1 s.2.2.2.2.2.2.2.2.2.2.2) (s:=(0,p0.b.tracks,p0.b.packets,p0.speed,p0.next,p0.wall,i44_0,p0.busy,p0.due,p0.gone,l44_2,p0.shows)) (fun s y hb hin hout=>ok_Ih_49 p0 l44_1 s.1 s.2.1 s.2.2.1 s.2.2.2.1 s.2.2.2.2.1 s.2.2.2.2.2.1 s.2.2.2.2.2.2.1 s.2.2.2.2.2.2.2.1 s.2.2.2.2.2.2.2.2.1 s.2.2.2.2.2.2.2.2.2.1 s.2.2.2.2.2.2.2.2.2.2.1 s.2.2.2.2.2.2.2.2.2.2.2 y hb (Post vf_Ih (res_Ih r)) hin hout) he ?_
 show EE c_Ih_69 K_Ih_69 (s_Ih_69 e.1 e.2.1 e.2.2.1 e.2.2.2.1 e.2.2.2.2.1 e.2.2.2.2.2.1 e.2.2.2.2.2.2.1 e.2.2.2.2.2.2.2.1 e.2.2.2.2.2.2.2.2.1 e.2.2.2.2.2.2.2.2.2.1 e.2.2.2.2.2.2.2.2.2.2) _
 exact ok_Ih_69 e.1 e.2.1 e.2.2.1 e.2.2.2.1 e.2.2.2.2.1 e.2.2.2.2.2.1 e.2.2.2.2.2.2.1 e.2.2.2.2.2.2.2.1 e.2.2.2.2.2.2.2.2.1 e.2.2.2.2.2.2.2.2.2.1 e.2.2.2.2.2.2.2.2.2.2 r hm
theorem ok_Ih_9 (p0:S_zplayer) (i9_0 i9_1 i9_2:Int) (l9_3:(List Int)) (l9_4:(List Bool)) (y) (hm:m_Ih_9 p0 i9_0 i9_1 i9_2 l9_3 l9_4=some y) (Q)
  (hin:∀ s,y=.inl s→EE c_Ih_9 K_Ih_9 (s_Ih_9 p0 s.1 s.2.1 s.2.2.1 s.2.2.2.1 s.2.2.2.2) Q) (hout:∀ e,y=.inr e→O_Ih_9 p0 Q e):EE c_Ih_9 K_Ih_9 (s_Ih_9 p0 i9_0 i9_1 i9_2 l9_3 l9_4) Q:=by
 obtain ⟨h9_0,hm⟩|⟨h9_0,hm⟩:=split_ite hm
 ·obtain ⟨x9_1,h9_1,hm⟩:=bind_some hm
  refine gn c_Ih_26 K_Ih_26 (s_Ih_26 i9_1 i9_0 p0 i9_2 l9_4 0 (l9_3.set (0+Int.toNat i9_1) (-1))) [zT,.rows (mi (l9_3.set (0+Int.toNat i9_1) (-1))),zn p0.b.packets.length,zn ((l9_3.set (0+Int.toNat i9_1) (-1)).length),zn p0.due.length,zn p0.gone.length,zn l9_4.length,zn p0.shows.length] (J h9_0 (J (rd_in rfl h9_1) (J (put_ob (rI .i64) (-1) 0 (.lit (vI (-1))) (rd_get0 h9_1) (by kernel_rfl) (by kernel_rfl)) (J (lm rS_Packet p0.b.packets) (J (lens l9_3.length ((l9_3.set (0+Int.toNat i9_1) (-1)).length) (set_len rfl)) (J (ln p0.due.length) (J (ln p0.gone.length) (J (ln l9_4.length) (J (ln p0.shows.length) J0))))))))) ?_ (by kernel_rfl)
  obtain ⟨e,he,hm⟩:=bind_some hm
  refine loop_rule (u:=.c c_Ih_26) (K:=K_Ih_26) (Q:=Q) (b:=lp_Ih_26 i9_1 i9_0 p0 i9_2 l9_4) (We:=O_Ih_26 i9_1 i9_0 p0 i9_2 l9_4 Q) (stJ:=fun s=>s_Ih_26 i9_1 i9_0 p0 i9_2 l9_4 s.1 s.2) (s:=(0,(l9_3.set (0+Int.toNat i9_1) (-1)))) (fun s y hb hin hout=>ok_Ih_26 i9_1 i9_0 p0 i9_2 l9_4 s.1 s.2 y hb Q hin hout) he ?_
  show EE c_Ih_42 K_Ih_42 (s_Ih_42 i9_1 i9_0 p0 i9_2 l9_4 e) _
  exact ok_Ih_42 i9_1 i9_0 p0 i9_2 l9_4 e y hm Q hin hout
 ·refine gn c_Ih_44 K_Ih_44 (s_Ih_44 p0 i9_2 l9_3 l9_4) [zF,zn l9_3.length,zn p0.due.length,zn p0.gone.length,zn l9_4.length,zn p0.shows.length] (J h9_0 (J (ln l9_3.length) (J (ln p0.due.length) (J (ln p0.gone.length) (J (ln l9_4.length) (J (ln p0.shows.length) J0)))))) ?_ (by kernel_rfl)
  exact hout (i9_2,l9_3,l9_4) (qj hm).symm
theorem ok_Ih_0 (p1:Int) (p0 r:S_zplayer) (hm:m_Ih_0 p1 p0=some r):EE c_Ih_0 K_Ih_0 (s_Ih_0 p1 p0) (Post vf_Ih (res_Ih r)):=by
 obtain ⟨x0_0,h0_0,hm⟩:=bind_some hm
 refine gn c_Ih_9 K_Ih_9 (s_Ih_9 p0 ((Int.toNat (p0.b.tracks.length:Int)):Int) 0 (w64 (1000*p1)) (List.replicate (Int.toNat (p0.b.tracks.length:Int)) (0:Int)) p0.dropping) [zn p0.b.tracks.length,.rows (mi (List.replicate (Int.toNat (p0.b.tracks.length:Int)) (0:Int))),zn (Int.toNat (p0.b.tracks.length:Int)),zn ((List.replicate (Int.toNat (p0.b.tracks.length:Int)) (0:Int)).length),zn p0.due.length,zn p0.gone.length,zn p0.dropping.length,zn p0.shows.length] (J (lm rS_Track p0.b.tracks) (J (ck_p h0_0) (J (rep_ob (rI .i64) (Int.toNat (p0.b.tracks.length:Int)) (0:Int) [.lit (vI 0)] (by kernel_rfl)) (J (len_map (rI .i64) (show (Int.toNat (p0.b.tracks.length:Int))=(List.replicate (Int.toNat (p0.b.tracks.length:Int)) (0:Int)).length from (rep_len (Int.toNat (p0.b.tracks.length:Int)) (0:Int)))) (J (lens (Int.toNat (p0.b.tracks.length:Int)) ((List.replicate (Int.toNat (p0.b.tracks.length:Int)) (0:Int)).length) (rep_len (Int.toNat (p0.b.tracks.length:Int)) (0:Int))) (J (ln p0.due.length) (J (ln p0.gone.length) (J (ln p0.dropping.length) (J (ln p0.shows.length) J0))))))))) ?_ (by kernel_rfl)
 obtain ⟨e,he,hm⟩:=bind_some hm
 refine loop_rule (u:=.c c_Ih_9) (K:=K_Ih_9) (Q:=(Post vf_Ih (res_Ih r))) (b:=lp_Ih_9 p0) (We:=O_Ih_9 p0 (Post vf_Ih (res_Ih r))) (stJ:=fun s=>s_Ih_9 p0 s.1 s.2.1 s.2.2.1 s.2.2.2.1 s.2.2.2.2) (s:=(((Int.toNat (p0.b.tracks.length:Int)):Int),0,(w64 (1000*p1)),(List.replicate (Int.toNat (p0.b.tracks.length:Int)) (0:Int)),p0.dropping)) (fun s y hb hin hout=>ok_Ih_9 p0 s.1 s.2.1 s.2.2.1 s.2.2.2.1 s.2.2.2.2 y hb (Post vf_Ih (res_Ih r)) hin hout) he ?_
 show EE c_Ih_44 K_Ih_44 (s_Ih_44 p0 e.1 e.2.1 e.2.2) _
 exact ok_Ih_44 p0 e.1 e.2.1 e.2.2 r hm
theorem ok_Ih (p0:S_zplayer) (p1:Int) (r:S_zplayer) (hm:m_Ih p0 p1=some r):Runs ext tbl 72 (as_Ih p0 p1) (res_Ih r):=
 runs_of (vf:=vf_Ih) (by kernel_rfl) rfl (st:=(enter vf_Ih (as_Ih p0 p1)).getD default) (by kernel_rfl) (go_on [zn p0.due.length,zn p0.gone.length,zn p0.dropping.length,zn p0.shows.length] 1000 (J (len_map (rI .i64) (rfl:p0.due.length=p0.due.length)) (J (len_map rB (rfl:p0.gone.length=p0.gone.length)) (J (len_map rB (rfl:p0.dropping.length=p0.dropping.length)) (J (len_map rS_Show (rfl:p0.shows.length=p0.shows.length)) J0)))) (ok_Ih_0 p1 p0 r hm) (by kernel_rfl))
def O_Ii_2 (Q:VX→St→Prop) (e:S_zplayer):Prop:=Q=Post vf_Ii (res_Ii e)
theorem ok_Ii_49 (l49_0:(List S_Track)) (l49_1:(List S_Packet)) (i49_2 i49_3 i49_4 i49_5 i49_6:Int) (l49_7:(List Int)) (l49_8 l49_9:(List Bool)) (l49_10:(List S_Show)) (y) (hm:m_Ii_49 l49_0 l49_1 i49_2 i49_3 i49_4 i49_5 i49_6 l49_7 l49_8 l49_9 l49_10=some y) (Q)
  (hin:∀ s,y=.inl s→EE c_Ii_2 K_Ii_2 (s_Ii_2 s.1 s.2.1 s.2.2.1 s.2.2.2.1 s.2.2.2.2.1 s.2.2.2.2.2.1 s.2.2.2.2.2.2.1 s.2.2.2.2.2.2.2.1 s.2.2.2.2.2.2.2.2.1 s.2.2.2.2.2.2.2.2.2.1 s.2.2.2.2.2.2.2.2.2.2) Q) (hout:∀ e,y=.inr e→O_Ii_2 Q e):EE c_Ii_49 K_Ii_49 (s_Ii_49 l49_0 l49_1 i49_2 i49_3 i49_4 i49_5 i49_6 l49_7 l49_8 l49_9 l49_10) Q:=by
 exact gh (hin _ (qj hm).symm) [zn l49_7.length,zn l49_8.length,zn l49_9.length,zn l49_10.length] (J (ln l49_7.length) (J (ln l49_8.length) (J (ln l49_9.length) (J (ln l49_10.length) J0)))) (by kernel_rfl)
theorem ok_Ii_47 (i2_3:Int) (x2_5:S_Packet) (l47_0:(List S_Track)) (l47_1:(List S_Packet)) (i47_2 i47_3 i47_4 i47_5 i47_6:Int) (l47_7:(List Int)) (l47_8 l47_9:(List Bool)) (l47_10:(List S_Show)) (y) (hm:m_Ii_47 i2_3 x2_5 l47_0 l47_1 i47_2 i47_3 i47_4 i47_5 i47_6 l47_7 l47_8 l47_9 l47_10=some y) (Q)
  (hin:∀ s,y=.inl s→EE c_Ii_2 K_Ii_2 (s_Ii_2 s.1 s.2.1 s.2.2.1 s.2.2.2.1 s.2.2.2.2.1 s.2.2.2.2.2.1 s.2.2.2.2.2.2.1 s.2.2.2.2.2.2.2.1 s.2.2.2.2.2.2.2.2.1 s.2.2.2.2.2.2.2.2.2.1 s.2.2.2.2.2.2.2.2.2.2) Q) (hout:∀ e,y=.inr e→O_Ii_2 Q e):EE c_Ii_47 K_Ii_47 (s_Ii_47 i2_3 x2_5 l47_0 l47_1 i47_2 i47_3 i47_4 i47_5 i47_6 l47_7 l47_8 l47_9 l47_10) Q:=by
 obtain ⟨x47_0,h47_0,hm⟩:=bind_some hm
 obtain ⟨x47_1,h47_1,hm⟩:=bind_some hm
 exact gh (ok_Ii_49 _ _ _ _ _ _ _ _ _ _ _ y hm Q hin hout) [.row (rB x47_0),.rows (List.map rS_Show ([(S_Show.mk i47_4 (w64 (Int.tdiv i47_5 1000)) i2_3 x47_0)]:List S_Show)),zn 1,.rows (List.map rS_Show (l47_10++([(S_Show.mk i47_4 (w64 (Int.tdiv i47_5 1000)) i2_3 x47_0)]:List S_Show))),zn ((l47_10++([(S_Show.mk i47_4 (w64 (Int.tdiv i47_5 1000)) i2_3 x47_0)]:List S_Show)).length),zn l47_7.length,zn l47_8.length,zn l47_9.length,zn ((l47_10++([(S_Show.mk i47_4 (w64 (Int.tdiv i47_5 1000)) i2_3 x47_0)]:List S_Show)).length)] (J (by decide:(1000:Int)≠0) (J (rd_in rfl h47_0) (J (at_row rB (rd_get0 h47_0)) (J (Eq.refl (List.map rS_Show ([(S_Show.mk i47_4 (w64 (Int.tdiv i47_5 1000)) i2_3 x47_0)]:List S_Show))) (J (len_map rS_Show (show 1=([(S_Show.mk i47_4 (w64 (Int.tdiv i47_5 1000)) i2_3 x47_0)]:List S_Show).length from rfl)) (J (all_le rS_Show ([(S_Show.mk i47_4 (w64 (Int.tdiv i47_5 1000)) i2_3 x47_0)]:List S_Show) rfl) (J (app_ck rS_Show l47_10 ([(S_Show.mk i47_4 (w64 (Int.tdiv i47_5 1000)) i2_3 x47_0)]:List S_Show) rfl rfl h47_1) (J (app_tell rS_Show l47_10 ([(S_Show.mk i47_4 (w64 (Int.tdiv i47_5 1000)) i2_3 x47_0)]:List S_Show) rfl rfl) (J (len_map rS_Show (show (l47_10++([(S_Show.mk i47_4 (w64 (Int.tdiv i47_5 1000)) i2_3 x47_0)]:List S_Show)).length=(l47_10++([(S_Show.mk i47_4 (w64 (Int.tdiv i47_5 1000)) i2_3 x47_0)]:List S_Show)).length from rfl)) (J (ln l47_7.length) (J (ln l47_8.length) (J (ln l47_9.length) (J (lens ((l47_10++([(S_Show.mk i47_4 (w64 (Int.tdiv i47_5 1000)) i2_3 x47_0)]:List S_Show)).length) ((l47_10++([(S_Show.mk i47_4 (w64 (Int.tdiv i47_5 1000)) i2_3 x47_0)]:List S_Show)).length) rfl) J0))))))))))))) (by kernel_rfl)
theorem ok_Ii_41 (i2_3:Int) (x31_1:Int×S_zplayer) (x2_5:S_Packet) (l41_0:(List Bool)) (y) (hm:m_Ii_41 i2_3 x31_1 x2_5 l41_0=some y) (Q)
  (hin:∀ s,y=.inl s→EE c_Ii_2 K_Ii_2 (s_Ii_2 s.1 s.2.1 s.2.2.1 s.2.2.2.1 s.2.2.2.2.1 s.2.2.2.2.2.1 s.2.2.2.2.2.2.1 s.2.2.2.2.2.2.2.1 s.2.2.2.2.2.2.2.2.1 s.2.2.2.2.2.2.2.2.2.1 s.2.2.2.2.2.2.2.2.2.2) Q) (hout:∀ e,y=.inr e→O_Ii_2 Q e):EE c_Ii_41 K_Ii_41 (s_Ii_41 i2_3 x31_1 x2_5 l41_0) Q:=by
 obtain ⟨x41_0,h41_0,hm⟩:=bind_some hm
 obtain ⟨h41_1,hm⟩|⟨h41_1,hm⟩:=split_ite hm
 ·exact gh (ok_Ii_47 _ _ _ _ _ _ _ _ _ _ _ _ _ y hm Q hin hout) [.row (rB x41_0),zF,zn x31_1.2.due.length,zn x31_1.2.gone.length,zn l41_0.length,zn x31_1.2.shows.length] (J (rd_in rfl h41_0) (J (at_row rB (rd_get0 h41_0)) (J (not_f h41_1) (J (ln x31_1.2.due.length) (J (ln x31_1.2.gone.length) (J (ln l41_0.length) (J (ln x31_1.2.shows.length) J0))))))) (by kernel_rfl)
 ·obtain ⟨x41_2,h41_2,hm⟩:=bind_some hm
  exact gh (ok_Ii_47 _ _ _ _ _ _ _ _ _ _ _ _ _ y hm Q hin hout) [.row (rB x41_0),zT,zi x31_1.2.due,zb x31_1.2.gone,zb l41_0,.rows (List.map rS_Show x31_1.2.shows),.res (res_Ig x41_2),zn x41_2.2.due.length,zn x41_2.2.gone.length,zn x41_2.2.dropping.length,zn x41_2.2.shows.length,zn x41_2.2.due.length,zn x41_2.2.gone.length,zn x41_2.2.dropping.length,zn x41_2.2.shows.length] (J (rd_in rfl h41_0) (J (at_row rB (rd_get0 h41_0)) (J (not_t h41_1) (Ja (rI .i64) x31_1.2.due (Ja rB x31_1.2.gone (Ja rB l41_0 (Ja rS_Show x31_1.2.shows (J (ok_Ig (S_zplayer.mk x31_1.2.b x31_1.2.speed x31_1.2.due x31_1.2.gone x31_1.2.next l41_0 x31_1.2.wall x31_1.2.clock x31_1.2.busy x31_1.2.shows) i2_3 x41_2 h41_2) (J (lm (rI .i64) x41_2.2.due) (J (lm rB x41_2.2.gone) (J (lm rB x41_2.2.dropping) (J (lm rS_Show x41_2.2.shows) (J (ln x41_2.2.due.length) (J (ln x41_2.2.gone.length) (J (ln x41_2.2.dropping.length) (J (ln x41_2.2.shows.length) J0)))))))))))))))) (by kernel_rfl)
theorem ok_Ii_38 (i2_3:Int) (x31_1:Int×S_zplayer) (x2_5:S_Packet) (b38_0:Bool) (y) (hm:m_Ii_38 i2_3 x31_1 x2_5 b38_0=some y) (Q)
  (hin:∀ s,y=.inl s→EE c_Ii_2 K_Ii_2 (s_Ii_2 s.1 s.2.1 s.2.2.1 s.2.2.2.1 s.2.2.2.2.1 s.2.2.2.2.2.1 s.2.2.2.2.2.2.1 s.2.2.2.2.2.2.2.1 s.2.2.2.2.2.2.2.2.1 s.2.2.2.2.2.2.2.2.2.1 s.2.2.2.2.2.2.2.2.2.2) Q) (hout:∀ e,y=.inr e→O_Ii_2 Q e):EE c_Ii_38 K_Ii_38 (s_Ii_38 i2_3 x31_1 x2_5 b38_0) Q:=by
 obtain ⟨h38_0,hm⟩|⟨h38_0,hm⟩:=split_ite hm
 ·obtain ⟨x38_1,h38_1,hm⟩:=bind_some hm
  exact gh (ok_Ii_41 _ _ _ _ y hm Q hin hout) [zT,.rows (mb (x31_1.2.dropping.set (0+Int.toNat x2_5.track) true)),zn x31_1.2.due.length,zn x31_1.2.gone.length,zn ((x31_1.2.dropping.set (0+Int.toNat x2_5.track) true).length),zn x31_1.2.shows.length] (J h38_0 (J (rd_in rfl h38_1) (J (put_ob rB true 0 (.lit (.bool true)) (rd_get0 h38_1) (by kernel_rfl) (by kernel_rfl)) (J (ln x31_1.2.due.length) (J (ln x31_1.2.gone.length) (J (lens x31_1.2.dropping.length ((x31_1.2.dropping.set (0+Int.toNat x2_5.track) true).length) (set_len rfl)) (J (ln x31_1.2.shows.length) J0))))))) (by kernel_rfl)
 ·exact gh (ok_Ii_41 _ _ _ _ y hm Q hin hout) [zF,zn x31_1.2.due.length,zn x31_1.2.gone.length,zn x31_1.2.dropping.length,zn x31_1.2.shows.length] (J h38_0 (J (ln x31_1.2.due.length) (J (ln x31_1.2.gone.length) (J (ln x31_1.2.dropping.length) (J (ln x31_1.2.shows.length) J0))))) (by kernel_rfl)
theorem ok_Ii_31 (i2_3:Int) (l2_0:(List S_Track)) (l2_1:(List S_Packet)) (i2_2 i2_4 i2_5 i2_6:Int) (x2_5:S_Packet) (l2_7:(List Int)) (l2_10:(List S_Show)) (l31_0 l31_1:(List Bool)) (y) (hm:m_Ii_31 i2_3 l2_0 l2_1 i2_2 i2_4 i2_5 i2_6 x2_5 l2_7 l2_10 l31_0 l31_1=some y) (Q)
  (hin:∀ s,y=.inl s→EE c_Ii_2 K_Ii_2 (s_Ii_2 s.1 s.2.1 s.2.2.1 s.2.2.2.1 s.2.2.2.2.1 s.2.2.2.2.2.1 s.2.2.2.2.2.2.1 s.2.2.2.2.2.2.2.1 s.2.2.2.2.2.2.2.2.1 s.2.2.2.2.2.2.2.2.2.1 s.2.2.2.2.2.2.2.2.2.2) Q) (hout:∀ e,y=.inr e→O_Ii_2 Q e):EE c_Ii_31 K_Ii_31 (s_Ii_31 i2_3 l2_0 l2_1 i2_2 i2_4 i2_5 i2_6 x2_5 l2_7 l2_10 l31_0 l31_1) Q:=by
 obtain ⟨x31_0,h31_0,hm⟩:=bind_some hm
 obtain ⟨x31_1,h31_1,hm⟩:=bind_some hm
 obtain ⟨h31_2,hm⟩|⟨h31_2,hm⟩:=split_ite hm
 ·obtain ⟨h31_3,hm⟩|⟨h31_3,hm⟩:=split_ite hm
  ·exact gh (ok_Ii_38 _ _ _ _ y hm Q hin hout) [.row (rS_Track x31_0),zi l2_7,zb l31_0,zb l31_1,.rows (List.map rS_Show l2_10),.res (res_Ig x31_1),zn x31_1.2.due.length,zn x31_1.2.gone.length,zn x31_1.2.dropping.length,zn x31_1.2.shows.length,zT,zT,zT,zT,zF,zF,zF,zF,zF,zn x31_1.2.due.length,zn x31_1.2.gone.length,zn x31_1.2.dropping.length,zn x31_1.2.shows.length] (J (rd_nn h31_0) (J (at_row rS_Track (rd_get h31_0)) (Ja (rI .i64) l2_7 (Ja rB l31_0 (Ja rB l31_1 (Ja rS_Show l2_10 (J (ok_Ig (S_zplayer.mk (S_Box.mk l2_0 l2_1) i2_2 l2_7 l31_0 i2_3 l31_1 i2_4 i2_5 i2_6 l2_10) i2_3 x31_1 h31_1) (J (lm (rI .i64) x31_1.2.due) (J (lm rB x31_1.2.gone) (J (lm rB x31_1.2.dropping) (J (lm rS_Show x31_1.2.shows) (J4 h31_2 (J4 (not_f h31_3) (J (not_f h31_3) (J (ln x31_1.2.due.length) (J (ln x31_1.2.gone.length) (J (ln x31_1.2.dropping.length) (J (ln x31_1.2.shows.length) J0)))))))))))))))))) (by kernel_rfl)
  ·obtain ⟨h31_4,hm⟩|⟨h31_4,hm⟩:=split_ite hm
   ·exact gh (ok_Ii_38 _ _ _ _ y hm Q hin hout) [.row (rS_Track x31_0),zi l2_7,zb l31_0,zb l31_1,.rows (List.map rS_Show l2_10),.res (res_Ig x31_1),zn x31_1.2.due.length,zn x31_1.2.gone.length,zn x31_1.2.dropping.length,zn x31_1.2.shows.length,zT,zT,zT,zT,zT,zT,zT,zT,zT,zT,zT,zT,zn x31_1.2.due.length,zn x31_1.2.gone.length,zn x31_1.2.dropping.length,zn x31_1.2.shows.length] (J (rd_nn h31_0) (J (at_row rS_Track (rd_get h31_0)) (Ja (rI .i64) l2_7 (Ja rB l31_0 (Ja rB l31_1 (Ja rS_Show l2_10 (J (ok_Ig (S_zplayer.mk (S_Box.mk l2_0 l2_1) i2_2 l2_7 l31_0 i2_3 l31_1 i2_4 i2_5 i2_6 l2_10) i2_3 x31_1 h31_1) (J (lm (rI .i64) x31_1.2.due) (J (lm rB x31_1.2.gone) (J (lm rB x31_1.2.dropping) (J (lm rS_Show x31_1.2.shows) (J4 h31_2 (J (not_t h31_3) (J (not_t h31_3) (J (not_t h31_3) (J h31_4 (J h31_4 (J (not_t h31_3) (J h31_4 (J (not_t h31_3) (J (ln x31_1.2.due.length) (J (ln x31_1.2.gone.length) (J (ln x31_1.2.dropping.length) (J (ln x31_1.2.shows.length) J0)))))))))))))))))))))))) (by kernel_rfl)
   ·exact gh (ok_Ii_38 _ _ _ _ y hm Q hin hout) [.row (rS_Track x31_0),zi l2_7,zb l31_0,zb l31_1,.rows (List.map rS_Show l2_10),.res (res_Ig x31_1),zn x31_1.2.due.length,zn x31_1.2.gone.length,zn x31_1.2.dropping.length,zn x31_1.2.shows.length,zT,zT,zT,zT,zT,zT,zT,zF,zF,zT,zF,zT,zn x31_1.2.due.length,zn x31_1.2.gone.length,zn x31_1.2.dropping.length,zn x31_1.2.shows.length] (J (rd_nn h31_0) (J (at_row rS_Track (rd_get h31_0)) (Ja (rI .i64) l2_7 (Ja rB l31_0 (Ja rB l31_1 (Ja rS_Show l2_10 (J (ok_Ig (S_zplayer.mk (S_Box.mk l2_0 l2_1) i2_2 l2_7 l31_0 i2_3 l31_1 i2_4 i2_5 i2_6 l2_10) i2_3 x31_1 h31_1) (J (lm (rI .i64) x31_1.2.due) (J (lm rB x31_1.2.gone) (J (lm rB x31_1.2.dropping) (J (lm rS_Show x31_1.2.shows) (J4 h31_2 (J (not_t h31_3) (J (not_t h31_3) (J (not_t h31_3) (J h31_4 (J h31_4 (J (not_t h31_3) (J h31_4 (J (not_t h31_3) (J (ln x31_1.2.due.length) (J (ln x31_1.2.gone.length) (J (ln x31_1.2.dropping.length) (J (ln x31_1.2.shows.length) J0)))))))))))))))))))))))) (by kernel_rfl)
 ·exact gh (ok_Ii_38 _ _ _ _ y hm Q hin hout) [.row (rS_Track x31_0),zi l2_7,zb l31_0,zb l31_1,.rows (List.map rS_Show l2_10),.res (res_Ig x31_1),zn x31_1.2.due.length,zn x31_1.2.gone.length,zn x31_1.2.dropping.length,zn x31_1.2.shows.length,zF,zF,zF,zF,zF,zF,zF,zF,zF,zn x31_1.2.due.length,zn x31_1.2.gone.length,zn x31_1.2.dropping.length,zn x31_1.2.shows.length] (J (rd_nn h31_0) (J (at_row rS_Track (rd_get h31_0)) (Ja (rI .i64) l2_7 (Ja rB l31_0 (Ja rB l31_1 (Ja rS_Show l2_10 (J (ok_Ig (S_zplayer.mk (S_Box.mk l2_0 l2_1) i2_2 l2_7 l31_0 i2_3 l31_1 i2_4 i2_5 i2_6 l2_10) i2_3 x31_1 h31_1) (J (lm (rI .i64) x31_1.2.due) (J (lm rB x31_1.2.gone) (J (lm rB x31_1.2.dropping) (J (lm rS_Show x31_1.2.shows) (J4 h31_2 (J4 eF (J eF (J (ln x31_1.2.due.length) (J (ln x31_1.2.gone.length) (J (ln x31_1.2.dropping.length) (J (ln x31_1.2.shows.length) J0)))))))))))))))))) (by kernel_rfl)
theorem ok_Ii_2 (l2_0:(List S_Track)) (l2_1:(List S_Packet)) (i2_2 i2_3 i2_4 i2_5 i2_6:Int) (l2_7:(List Int)) (l2_8 l2_9:(List Bool)) (l2_10:(List S_Show)) (y) (hm:m_Ii_2 l2_0 l2_1 i2_2 i2_3 i2_4 i2_5 i2_6 l2_7 l2_8 l2_9 l2_10=some y) (Q)
  (hin:∀ s,y=.inl s→EE c_Ii_2 K_Ii_2 (s_Ii_2 s.1 s.2.1 s.2.2.1 s.2.2.2.1 s.2.2.2.2.1 s.2.2.2.2.2.1 s.2.2.2.2.2.2.1 s.2.2.2.2.2.2.2.1 s.2.2.2.2.2.2.2.2.1 s.2.2.2.2.2.2.2.2.2.1 s.2.2.2.2.2.2.2.2.2.2) Q) (hout:∀ e,y=.inr e→O_Ii_2 Q e):EE c_Ii_2 K_Ii_2 (s_Ii_2 l2_0 l2_1 i2_2 i2_3 i2_4 i2_5 i2_6 l2_7 l2_8 l2_9 l2_10) Q:=by
 obtain ⟨h2_0,hm⟩|⟨h2_0,hm⟩:=split_ite hm
 ·obtain ⟨x2_1,h2_1,hm⟩:=bind_some hm
  obtain ⟨h2_2,hm⟩|⟨h2_2,hm⟩:=split_ite hm
  ·exact gh (ok_Ii_49 _ _ _ _ _ _ _ _ _ _ _ y hm Q hin hout) [zT,.row (rB x2_1),zF,zn l2_7.length,zn l2_8.length,zn l2_9.length,zn l2_10.length] (J h2_0 (J (rd_in rfl h2_1) (J (at_row rB (rd_get0 h2_1)) (J (not_f h2_2) (J (ln l2_7.length) (J (ln l2_8.length) (J (ln l2_9.length) (J (ln l2_10.length) J0)))))))) (by kernel_rfl)
  ·obtain ⟨x2_3,h2_3,hm⟩:=bind_some hm
   obtain ⟨h2_4,hm⟩|⟨h2_4,hm⟩:=split_ite hm
   ·have hQ:Q=Post vf_Ii (res_Ii (S_zplayer.mk (S_Box.mk l2_0 l2_1) i2_2 l2_7 l2_8 i2_3 l2_9 i2_4 i2_5 i2_6 l2_10)):=hout (S_zplayer.mk (S_Box.mk l2_0 l2_1) i2_2 l2_7 l2_8 i2_3 l2_9 i2_4 i2_5 i2_6 l2_10) (qj hm).symm
    subst hQ
    exact go_end [zT,.row (rB x2_1),zT,.row ((rI .i64) x2_3),zT,zi l2_7,zb l2_8,zb l2_9,.rows (List.map rS_Show l2_10)] 1000 (J h2_0 (J (rd_in rfl h2_1) (J (at_row rB (rd_get0 h2_1)) (J (not_t h2_2) (J (rd_in rfl h2_3) (J (at_row (rI .i64) (rd_get0 h2_3)) (J h2_4 (Ja (rI .i64) l2_7 (Ja rB l2_8 (Ja rB l2_9 (Ja rS_Show l2_10 J0))))))))))) (rfl:res_Ii (S_zplayer.mk (S_Box.mk l2_0 l2_1) i2_2 l2_7 l2_8 i2_3 l2_9 i2_4 i2_5 i2_6 l2_10)=res_Ii (S_zplayer.mk (S_Box.mk l2_0 l2_1) i2_2 l2_7 l2_8 i2_3 l2_9 i2_4 i2_5 i2_6 l2_10)) (by kernel_rfl)
   ·obtain ⟨x2_5,h2_5,hm⟩:=bind_some hm
    obtain ⟨h2_6,hm⟩|⟨h2_6,hm⟩:=split_ite hm
    ·obtain ⟨x2_7,h2_7,hm⟩:=bind_some hm
     exact gh (ok_Ii_31 _ _ _ _ _ _ _ _ _ _ _ _ y hm Q hin hout) [zT,.row (rB x2_1),zT,.row ((rI .i64) x2_3),zF,.rows (mb (l2_8.set (0+Int.toNat i2_3) true)),.row (rS_Packet x2_5),zT,.rows (mb (l2_9.set (0+Int.toNat x2_5.track) false)),zn l2_7.length,zn ((l2_8.set (0+Int.toNat i2_3) true).length),zn ((l2_9.set (0+Int.toNat x2_5.track) false).length),zn l2_10.length] (J h2_0 (J (rd_in rfl h2_1) (J (at_row rB (rd_get0 h2_1)) (J (not_t h2_2) (J (rd_in rfl h2_3) (J (at_row (rI .i64) (rd_get0 h2_3)) (J h2_4 (J (rd_in rfl h2_1) (J (put_ob rB true 0 (.lit (.bool true)) (rd_get0 h2_1) (by kernel_rfl) (by kernel_rfl)) (J (rd_nn h2_5) (J (at_row rS_Packet (rd_get h2_5)) (J h2_6 (J (rd_in rfl h2_7) (J (put_ob rB false 0 (.lit (.bool false)) (rd_get0 h2_7) (by kernel_rfl) (by kernel_rfl)) (J (ln l2_7.length) (J (lens l2_8.length ((l2_8.set (0+Int.toNat i2_3) true).length) (set_len rfl)) (J (lens l2_9.length ((l2_9.set (0+Int.toNat x2_5.track) false).length) (set_len rfl)) (J (ln l2_10.length) J0)))))))))))))))))) (by kernel_rfl)
    ·exact gh (ok_Ii_31 _ _ _ _ _ _ _ _ _ _ _ _ y hm Q hin hout) [zT,.row (rB x2_1),zT,.row ((rI .i64) x2_3),zF,.rows (mb (l2_8.set (0+Int.toNat i2_3) true)),.row (rS_Packet x2_5),zF,zn l2_7.length,zn ((l2_8.set (0+Int.toNat i2_3) true).length),zn l2_9.length,zn l2_10.length] (J h2_0 (J (rd_in rfl h2_1) (J (at_row rB (rd_get0 h2_1)) (J (not_t h2_2) (J (rd_in rfl h2_3) (J (at_row (rI .i64) (rd_get0 h2_3)) (J h2_4 (J (rd_in rfl h2_1) (J (put_ob rB true 0 (.lit (.bool true)) (rd_get0 h2_1) (by kernel_rfl) (by kernel_rfl)) (J (rd_nn h2_5) (J (at_row rS_Packet (rd_get h2_5)) (J h2_6 (J (ln l2_7.length) (J (lens l2_8.length ((l2_8.set (0+Int.toNat i2_3) true).length) (set_len rfl)) (J (ln l2_9.length) (J (ln l2_10.length) J0)))))))))))))))) (by kernel_rfl)
 ·have hQ:Q=Post vf_Ii (res_Ii (S_zplayer.mk (S_Box.mk l2_0 l2_1) i2_2 l2_7 l2_8 i2_3 l2_9 i2_4 i2_5 i2_6 l2_10)):=hout (S_zplayer.mk (S_Box.mk l2_0 l2_1) i2_2 l2_7 l2_8 i2_3 l2_9 i2_4 i2_5 i2_6 l2_10) (qj hm).symm
  subst hQ
  exact go_end [zF,zi l2_7,zb l2_8,zb l2_9,.rows (List.map rS_Show l2_10)] 1000 (J h2_0 (Ja (rI .i64) l2_7 (Ja rB l2_8 (Ja rB l2_9 (Ja rS_Show l2_10 J0))))) (rfl:res_Ii (S_zplayer.mk (S_Box.mk l2_0 l2_1) i2_2 l2_7 l2_8 i2_3 l2_9 i2_4 i2_5 i2_6 l2_10)=res_Ii (S_zplayer.mk (S_Box.mk l2_0 l2_1) i2_2 l2_7 l2_8 i2_3 l2_9 i2_4 i2_5 i2_6 l2_10)) (by kernel_rfl)
theorem ok_Ii_0 (p0 r:S_zplayer) (hm:m_Ii_0 p0=some r):EE c_Ii_0 K_Ii_0 (s_Ii_0 p0) (Post vf_Ii (res_Ii r)):=by
 refine gn c_Ii_2 K_Ii_2 (s_Ii_2 p0.b.tracks p0.b.packets p0.speed p0.next p0.wall p0.clock p0.busy p0.due p0.gone p0.dropping p0.shows) [zn p0.due.length,zn p0.gone.length,zn p0.dropping.length,zn p0.shows.length] (J (ln p0.due.length) (J (ln p0.gone.length) (J (ln p0.dropping.length) (J (ln p0.shows.length) J0)))) ?_ (by kernel_rfl)
 obtain ⟨e,he,hm⟩:=bind_some hm
 refine loop_rule (u:=.c c_Ii_2) (K:=K_Ii_2) (Q:=(Post vf_Ii (res_Ii r))) (b:=lp_Ii_2) (We:=O_Ii_2 (Post vf_Ii (res_Ii r))) (stJ:=fun s=>s_Ii_2 s.1 s.2.1 s.2.2.1 s.2.2.2.1 s.2.2.2.2.1 s.2.2.2.2.2.1 s.2.2.2.2.2.2.1 s.2.2.2.2.2.2.2.1 s.2.2.2.2.2.2.2.2.1 s.2.2.2.2.2.2.2.2.2.1 s.2.2.2.2.2.2.2.2.2.2) (s:=(p0.b.tracks,p0.b.packets,p0.speed,p0.next,p0.wall,p0.clock,p0.busy,p0.due,p0.gone,p0.dropping,p0.shows)) (fun s y hb hin hout=>ok_Ii_2 s.1 s.2.1 s.2.2.1 s.2.2.2.1 s.2.2.2.2.1 s.2.2.2.2.2.1 s.2.2.2.2.2.2.1 s.2.2.2.2.2.2.2.1 s.2.2.2.2.2.2.2.2.1 s.2.2.2.2.2.2.2.2.2.1 s.2.2.2.2.2.2.2.2.2.2 y hb (Post vf_Ii (res_Ii r)) hin hout) he ?_
 exact congrArg (fun r=>Post vf_Ii (res_Ii r)) (qj hm).symm
theorem ok_Ii (p0 r:S_zplayer) (hm:m_Ii p0=some r):Runs ext tbl 73 (as_Ii p0) (res_Ii r):=
 runs_of (vf:=vf_Ii) (by kernel_rfl) rfl (st:=(enter vf_Ii (as_Ii p0)).getD default) (by kernel_rfl) (go_on [zn p0.due.length,zn p0.gone.length,zn p0.dropping.length,zn p0.shows.length] 1000 (J (len_map (rI .i64) (rfl:p0.due.length=p0.due.length)) (J (len_map rB (rfl:p0.gone.length=p0.gone.length)) (J (len_map rB (rfl:p0.dropping.length=p0.dropping.length)) (J (len_map rS_Show (rfl:p0.shows.length=p0.shows.length)) J0)))) (ok_Ii_0 p0 r hm) (by kernel_rfl))
def O_Ib_105 (p2:(List S_Act)) (i61_2:Int) (Q:VX→St→Prop) (e:(Int×Bool×(List S_Track)×(List S_Packet)×Int×Int×Int×Int×Int×(List Int)×(List Bool)×(List Bool)×(List S_Show))):Prop:=EE c_Ib_120 K_Ib_120 (s_Ib_120 p2 i61_2 e.1 e.2.1 e.2.2.1 e.2.2.2.1 e.2.2.2.2.1 e.2.2.2.2.2.1 e.2.2.2.2.2.2.1 e.2.2.2.2.2.2.2.1 e.2.2.2.2.2.2.2.2.1 e.2.2.2.2.2.2.2.2.2.1 e.2.2.2.2.2.2.2.2.2.2.1 e.2.2.2.2.2.2.2.2.2.2.2.1 e.2.2.2.2.2.2.2.2.2.2.2.2) Q
def O_Ib_61 (Q:VX→St→Prop) (e:((List S_Track)×(List S_Packet)×Int×Int×Int×Int×Int×(List Int)×(List Bool)×(List Bool)×(List S_Show))):Prop:=EE c_Ib_121 K_Ib_121 (s_Ib_121 e.1 e.2.1 e.2.2.1 e.2.2.2.1 e.2.2.2.2.1 e.2.2.2.2.2.1 e.2.2.2.2.2.2.1 e.2.2.2.2.2.2.2.1 e.2.2.2.2.2.2.2.2.1 e.2.2.2.2.2.2.2.2.2.1 e.2.2.2.2.2.2.2.2.2.2) Q
def O_Ib_42 (p2:(List S_Act)) (p0:S_Box) (p1:Int) (Q:VX→St→Prop) (e:((List Int)×(List Bool)×(List Bool))):Prop:=EE c_Ib_54 K_Ib_54 (s_Ib_54 p2 p0 p1 e.1 e.2.1 e.2.2) Q
def O_Ib_15 (p1:Int) (p2:(List S_Act)) (p0:S_Box) (Q:VX→St→Prop) (e:(S_Played)⊕((Unit))):Prop:=match e with | .inl e=>Q=Post vf_Ib (res_Ib e) | .inr e=>EE c_Ib_33 K_Ib_33 (s_Ib_33 p1 p2 p0) Q
theorem ok_Ib_120 (p2:(List S_Act)) (i61_2 i120_0:Int) (b120_1:Bool) (l120_2:(List S_Track)) (l120_3:(List S_Packet)) (i120_4 i120_5 i120_6 i120_7 i120_8:Int) (l120_9:(List Int)) (l120_10 l120_11:(List Bool)) (l120_12:(List S_Show)) (y) (hm:m_Ib_120 p2 i61_2 i120_0 b120_1 l120_2 l120_3 i120_4 i120_5 i120_6 i120_7 i120_8 l120_9 l120_10 l120_11 l120_12=some y) (Q)
  (hin:∀ s,y=.inl s→EE c_Ib_61 K_Ib_61 (s_Ib_61 p2 s.1 s.2.1 s.2.2.1 s.2.2.2.1 s.2.2.2.2.1 s.2.2.2.2.2.1 s.2.2.2.2.2.2.1 s.2.2.2.2.2.2.2.1 s.2.2.2.2.2.2.2.2.1 s.2.2.2.2.2.2.2.2.2.1 s.2.2.2.2.2.2.2.2.2.2.1 s.2.2.2.2.2.2.2.2.2.2.2.1 s.2.2.2.2.2.2.2.2.2.2.2.2.1 s.2.2.2.2.2.2.2.2.2.2.2.2.2) Q) (hout:∀ e,y=.inr e→O_Ib_61 Q e):EE c_Ib_120 K_Ib_120 (s_Ib_120 p2 i61_2 i120_0 b120_1 l120_2 l120_3 i120_4 i120_5 i120_6 i120_7 i120_8 l120_9 l120_10 l120_11 l120_12) Q:=by
 exact gh (hin _ (qj hm).symm) [zn (([]:List S_Show).length),zn l120_9.length,zn l120_10.length,zn l120_11.length,zn l120_12.length] (J (lens (([]:List S_Show).length) (([]:List S_Show).length) rfl) (J (ln l120_9.length) (J (ln l120_10.length) (J (ln l120_11.length) (J (ln l120_12.length) J0))))) (by kernel_rfl)
theorem ok_Ib_105 (i61_0:Int) (b61_1:Bool) (p2:(List S_Act)) (i61_2:Int) (x61_1:S_Act) (i105_0:Int) (l105_1:(List S_Track)) (l105_2:(List S_Packet)) (i105_3 i105_4 i105_5 i105_6 i105_7:Int) (l105_8:(List Int)) (l105_9 l105_10:(List Bool)) (l105_11:(List S_Show)) (y) (hm:m_Ib_105 i61_0 b61_1 p2 i61_2 x61_1 i105_0 l105_1 l105_2 i105_3 i105_4 i105_5 i105_6 i105_7 l105_8 l105_9 l105_10 l105_11=some y) (Q)
  (hin:∀ s,y=.inl s→EE c_Ib_105 K_Ib_105 (s_Ib_105 i61_0 b61_1 p2 i61_2 x61_1 s.1 s.2.1 s.2.2.1 s.2.2.2.1 s.2.2.2.2.1 s.2.2.2.2.2.1 s.2.2.2.2.2.2.1 s.2.2.2.2.2.2.2.1 s.2.2.2.2.2.2.2.2.1 s.2.2.2.2.2.2.2.2.2.1 s.2.2.2.2.2.2.2.2.2.2.1 s.2.2.2.2.2.2.2.2.2.2.2) Q) (hout:∀ e,y=.inr e→O_Ib_105 p2 i61_2 Q e):EE c_Ib_105 K_Ib_105 (s_Ib_105 i61_0 b61_1 p2 i61_2 x61_1 i105_0 l105_1 l105_2 i105_3 i105_4 i105_5 i105_6 i105_7 l105_8 l105_9 l105_10 l105_11) Q:=by
 obtain ⟨h105_0,hm⟩|⟨h105_0,hm⟩:=split_ite hm
 ·obtain ⟨x105_1,h105_1,hm⟩:=bind_some hm
  exact gh (hin _ (qj hm).symm) [zT,zi l105_8,zb l105_9,zb l105_10,.rows (List.map rS_Show l105_11),.res (res_Ii x105_1),zn x105_1.due.length,zn x105_1.gone.length,zn x105_1.dropping.length,zn x105_1.shows.length,zn (([]:List S_Show).length),zn x105_1.due.length,zn x105_1.gone.length,zn x105_1.dropping.length,zn x105_1.shows.length] (J h105_0 (Ja (rI .i64) l105_8 (Ja rB l105_9 (Ja rB l105_10 (Ja rS_Show l105_11 (J (ok_Ii (S_zplayer.mk (S_Box.mk l105_1 l105_2) i105_3 l105_8 l105_9 i105_4 l105_10 (w64 (i105_5+1)) (w64 (i105_6+(w64 (10*i61_0)))) i105_7 l105_11) x105_1 h105_1) (J (lm (rI .i64) x105_1.due) (J (lm rB x105_1.gone) (J (lm rB x105_1.dropping) (J (lm rS_Show x105_1.shows) (J (lens (([]:List S_Show).length) (([]:List S_Show).length) rfl) (J (ln x105_1.due.length) (J (ln x105_1.gone.length) (J (ln x105_1.dropping.length) (J (ln x105_1.shows.length) J0))))))))))))))) (by kernel_rfl)
 ·refine gn c_Ib_120 K_Ib_120 (s_Ib_120 p2 i61_2 i61_0 b61_1 l105_1 l105_2 i105_3 i105_4 i105_5 i105_6 i105_7 l105_8 l105_9 l105_10 l105_11) [zF,zn (([]:List S_Show).length),zn l105_8.length,zn l105_9.length,zn l105_10.length,zn l105_11.length] (J h105_0 (J (lens (([]:List S_Show).length) (([]:List S_Show).length) rfl) (J (ln l105_8.length) (J (ln l105_9.length) (J (ln l105_10.length) (J (ln l105_11.length) J0)))))) ?_ (by kernel_rfl)
  exact hout (i61_0,b61_1,l105_1,l105_2,i105_3,i105_4,i105_5,i105_6,i105_7,l105_8,l105_9,l105_10,l105_11) (qj hm).symm
theorem ok_Ib_80 (i61_0:Int) (b61_1:Bool) (p2:(List S_Act)) (i61_2:Int) (x61_1:S_Act) (l61_3:(List S_Track)) (l61_4:(List S_Packet)) (i61_5 i61_6 i61_7 i61_8 i61_9:Int) (l61_10:(List Int)) (l61_11 l61_12:(List Bool)) (l61_13:(List S_Show)) (b80_0:Bool) (y) (hm:m_Ib_80 i61_0 b61_1 p2 i61_2 x61_1 l61_3 l61_4 i61_5 i61_6 i61_7 i61_8 i61_9 l61_10 l61_11 l61_12 l61_13 b80_0=some y) (Q)
  (hin:∀ s,y=.inl s→EE c_Ib_61 K_Ib_61 (s_Ib_61 p2 s.1 s.2.1 s.2.2.1 s.2.2.2.1 s.2.2.2.2.1 s.2.2.2.2.2.1 s.2.2.2.2.2.2.1 s.2.2.2.2.2.2.2.1 s.2.2.2.2.2.2.2.2.1 s.2.2.2.2.2.2.2.2.2.1 s.2.2.2.2.2.2.2.2.2.2.1 s.2.2.2.2.2.2.2.2.2.2.2.1 s.2.2.2.2.2.2.2.2.2.2.2.2.1 s.2.2.2.2.2.2.2.2.2.2.2.2.2) Q) (hout:∀ e,y=.inr e→O_Ib_61 Q e):EE c_Ib_80 K_Ib_80 (s_Ib_80 i61_0 b61_1 p2 i61_2 x61_1 l61_3 l61_4 i61_5 i61_6 i61_7 i61_8 i61_9 l61_10 l61_11 l61_12 l61_13 b80_0) Q:=by
 obtain ⟨h80_0,hm⟩|⟨h80_0,hm⟩:=split_ite hm
 ·exact gh (ok_Ib_120 _ _ _ _ _ _ _ _ _ _ _ _ _ _ _ y hm Q hin hout) [zT,zn (([]:List S_Show).length),zn l61_10.length,zn l61_11.length,zn l61_12.length,zn l61_13.length] (J h80_0 (J (lens (([]:List S_Show).length) (([]:List S_Show).length) rfl) (J (ln l61_10.length) (J (ln l61_11.length) (J (ln l61_12.length) (J (ln l61_13.length) J0)))))) (by kernel_rfl)
 ·obtain ⟨h80_1,hm⟩|⟨h80_1,hm⟩:=split_ite hm
  ·exact gh (ok_Ib_120 _ _ _ _ _ _ _ _ _ _ _ _ _ _ _ y hm Q hin hout) [zF,zT,zn (([]:List S_Show).length),zn l61_10.length,zn l61_11.length,zn l61_12.length,zn l61_13.length] (J h80_0 (J h80_1 (J (lens (([]:List S_Show).length) (([]:List S_Show).length) rfl) (J (ln l61_10.length) (J (ln l61_11.length) (J (ln l61_12.length) (J (ln l61_13.length) J0))))))) (by kernel_rfl)
  ·obtain ⟨h80_2,hm⟩|⟨h80_2,hm⟩:=split_ite hm
   ·obtain ⟨x80_3,h80_3,hm⟩:=bind_some hm
    exact gh (ok_Ib_120 _ _ _ _ _ _ _ _ _ _ _ _ _ _ _ y hm Q hin hout) [zF,zF,zT,zi l61_10,zb l61_11,zb l61_12,.rows (List.map rS_Show l61_13),.res (res_Ih x80_3),zn x80_3.due.length,zn x80_3.gone.length,zn x80_3.dropping.length,zn x80_3.shows.length,zn (([]:List S_Show).length),zn x80_3.due.length,zn x80_3.gone.length,zn x80_3.dropping.length,zn x80_3.shows.length] (J h80_0 (J h80_1 (J h80_2 (Ja (rI .i64) l61_10 (Ja rB l61_11 (Ja rB l61_12 (Ja rS_Show l61_13 (J (ok_Ih (S_zplayer.mk (S_Box.mk l61_3 l61_4) i61_5 l61_10 l61_11 i61_6 l61_12 i61_7 i61_8 i61_9 l61_13) x61_1.value x80_3 h80_3) (J (lm (rI .i64) x80_3.due) (J (lm rB x80_3.gone) (J (lm rB x80_3.dropping) (J (lm rS_Show x80_3.shows) (J (lens (([]:List S_Show).length) (([]:List S_Show).length) rfl) (J (ln x80_3.due.length) (J (ln x80_3.gone.length) (J (ln x80_3.dropping.length) (J (ln x80_3.shows.length) J0))))))))))))))))) (by kernel_rfl)
   ·obtain ⟨h80_3,hm⟩|⟨h80_3,hm⟩:=split_ite hm
    ·obtain ⟨h80_4,hm⟩|⟨h80_4,hm⟩:=split_ite hm
     ·refine gn c_Ib_105 K_Ib_105 (s_Ib_105 i61_0 b61_1 p2 i61_2 x61_1 0 l61_3 l61_4 i61_5 i61_6 i61_7 i61_8 i61_9 l61_10 l61_11 l61_12 l61_13) [zF,zF,zF,zT,zF,zn (([]:List S_Show).length),zn l61_10.length,zn l61_11.length,zn l61_12.length,zn l61_13.length] (J h80_0 (J h80_1 (J h80_2 (J h80_3 (J (not_f h80_4) (J (lens (([]:List S_Show).length) (([]:List S_Show).length) rfl) (J (ln l61_10.length) (J (ln l61_11.length) (J (ln l61_12.length) (J (ln l61_13.length) J0)))))))))) ?_ (by kernel_rfl)
      obtain ⟨e,he,hm⟩:=bind_some hm
      refine loop_rule (u:=.c c_Ib_105) (K:=K_Ib_105) (Q:=Q) (b:=lp_Ib_105 i61_0 b61_1 p2 i61_2 x61_1) (We:=O_Ib_105 p2 i61_2 Q) (stJ:=fun s=>s_Ib_105 i61_0 b61_1 p2 i61_2 x61_1 s.1 s.2.1 s.2.2.1 s.2.2.2.1 s.2.2.2.2.1 s.2.2.2.2.2.1 s.2.2.2.2.2.2.1 s.2.2.2.2.2.2.2.1 s.2.2.2.2.2.2.2.2.1 s.2.2.2.2.2.2.2.2.2.1 s.2.2.2.2.2.2.2.2.2.2.1 s.2.2.2.2.2.2.2.2.2.2.2) (s:=(0,l61_3,l61_4,i61_5,i61_6,i61_7,i61_8,i61_9,l61_10,l61_11,l61_12,l61_13)) (fun s y hb hin hout=>ok_Ib_105 i61_0 b61_1 p2 i61_2 x61_1 s.1 s.2.1 s.2.2.1 s.2.2.2.1 s.2.2.2.2.1 s.2.2.2.2.2.1 s.2.2.2.2.2.2.1 s.2.2.2.2.2.2.2.1 s.2.2.2.2.2.2.2.2.1 s.2.2.2.2.2.2.2.2.2.1 s.2.2.2.2.2.2.2.2.2.2.1 s.2.2.2.2.2.2.2.2.2.2.2 y hb Q hin hout) he ?_
      show EE c_Ib_120 K_Ib_120 (s_Ib_120 p2 i61_2 e.1 e.2.1 e.2.2.1 e.2.2.2.1 e.2.2.2.2.1 e.2.2.2.2.2.1 e.2.2.2.2.2.2.1 e.2.2.2.2.2.2.2.1 e.2.2.2.2.2.2.2.2.1 e.2.2.2.2.2.2.2.2.2.1 e.2.2.2.2.2.2.2.2.2.2.1 e.2.2.2.2.2.2.2.2.2.2.2.1 e.2.2.2.2.2.2.2.2.2.2.2.2) _
      exact ok_Ib_120 p2 i61_2 e.1 e.2.1 e.2.2.1 e.2.2.2.1 e.2.2.2.2.1 e.2.2.2.2.2.1 e.2.2.2.2.2.2.1 e.2.2.2.2.2.2.2.1 e.2.2.2.2.2.2.2.2.1 e.2.2.2.2.2.2.2.2.2.1 e.2.2.2.2.2.2.2.2.2.2.1 e.2.2.2.2.2.2.2.2.2.2.2.1 e.2.2.2.2.2.2.2.2.2.2.2.2 y hm Q hin hout
     ·exact gh (ok_Ib_120 _ _ _ _ _ _ _ _ _ _ _ _ _ _ _ y hm Q hin hout) [zF,zF,zF,zT,zT,zn (([]:List S_Show).length),zn l61_10.length,zn l61_11.length,zn l61_12.length,zn l61_13.length] (J h80_0 (J h80_1 (J h80_2 (J h80_3 (J (not_t h80_4) (J (lens (([]:List S_Show).length) (([]:List S_Show).length) rfl) (J (ln l61_10.length) (J (ln l61_11.length) (J (ln l61_12.length) (J (ln l61_13.length) J0)))))))))) (by kernel_rfl)
    ·exact gh (ok_Ib_120 _ _ _ _ _ _ _ _ _ _ _ _ _ _ _ y hm Q hin hout) [zF,zF,zF,zF,zn (([]:List S_Show).length),zn l61_10.length,zn l61_11.length,zn l61_12.length,zn l61_13.length] (J h80_0 (J h80_1 (J h80_2 (J h80_3 (J (lens (([]:List S_Show).length) (([]:List S_Show).length) rfl) (J (ln l61_10.length) (J (ln l61_11.length) (J (ln l61_12.length) (J (ln l61_13.length) J0))))))))) (by kernel_rfl)
theorem ok_Ib_121 (l121_0:(List S_Track)) (l121_1:(List S_Packet)) (i121_2 i121_3 i121_4 i121_5 i121_6:Int) (l121_7:(List Int)) (l121_8 l121_9:(List Bool)) (l121_10:(List S_Show)) (r:S_Played) (hm:m_Ib_121 l121_0 l121_1 i121_2 i121_3 i121_4 i121_5 i121_6 l121_7 l121_8 l121_9 l121_10=some r):EE c_Ib_121 K_Ib_121 (s_Ib_121 l121_0 l121_1 i121_2 i121_3 i121_4 i121_5 i121_6 l121_7 l121_8 l121_9 l121_10) (Post vf_Ib (res_Ib r)):=by
 exact go_end [.rows (List.map rS_Show l121_10)] 1000 (J (by decide:(1000:Int)≠0) (Ja rS_Show l121_10 J0)) (congrArg res_Ib (qj hm)) (by kernel_rfl)
theorem ok_Ib_61 (p2:(List S_Act)) (i61_0:Int) (b61_1:Bool) (i61_2:Int) (l61_3:(List S_Track)) (l61_4:(List S_Packet)) (i61_5 i61_6 i61_7 i61_8 i61_9:Int) (l61_10:(List Int)) (l61_11 l61_12:(List Bool)) (l61_13:(List S_Show)) (y) (hm:m_Ib_61 p2 i61_0 b61_1 i61_2 l61_3 l61_4 i61_5 i61_6 i61_7 i61_8 i61_9 l61_10 l61_11 l61_12 l61_13=some y) (Q)
  (hin:∀ s,y=.inl s→EE c_Ib_61 K_Ib_61 (s_Ib_61 p2 s.1 s.2.1 s.2.2.1 s.2.2.2.1 s.2.2.2.2.1 s.2.2.2.2.2.1 s.2.2.2.2.2.2.1 s.2.2.2.2.2.2.2.1 s.2.2.2.2.2.2.2.2.1 s.2.2.2.2.2.2.2.2.2.1 s.2.2.2.2.2.2.2.2.2.2.1 s.2.2.2.2.2.2.2.2.2.2.2.1 s.2.2.2.2.2.2.2.2.2.2.2.2.1 s.2.2.2.2.2.2.2.2.2.2.2.2.2) Q) (hout:∀ e,y=.inr e→O_Ib_61 Q e):EE c_Ib_61 K_Ib_61 (s_Ib_61 p2 i61_0 b61_1 i61_2 l61_3 l61_4 i61_5 i61_6 i61_7 i61_8 i61_9 l61_10 l61_11 l61_12 l61_13) Q:=by
 obtain ⟨h61_0,hm⟩|⟨h61_0,hm⟩:=split_ite hm
 ·obtain ⟨x61_1,h61_1,hm⟩:=bind_some hm
  obtain ⟨h61_2,hm⟩|⟨h61_2,hm⟩:=split_ite hm
  ·exact gh (ok_Ib_80 _ _ _ _ _ _ _ _ _ _ _ _ _ _ _ _ _ y hm Q hin hout) [zT,.row (rS_Act x61_1),zT,zn (([]:List S_Show).length),zn l61_10.length,zn l61_11.length,zn l61_12.length,zn l61_13.length] (J h61_0 (J (rd_nn h61_1) (J (at_row rS_Act (rd_get h61_1)) (J h61_2 (J (lens (([]:List S_Show).length) (([]:List S_Show).length) rfl) (J (ln l61_10.length) (J (ln l61_11.length) (J (ln l61_12.length) (J (ln l61_13.length) J0))))))))) (by kernel_rfl)
  ·exact gh (ok_Ib_80 _ _ _ _ _ _ _ _ _ _ _ _ _ _ _ _ _ y hm Q hin hout) [zT,.row (rS_Act x61_1),zF,zn (([]:List S_Show).length),zn l61_10.length,zn l61_11.length,zn l61_12.length,zn l61_13.length] (J h61_0 (J (rd_nn h61_1) (J (at_row rS_Act (rd_get h61_1)) (J h61_2 (J (lens (([]:List S_Show).length) (([]:List S_Show).length) rfl) (J (ln l61_10.length) (J (ln l61_11.length) (J (ln l61_12.length) (J (ln l61_13.length) J0))))))))) (by kernel_rfl)
 ·refine gn c_Ib_121 K_Ib_121 (s_Ib_121 l61_3 l61_4 i61_5 i61_6 i61_7 i61_8 i61_9 l61_10 l61_11 l61_12 l61_13) [zF,zn (([]:List S_Show).length),zn l61_10.length,zn l61_11.length,zn l61_12.length,zn l61_13.length] (J h61_0 (J (lens (([]:List S_Show).length) (([]:List S_Show).length) rfl) (J (ln l61_10.length) (J (ln l61_11.length) (J (ln l61_12.length) (J (ln l61_13.length) J0)))))) ?_ (by kernel_rfl)
  exact hout (l61_3,l61_4,i61_5,i61_6,i61_7,i61_8,i61_9,l61_10,l61_11,l61_12,l61_13) (qj hm).symm
theorem ok_Ib_54 (p2:(List S_Act)) (p0:S_Box) (p1:Int) (l54_0:(List Int)) (l54_1 l54_2:(List Bool)) (r:S_Played) (hm:m_Ib_54 p2 p0 p1 l54_0 l54_1 l54_2=some r):EE c_Ib_54 K_Ib_54 (s_Ib_54 p2 p0 p1 l54_0 l54_1 l54_2) (Post vf_Ib (res_Ib r)):=by
 refine gn c_Ib_61 K_Ib_61 (s_Ib_61 p2 100 false 0 p0.tracks p0.packets p1 0 0 0 0 l54_0 l54_1 l54_2 ([]:List S_Show)) [zn p2.length,zn (([]:List S_Show).length),zn l54_0.length,zn l54_1.length,zn l54_2.length,zn (([]:List S_Show).length)] (J (lm rS_Act p2) (J (lens (([]:List S_Show).length) (([]:List S_Show).length) rfl) (J (ln l54_0.length) (J (ln l54_1.length) (J (ln l54_2.length) (J (lens 0 (([]:List S_Show).length) rfl) J0)))))) ?_ (by kernel_rfl)
 obtain ⟨e,he,hm⟩:=bind_some hm
 refine loop_rule (u:=.c c_Ib_61) (K:=K_Ib_61) (Q:=(Post vf_Ib (res_Ib r))) (b:=lp_Ib_61 p2) (We:=O_Ib_61 (Post vf_Ib (res_Ib r))) (stJ:=fun s=>s_Ib_61 p2 s.1 s.2.1 s.2.2.1 s.2.2.2.1 s.2.2.2.2.1 s.2.2.2.2.2.1 s.2.2.2.2.2.2.1 s.2.2.2.2.2.2.2.1 s.2.2.2.2.2.2.2.2.1 s.2.2.2.2.2.2.2.2.2.1 s.2.2.2.2.2.2.2.2.2.2.1 s.2.2.2.2.2.2.2.2.2.2.2.1 s.2.2.2.2.2.2.2.2.2.2.2.2.1 s.2.2.2.2.2.2.2.2.2.2.2.2.2) (s:=(100,false,0,p0.tracks,p0.packets,p1,0,0,0,0,l54_0,l54_1,l54_2,([]:List S_Show))) (fun s y hb hin hout=>ok_Ib_61 p2 s.1 s.2.1 s.2.2.1 s.2.2.2.1 s.2.2.2.2.1 s.2.2.2.2.2.1 s.2.2.2.2.2.2.1 s.2.2.2.2.2.2.2.1 s.2.2.2.2.2.2.2.2.1 s.2.2.2.2.2.2.2.2.2.1 s.2.2.2.2.2.2.2.2.2.2.1 s.2.2.2.2.2.2.2.2.2.2.2.1 s.2.2.2.2.2.2.2.2.2.2.2.2.1 s.2.2.2.2.2.2.2.2.2.2.2.2.2 y hb (Post vf_Ib (res_Ib r)) hin hout) he ?_
 show EE c_Ib_121 K_Ib_121 (s_Ib_121 e.1 e.2.1 e.2.2.1 e.2.2.2.1 e.2.2.2.2.1 e.2.2.2.2.2.1 e.2.2.2.2.2.2.1 e.2.2.2.2.2.2.2.1 e.2.2.2.2.2.2.2.2.1 e.2.2.2.2.2.2.2.2.2.1 e.2.2.2.2.2.2.2.2.2.2) _
 exact ok_Ib_121 e.1 e.2.1 e.2.2.1 e.2.2.2.1 e.2.2.2.2.1 e.2.2.2.2.2.1 e.2.2.2.2.2.2.1 e.2.2.2.2.2.2.2.1 e.2.2.2.2.2.2.2.2.1 e.2.2.2.2.2.2.2.2.2.1 e.2.2.2.2.2.2.2.2.2.2 r hm
theorem ok_Ib_42 (p2:(List S_Act)) (p0:S_Box) (p1 i42_0:Int) (l42_1:(List Int)) (l42_2 l42_3:(List Bool)) (y) (hm:m_Ib_42 p2 p0 p1 i42_0 l42_1 l42_2 l42_3=some y) (Q)
  (hin:∀ s,y=.inl s→EE c_Ib_42 K_Ib_42 (s_Ib_42 p2 p0 p1 s.1 s.2.1 s.2.2.1 s.2.2.2) Q) (hout:∀ e,y=.inr e→O_Ib_42 p2 p0 p1 Q e):EE c_Ib_42 K_Ib_42 (s_Ib_42 p2 p0 p1 i42_0 l42_1 l42_2 l42_3) Q:=by
 obtain ⟨h42_0,hm⟩|⟨h42_0,hm⟩:=split_ite hm
 ·obtain ⟨x42_1,h42_1,hm⟩:=bind_some hm
  obtain ⟨x42_2,h42_2,hm⟩:=bind_some hm
  exact gh (hin _ (qj hm).symm) [zT,.res (res_Ie x42_1),.rows (mi ([x42_1]:List Int)),zn 1,.rows (mi (l42_1++([x42_1]:List Int))),zn ((l42_1++([x42_1]:List Int)).length),zn (([]:List S_Show).length),zn ((l42_1++([x42_1]:List Int)).length),zn l42_2.length,zn l42_3.length] (J h42_0 (J (ok_Ie p0 i42_0 x42_1 h42_1) (J (Eq.refl (mi ([x42_1]:List Int))) (J (len_map (rI .i64) (show 1=([x42_1]:List Int).length from rfl)) (J (all_le (rI .i64) ([x42_1]:List Int) rfl) (J (app_ck (rI .i64) l42_1 ([x42_1]:List Int) rfl rfl h42_2) (J (app_tell (rI .i64) l42_1 ([x42_1]:List Int) rfl rfl) (J (len_map (rI .i64) (show (l42_1++([x42_1]:List Int)).length=(l42_1++([x42_1]:List Int)).length from rfl)) (J (lens (([]:List S_Show).length) (([]:List S_Show).length) rfl) (J (lens ((l42_1++([x42_1]:List Int)).length) ((l42_1++([x42_1]:List Int)).length) rfl) (J (ln l42_2.length) (J (ln l42_3.length) J0)))))))))))) (by kernel_rfl)
 ·refine gn c_Ib_54 K_Ib_54 (s_Ib_54 p2 p0 p1 l42_1 l42_2 l42_3) [zF,zn (([]:List S_Show).length),zn l42_1.length,zn l42_2.length,zn l42_3.length] (J h42_0 (J (lens (([]:List S_Show).length) (([]:List S_Show).length) rfl) (J (ln l42_1.length) (J (ln l42_2.length) (J (ln l42_3.length) J0))))) ?_ (by kernel_rfl)
  exact hout (l42_1,l42_2,l42_3) (qj hm).symm
theorem ok_Ib_33 (p1:Int) (p2:(List S_Act)) (p0:S_Box) (r:S_Played) (hm:m_Ib_33 p1 p2 p0=some r):EE c_Ib_33 K_Ib_33 (s_Ib_33 p1 p2 p0) (Post vf_Ib (res_Ib r)):=by
 obtain ⟨x33_0,h33_0,hm⟩:=bind_some hm
 obtain ⟨x33_1,h33_1,hm⟩:=bind_some hm
 refine gn c_Ib_42 K_Ib_42 (s_Ib_42 p2 p0 p1 0 ([]:List Int) (List.replicate (Int.toNat (p0.packets.length:Int)) (false:Bool)) (List.replicate (Int.toNat (p0.tracks.length:Int)) (false:Bool))) [zn p0.packets.length,zn p0.tracks.length,.rows (mb (List.replicate (Int.toNat (p0.packets.length:Int)) (false:Bool))),zn (Int.toNat (p0.packets.length:Int)),.rows (mb (List.replicate (Int.toNat (p0.tracks.length:Int)) (false:Bool))),zn (Int.toNat (p0.tracks.length:Int)),zn (([]:List S_Show).length),zn (([]:List Int).length),zn ((List.replicate (Int.toNat (p0.packets.length:Int)) (false:Bool)).length),zn ((List.replicate (Int.toNat (p0.tracks.length:Int)) (false:Bool)).length)] (J (lm rS_Packet p0.packets) (J (lm rS_Track p0.tracks) (J (ck_p h33_0) (J (rep_ob rB (Int.toNat (p0.packets.length:Int)) (false:Bool) [.lit (.bool false)] (by kernel_rfl)) (J (len_map rB (show (Int.toNat (p0.packets.length:Int))=(List.replicate (Int.toNat (p0.packets.length:Int)) (false:Bool)).length from (rep_len (Int.toNat (p0.packets.length:Int)) (false:Bool)))) (J (ck_p h33_1) (J (rep_ob rB (Int.toNat (p0.tracks.length:Int)) (false:Bool) [.lit (.bool false)] (by kernel_rfl)) (J (len_map rB (show (Int.toNat (p0.tracks.length:Int))=(List.replicate (Int.toNat (p0.tracks.length:Int)) (false:Bool)).length from (rep_len (Int.toNat (p0.tracks.length:Int)) (false:Bool)))) (J (lens (([]:List S_Show).length) (([]:List S_Show).length) rfl) (J (lens 0 (([]:List Int).length) rfl) (J (lens (Int.toNat (p0.packets.length:Int)) ((List.replicate (Int.toNat (p0.packets.length:Int)) (false:Bool)).length) (rep_len (Int.toNat (p0.packets.length:Int)) (false:Bool))) (J (lens (Int.toNat (p0.tracks.length:Int)) ((List.replicate (Int.toNat (p0.tracks.length:Int)) (false:Bool)).length) (rep_len (Int.toNat (p0.tracks.length:Int)) (false:Bool))) J0)))))))))))) ?_ (by kernel_rfl)
 obtain ⟨e,he,hm⟩:=bind_some hm
 refine loop_rule (u:=.c c_Ib_42) (K:=K_Ib_42) (Q:=(Post vf_Ib (res_Ib r))) (b:=lp_Ib_42 p2 p0 p1) (We:=O_Ib_42 p2 p0 p1 (Post vf_Ib (res_Ib r))) (stJ:=fun s=>s_Ib_42 p2 p0 p1 s.1 s.2.1 s.2.2.1 s.2.2.2) (s:=(0,([]:List Int),(List.replicate (Int.toNat (p0.packets.length:Int)) (false:Bool)),(List.replicate (Int.toNat (p0.tracks.length:Int)) (false:Bool)))) (fun s y hb hin hout=>ok_Ib_42 p2 p0 p1 s.1 s.2.1 s.2.2.1 s.2.2.2 y hb (Post vf_Ib (res_Ib r)) hin hout) he ?_
 show EE c_Ib_54 K_Ib_54 (s_Ib_54 p2 p0 p1 e.1 e.2.1 e.2.2) _
 exact ok_Ib_54 p2 p0 p1 e.1 e.2.1 e.2.2 r hm
theorem ok_Ib_15 (p1:Int) (p2:(List S_Act)) (p0:S_Box) (i15_0:Int) (y) (hm:m_Ib_15 p1 p2 p0 i15_0=some y) (Q)
  (hin:∀ s,y=.inl s→EE c_Ib_15 K_Ib_15 (s_Ib_15 p1 p2 p0 s) Q) (hout:∀ e,y=.inr e→O_Ib_15 p1 p2 p0 Q e):EE c_Ib_15 K_Ib_15 (s_Ib_15 p1 p2 p0 i15_0) Q:=by
 obtain ⟨h15_0,hm⟩|⟨h15_0,hm⟩:=split_ite hm
 ·obtain ⟨x15_1,h15_1,hm⟩:=bind_some hm
  obtain ⟨x15_2,h15_2,hm⟩:=bind_some hm
  obtain ⟨h15_3,hm⟩|⟨h15_3,hm⟩:=split_ite hm
  ·exact gh (hin _ (qj hm).symm) [zT,.row (rS_Act x15_1),.res (res_Ic x15_2),zF,zn (([]:List S_Show).length)] (J h15_0 (J (rd_nn h15_1) (J (at_row rS_Act (rd_get h15_1)) (J (ok_Ic x15_1 x15_2 h15_2) (J (not_f h15_3) (J (lens (([]:List S_Show).length) (([]:List S_Show).length) rfl) J0)))))) (by kernel_rfl)
  ·have hQ:Q=Post vf_Ib (res_Ib (S_Played.mk 1 ([]:List S_Show) 0 0)):=hout (.inl (S_Played.mk 1 ([]:List S_Show) 0 0)) (qj hm).symm
   subst hQ
   exact go_end [zT,.row (rS_Act x15_1),.res (res_Ic x15_2),zT,.rows (List.map rS_Show ([]:List S_Show))] 1000 (J h15_0 (J (rd_nn h15_1) (J (at_row rS_Act (rd_get h15_1)) (J (ok_Ic x15_1 x15_2 h15_2) (J (not_t h15_3) (J (all_le0 rS_Show ([]:List S_Show) rfl) (J (all_t rS_Show ([]:List S_Show) rfl) J0))))))) (rfl:res_Ib (S_Played.mk 1 ([]:List S_Show) 0 0)=res_Ib (S_Played.mk 1 ([]:List S_Show) 0 0)) (by kernel_rfl)
 ·refine gn c_Ib_33 K_Ib_33 (s_Ib_33 p1 p2 p0) [zF,zn (([]:List S_Show).length)] (J h15_0 (J (lens (([]:List S_Show).length) (([]:List S_Show).length) rfl) J0)) ?_ (by kernel_rfl)
  exact hout (.inr ()) (qj hm).symm
theorem ok_Ib_5 (p1:Int) (p2:(List S_Act)) (p0:S_Box) (b5_0:Bool) (r:S_Played) (hm:m_Ib_5 p1 p2 p0 b5_0=some r):EE c_Ib_5 K_Ib_5 (s_Ib_5 p1 p2 p0 b5_0) (Post vf_Ib (res_Ib r)):=by
 obtain ⟨h5_0,hm⟩|⟨h5_0,hm⟩:=split_ite hm
 ·exact go_end [zT,.rows (List.map rS_Show ([]:List S_Show))] 1000 (J h5_0 (J (all_le0 rS_Show ([]:List S_Show) rfl) (J (all_t rS_Show ([]:List S_Show) rfl) J0))) (congrArg res_Ib (qj hm)) (by kernel_rfl)
 ·refine gn c_Ib_15 K_Ib_15 (s_Ib_15 p1 p2 p0 0) [zF,zn p2.length,zn (([]:List S_Show).length)] (J h5_0 (J (lm rS_Act p2) (J (lens (([]:List S_Show).length) (([]:List S_Show).length) rfl) J0))) ?_ (by kernel_rfl)
  obtain ⟨e,he,hm⟩:=bind_some hm
  refine loop_rule (u:=.c c_Ib_15) (K:=K_Ib_15) (Q:=(Post vf_Ib (res_Ib r))) (b:=lp_Ib_15 p1 p2 p0) (We:=O_Ib_15 p1 p2 p0 (Post vf_Ib (res_Ib r))) (stJ:=fun s=>s_Ib_15 p1 p2 p0 s) (s:=0) (fun s y hb hin hout=>ok_Ib_15 p1 p2 p0 s y hb (Post vf_Ib (res_Ib r)) hin hout) he ?_
  rcases e with e | e
  ·exact congrArg (fun r=>Post vf_Ib (res_Ib r)) (qj hm).symm
  ·show EE c_Ib_33 K_Ib_33 (s_Ib_33 p1 p2 p0) _
   exact ok_Ib_33 p1 p2 p0 r hm
theorem ok_Ib_0 (p0:S_Box) (p1:Int) (p2:(List S_Act)) (r:S_Played) (hm:m_Ib_0 p0 p1 p2=some r):EE c_Ib_0 K_Ib_0 (s_Ib_0 p0 p1 p2) (Post vf_Ib (res_Ib r)):=by
 obtain ⟨x0_0,h0_0,hm⟩:=bind_some hm
 obtain ⟨h0_1,hm⟩|⟨h0_1,hm⟩:=split_ite hm
 ·obtain ⟨h0_2,hm⟩|⟨h0_2,hm⟩:=split_ite hm
  ·exact gh (ok_Ib_5 _ _ _ _ r hm) [.res (res_Ia x0_0),zF,zF,zF,zT,zT,zT,zT,zT,zT,zT,zn (([]:List S_Show).length)] (J (ok_Ia p0 x0_0 h0_0) (J (not_f h0_1) (J (not_f h0_1) (J (not_f h0_1) (J h0_2 (J h0_2 (J h0_2 (J4 eT (J (lens 0 (([]:List S_Show).length) rfl) J0))))))))) (by kernel_rfl)
  ·obtain ⟨h0_3,hm⟩|⟨h0_3,hm⟩:=split_ite hm
   ·exact gh (ok_Ib_5 _ _ _ _ r hm) [.res (res_Ia x0_0),zF,zF,zF,zF,zF,zF,zT,zT,zT,zT,zn (([]:List S_Show).length)] (J (ok_Ia p0 x0_0 h0_0) (J (not_f h0_1) (J (not_f h0_1) (J (not_f h0_1) (J h0_2 (J h0_2 (J h0_2 (J4 h0_3 (J (lens 0 (([]:List S_Show).length) rfl) J0))))))))) (by kernel_rfl)
   ·exact gh (ok_Ib_5 _ _ _ _ r hm) [.res (res_Ia x0_0),zF,zF,zF,zF,zF,zF,zF,zF,zn p2.length,zF,zF,zn (([]:List S_Show).length)] (J (ok_Ia p0 x0_0 h0_0) (J (not_f h0_1) (J (not_f h0_1) (J (not_f h0_1) (J h0_2 (J h0_2 (J h0_2 (J h0_3 (J h0_3 (J (lm rS_Act p2) (J h0_3 (J h0_3 (J (lens 0 (([]:List S_Show).length) rfl) J0))))))))))))) (by kernel_rfl)
 ·exact gh (ok_Ib_5 _ _ _ _ r hm) [.res (res_Ia x0_0),zT,zT,zT,zT,zT,zT,zT,zT,zT,zT,zn (([]:List S_Show).length)] (J (ok_Ia p0 x0_0 h0_0) (J (not_t h0_1) (J (not_t h0_1) (J (not_t h0_1) (J4 eT (J eT (J eT (J eT (J (lens 0 (([]:List S_Show).length) rfl) J0))))))))) (by kernel_rfl)
theorem ok_Ib (p0:S_Box) (p1:Int) (p2:(List S_Act)) (r:S_Played) (hm:m_Ib p0 p1 p2=some r):Runs ext tbl 25 (as_Ib p0 p1 p2) (res_Ib r):=
 runs_of (vf:=vf_Ib) (by kernel_rfl) rfl (st:=(enter vf_Ib (as_Ib p0 p1 p2)).getD default) (by kernel_rfl) (go_on [] 1000 J0 (ok_Ib_0 p0 p1 p2 r hm) (by kernel_rfl))
theorem ok_Lh_0 (p0 p1:S_Show) (r:Bool) (hm:m_Lh_0 p0 p1=some r):EE c_Lh_0 K_Lh_0 (s_Lh_0 p0 p1) (Post vf_Lh (res_Lh r)):=by
 obtain ⟨h0_0,hm⟩|⟨h0_0,hm⟩:=split_ite hm
 ·exact go_end [zT] 1000 (J h0_0 J0) (congrArg res_Lh (qj hm)) (by kernel_rfl)
 ·obtain ⟨h0_1,hm⟩|⟨h0_1,hm⟩:=split_ite hm
  ·exact go_end [zF,zT] 1000 (J h0_0 (J h0_1 J0)) (congrArg res_Lh (qj hm)) (by kernel_rfl)
  ·obtain ⟨h0_2,hm⟩|⟨h0_2,hm⟩:=split_ite hm
   ·exact go_end [zF,zF,zT] 1000 (J h0_0 (J h0_1 (J h0_2 J0))) (congrArg res_Lh (qj hm)) (by kernel_rfl)
   ·obtain ⟨h0_3,hm⟩|⟨h0_3,hm⟩:=split_ite hm
    ·exact go_end [zF,zF,zF,zF] 1000 (J h0_0 (J h0_1 (J h0_2 (J (not_f h0_3) J0)))) (congrArg res_Lh (qj hm)) (by kernel_rfl)
    ·exact go_end [zF,zF,zF,zT] 1000 (J h0_0 (J h0_1 (J h0_2 (J (not_t h0_3) J0)))) (congrArg res_Lh (qj hm)) (by kernel_rfl)
theorem ok_Lh (p0 p1:S_Show) (r:Bool) (hm:m_Lh p0 p1=some r):Runs ext tbl 137 (as_Lh p0 p1) (res_Lh r):=
 runs_of (vf:=vf_Lh) (by kernel_rfl) rfl (st:=(enter vf_Lh (as_Lh p0 p1)).getD default) (by kernel_rfl) (go_on [] 1000 J0 (ok_Lh_0 p0 p1 r hm) (by kernel_rfl))
def O_Li_15 (Q:VX→St→Prop) (e:(Bool)⊕((Unit))):Prop:=match e with | .inl e=>Q=Post vf_Li (res_Li e) | .inr e=>EE c_Li_31 K_Li_31 (s_Li_31) Q
theorem ok_Li_31 (r:Bool) (hm:m_Li_31=some r):EE c_Li_31 K_Li_31 (s_Li_31) (Post vf_Li (res_Li r)):=by
 exact go_end [] 1000 J0 (congrArg res_Li (qj hm)) (by kernel_rfl)
theorem ok_Li_15 (p0 p1:(List S_Show)) (i15_0:Int) (y) (hm:m_Li_15 p0 p1 i15_0=some y) (Q)
  (hin:∀ s,y=.inl s→EE c_Li_15 K_Li_15 (s_Li_15 p0 p1 s) Q) (hout:∀ e,y=.inr e→O_Li_15 Q e):EE c_Li_15 K_Li_15 (s_Li_15 p0 p1 i15_0) Q:=by
 obtain ⟨h15_0,hm⟩|⟨h15_0,hm⟩:=split_ite hm
 ·obtain ⟨x15_1,h15_1,hm⟩:=bind_some hm
  obtain ⟨x15_2,h15_2,hm⟩:=bind_some hm
  obtain ⟨x15_3,h15_3,hm⟩:=bind_some hm
  obtain ⟨h15_4,hm⟩|⟨h15_4,hm⟩:=split_ite hm
  ·exact gh (hin _ (qj hm).symm) [zn p0.length,zT,.row (rS_Show x15_1),.row (rS_Show x15_2),.res (res_Lh x15_3),zF] (J (lm rS_Show p0) (J h15_0 (J (rd_nn h15_1) (J (at_row rS_Show (rd_get h15_1)) (J (rd_nn h15_2) (J (at_row rS_Show (rd_get h15_2)) (J (ok_Lh x15_1 x15_2 x15_3 h15_3) (J (not_f h15_4) J0)))))))) (by kernel_rfl)
  ·have hQ:Q=Post vf_Li (res_Li false):=hout (.inl false) (qj hm).symm
   subst hQ
   exact go_end [zn p0.length,zT,.row (rS_Show x15_1),.row (rS_Show x15_2),.res (res_Lh x15_3),zT] 1000 (J (lm rS_Show p0) (J h15_0 (J (rd_nn h15_1) (J (at_row rS_Show (rd_get h15_1)) (J (rd_nn h15_2) (J (at_row rS_Show (rd_get h15_2)) (J (ok_Lh x15_1 x15_2 x15_3 h15_3) (J (not_t h15_4) J0)))))))) (rfl:res_Li false=res_Li false) (by kernel_rfl)
 ·refine gn c_Li_31 K_Li_31 (s_Li_31) [zn p0.length,zF] (J (lm rS_Show p0) (J h15_0 J0)) ?_ (by kernel_rfl)
  exact hout (.inr ()) (qj hm).symm
theorem ok_Li_0 (p0 p1:(List S_Show)) (r:Bool) (hm:m_Li_0 p0 p1=some r):EE c_Li_0 K_Li_0 (s_Li_0 p0 p1) (Post vf_Li (res_Li r)):=by
 obtain ⟨h0_0,hm⟩|⟨h0_0,hm⟩:=split_ite hm
 ·exact go_end [zn p0.length,zn p1.length,zT] 1000 (J (lm rS_Show p0) (J (lm rS_Show p1) (J h0_0 J0))) (congrArg res_Li (qj hm)) (by kernel_rfl)
 ·refine gn c_Li_15 K_Li_15 (s_Li_15 p0 p1 0) [zn p0.length,zn p1.length,zF] (J (lm rS_Show p0) (J (lm rS_Show p1) (J h0_0 J0))) ?_ (by kernel_rfl)
  obtain ⟨e,he,hm⟩:=bind_some hm
  refine loop_rule (u:=.c c_Li_15) (K:=K_Li_15) (Q:=(Post vf_Li (res_Li r))) (b:=lp_Li_15 p0 p1) (We:=O_Li_15 (Post vf_Li (res_Li r))) (stJ:=fun s=>s_Li_15 p0 p1 s) (s:=0) (fun s y hb hin hout=>ok_Li_15 p0 p1 s y hb (Post vf_Li (res_Li r)) hin hout) he ?_
  rcases e with e | e
  ·exact congrArg (fun r=>Post vf_Li (res_Li r)) (qj hm).symm
  ·show EE c_Li_31 K_Li_31 (s_Li_31) _
   exact ok_Li_31 r hm
theorem ok_Li (p0 p1:(List S_Show)) (r:Bool) (hm:m_Li p0 p1=some r):Runs ext tbl 89 (as_Li p0 p1) (res_Li r):=
 runs_of (vf:=vf_Li) (by kernel_rfl) rfl (st:=(enter vf_Li (as_Li p0 p1)).getD default) (by kernel_rfl) (go_on [] 1000 J0 (ok_Li_0 p0 p1 r hm) (by kernel_rfl))
theorem ok_Lg_0 (p0 p1:S_Played) (r:Bool) (hm:m_Lg_0 p0 p1=some r):EE c_Lg_0 K_Lg_0 (s_Lg_0 p0 p1) (Post vf_Lg (res_Lg r)):=by
 obtain ⟨h0_0,hm⟩|⟨h0_0,hm⟩:=split_ite hm
 ·exact go_end [zT] 1000 (J h0_0 J0) (congrArg res_Lg (qj hm)) (by kernel_rfl)
 ·obtain ⟨x0_1,h0_1,hm⟩:=bind_some hm
  obtain ⟨h0_2,hm⟩|⟨h0_2,hm⟩:=split_ite hm
  ·obtain ⟨h0_3,hm⟩|⟨h0_3,hm⟩:=split_ite hm
   ·exact go_end [zF,.res (res_Li x0_1),zF,zT] 1000 (J h0_0 (J (ok_Li p0.shows p1.shows x0_1 h0_1) (J (not_f h0_2) (J h0_3 J0)))) (congrArg res_Lg (qj hm)) (by kernel_rfl)
   ·obtain ⟨h0_4,hm⟩|⟨h0_4,hm⟩:=split_ite hm
    ·exact go_end [zF,.res (res_Li x0_1),zF,zF,zT] 1000 (J h0_0 (J (ok_Li p0.shows p1.shows x0_1 h0_1) (J (not_f h0_2) (J h0_3 (J h0_4 J0))))) (congrArg res_Lg (qj hm)) (by kernel_rfl)
    ·exact go_end [zF,.res (res_Li x0_1),zF,zF,zF] 1000 (J h0_0 (J (ok_Li p0.shows p1.shows x0_1 h0_1) (J (not_f h0_2) (J h0_3 (J h0_4 J0))))) (congrArg res_Lg (qj hm)) (by kernel_rfl)
  ·exact go_end [zF,.res (res_Li x0_1),zT] 1000 (J h0_0 (J (ok_Li p0.shows p1.shows x0_1 h0_1) (J (not_t h0_2) J0))) (congrArg res_Lg (qj hm)) (by kernel_rfl)
theorem ok_Lg (p0 p1:S_Played) (r:Bool) (hm:m_Lg p0 p1=some r):Runs ext tbl 37 (as_Lg p0 p1) (res_Lg r):=
 runs_of (vf:=vf_Lg) (by kernel_rfl) rfl (st:=(enter vf_Lg (as_Lg p0 p1)).getD default) (by kernel_rfl) (go_on [] 1000 J0 (ok_Lg_0 p0 p1 r hm) (by kernel_rfl))
theorem ok_Lj_0 (p0 p1:S_Track) (r:Bool) (hm:m_Lj_0 p0 p1=some r):EE c_Lj_0 K_Lj_0 (s_Lj_0 p0 p1) (Post vf_Lj (res_Lj r)):=by
 obtain ⟨h0_0,hm⟩|⟨h0_0,hm⟩:=split_ite hm
 ·exact go_end [zT] 1000 (J h0_0 J0) (congrArg res_Lj (qj hm)) (by kernel_rfl)
 ·obtain ⟨h0_1,hm⟩|⟨h0_1,hm⟩:=split_ite hm
  ·exact go_end [zF,zT] 1000 (J h0_0 (J h0_1 J0)) (congrArg res_Lj (qj hm)) (by kernel_rfl)
  ·obtain ⟨h0_2,hm⟩|⟨h0_2,hm⟩:=split_ite hm
   ·exact go_end [zF,zF,zF] 1000 (J h0_0 (J h0_1 (J (not_f h0_2) J0))) (congrArg res_Lj (qj hm)) (by kernel_rfl)
   ·exact go_end [zF,zF,zT] 1000 (J h0_0 (J h0_1 (J (not_t h0_2) J0))) (congrArg res_Lj (qj hm)) (by kernel_rfl)
theorem ok_Lj (p0 p1:S_Track) (r:Bool) (hm:m_Lj p0 p1=some r):Runs ext tbl 114 (as_Lj p0 p1) (res_Lj r):=
 runs_of (vf:=vf_Lj) (by kernel_rfl) rfl (st:=(enter vf_Lj (as_Lj p0 p1)).getD default) (by kernel_rfl) (go_on [] 1000 J0 (ok_Lj_0 p0 p1 r hm) (by kernel_rfl))
def O_Lk_15 (Q:VX→St→Prop) (e:(Bool)⊕((Unit))):Prop:=match e with | .inl e=>Q=Post vf_Lk (res_Lk e) | .inr e=>EE c_Lk_31 K_Lk_31 (s_Lk_31) Q
theorem ok_Lk_31 (r:Bool) (hm:m_Lk_31=some r):EE c_Lk_31 K_Lk_31 (s_Lk_31) (Post vf_Lk (res_Lk r)):=by
 exact go_end [] 1000 J0 (congrArg res_Lk (qj hm)) (by kernel_rfl)
theorem ok_Lk_15 (p0 p1:(List S_Track)) (i15_0:Int) (y) (hm:m_Lk_15 p0 p1 i15_0=some y) (Q)
  (hin:∀ s,y=.inl s→EE c_Lk_15 K_Lk_15 (s_Lk_15 p0 p1 s) Q) (hout:∀ e,y=.inr e→O_Lk_15 Q e):EE c_Lk_15 K_Lk_15 (s_Lk_15 p0 p1 i15_0) Q:=by
 obtain ⟨h15_0,hm⟩|⟨h15_0,hm⟩:=split_ite hm
 ·obtain ⟨x15_1,h15_1,hm⟩:=bind_some hm
  obtain ⟨x15_2,h15_2,hm⟩:=bind_some hm
  obtain ⟨x15_3,h15_3,hm⟩:=bind_some hm
  obtain ⟨h15_4,hm⟩|⟨h15_4,hm⟩:=split_ite hm
  ·exact gh (hin _ (qj hm).symm) [zn p0.length,zT,.row (rS_Track x15_1),.row (rS_Track x15_2),.res (res_Lj x15_3),zF] (J (lm rS_Track p0) (J h15_0 (J (rd_nn h15_1) (J (at_row rS_Track (rd_get h15_1)) (J (rd_nn h15_2) (J (at_row rS_Track (rd_get h15_2)) (J (ok_Lj x15_1 x15_2 x15_3 h15_3) (J (not_f h15_4) J0)))))))) (by kernel_rfl)
  ·have hQ:Q=Post vf_Lk (res_Lk false):=hout (.inl false) (qj hm).symm
   subst hQ
   exact go_end [zn p0.length,zT,.row (rS_Track x15_1),.row (rS_Track x15_2),.res (res_Lj x15_3),zT] 1000 (J (lm rS_Track p0) (J h15_0 (J (rd_nn h15_1) (J (at_row rS_Track (rd_get h15_1)) (J (rd_nn h15_2) (J (at_row rS_Track (rd_get h15_2)) (J (ok_Lj x15_1 x15_2 x15_3 h15_3) (J (not_t h15_4) J0)))))))) (rfl:res_Lk false=res_Lk false) (by kernel_rfl)
 ·refine gn c_Lk_31 K_Lk_31 (s_Lk_31) [zn p0.length,zF] (J (lm rS_Track p0) (J h15_0 J0)) ?_ (by kernel_rfl)
  exact hout (.inr ()) (qj hm).symm
theorem ok_Lk_0 (p0 p1:(List S_Track)) (r:Bool) (hm:m_Lk_0 p0 p1=some r):EE c_Lk_0 K_Lk_0 (s_Lk_0 p0 p1) (Post vf_Lk (res_Lk r)):=by
 obtain ⟨h0_0,hm⟩|⟨h0_0,hm⟩:=split_ite hm
 ·exact go_end [zn p0.length,zn p1.length,zT] 1000 (J (lm rS_Track p0) (J (lm rS_Track p1) (J h0_0 J0))) (congrArg res_Lk (qj hm)) (by kernel_rfl)
 ·refine gn c_Lk_15 K_Lk_15 (s_Lk_15 p0 p1 0) [zn p0.length,zn p1.length,zF] (J (lm rS_Track p0) (J (lm rS_Track p1) (J h0_0 J0))) ?_ (by kernel_rfl)
  obtain ⟨e,he,hm⟩:=bind_some hm
  refine loop_rule (u:=.c c_Lk_15) (K:=K_Lk_15) (Q:=(Post vf_Lk (res_Lk r))) (b:=lp_Lk_15 p0 p1) (We:=O_Lk_15 (Post vf_Lk (res_Lk r))) (stJ:=fun s=>s_Lk_15 p0 p1 s) (s:=0) (fun s y hb hin hout=>ok_Lk_15 p0 p1 s y hb (Post vf_Lk (res_Lk r)) hin hout) he ?_
  rcases e with e | e
  ·exact congrArg (fun r=>Post vf_Lk (res_Lk r)) (qj hm).symm
  ·show EE c_Lk_31 K_Lk_31 (s_Lk_31) _
   exact ok_Lk_31 r hm
theorem ok_Lk (p0 p1:(List S_Track)) (r:Bool) (hm:m_Lk p0 p1=some r):Runs ext tbl 60 (as_Lk p0 p1) (res_Lk r):=
 runs_of (vf:=vf_Lk) (by kernel_rfl) rfl (st:=(enter vf_Lk (as_Lk p0 p1)).getD default) (by kernel_rfl) (go_on [] 1000 J0 (ok_Lk_0 p0 p1 r hm) (by kernel_rfl))
def O_Ld_15 (Q:VX→St→Prop) (e:(Bool)⊕((Unit))):Prop:=match e with | .inl e=>Q=Post vf_Ld (res_Ld e) | .inr e=>EE c_Ld_31 K_Ld_31 (s_Ld_31) Q
theorem ok_Ld_31 (r:Bool) (hm:m_Ld_31=some r):EE c_Ld_31 K_Ld_31 (s_Ld_31) (Post vf_Ld (res_Ld r)):=by
 exact go_end [] 1000 J0 (congrArg res_Ld (qj hm)) (by kernel_rfl)
theorem ok_Ld_15 (p0 p1:(List Int)) (i15_0:Int) (y) (hm:m_Ld_15 p0 p1 i15_0=some y) (Q)
  (hin:∀ s,y=.inl s→EE c_Ld_15 K_Ld_15 (s_Ld_15 p0 p1 s) Q) (hout:∀ e,y=.inr e→O_Ld_15 Q e):EE c_Ld_15 K_Ld_15 (s_Ld_15 p0 p1 i15_0) Q:=by
 obtain ⟨h15_0,hm⟩|⟨h15_0,hm⟩:=split_ite hm
 ·obtain ⟨x15_1,h15_1,hm⟩:=bind_some hm
  obtain ⟨x15_2,h15_2,hm⟩:=bind_some hm
  obtain ⟨h15_3,hm⟩|⟨h15_3,hm⟩:=split_ite hm
  ·have hQ:Q=Post vf_Ld (res_Ld false):=hout (.inl false) (qj hm).symm
   subst hQ
   exact go_end [zn p0.length,zT,.row ((rI .u8) x15_1),.row ((rI .u8) x15_2),zT] 1000 (J (lm (rI .u8) p0) (J h15_0 (J (rd_nn h15_1) (J (at_row (rI .u8) (rd_get h15_1)) (J (rd_nn h15_2) (J (at_row (rI .u8) (rd_get h15_2)) (J h15_3 J0))))))) (rfl:res_Ld false=res_Ld false) (by kernel_rfl)
  ·exact gh (hin _ (qj hm).symm) [zn p0.length,zT,.row ((rI .u8) x15_1),.row ((rI .u8) x15_2),zF] (J (lm (rI .u8) p0) (J h15_0 (J (rd_nn h15_1) (J (at_row (rI .u8) (rd_get h15_1)) (J (rd_nn h15_2) (J (at_row (rI .u8) (rd_get h15_2)) (J h15_3 J0))))))) (by kernel_rfl)
 ·refine gn c_Ld_31 K_Ld_31 (s_Ld_31) [zn p0.length,zF] (J (lm (rI .u8) p0) (J h15_0 J0)) ?_ (by kernel_rfl)
  exact hout (.inr ()) (qj hm).symm
theorem ok_Ld_0 (p0 p1:(List Int)) (r:Bool) (hm:m_Ld_0 p0 p1=some r):EE c_Ld_0 K_Ld_0 (s_Ld_0 p0 p1) (Post vf_Ld (res_Ld r)):=by
 obtain ⟨h0_0,hm⟩|⟨h0_0,hm⟩:=split_ite hm
 ·exact go_end [zn p0.length,zn p1.length,zT] 1000 (J (lm (rI .u8) p0) (J (lm (rI .u8) p1) (J h0_0 J0))) (congrArg res_Ld (qj hm)) (by kernel_rfl)
 ·refine gn c_Ld_15 K_Ld_15 (s_Ld_15 p0 p1 0) [zn p0.length,zn p1.length,zF] (J (lm (rI .u8) p0) (J (lm (rI .u8) p1) (J h0_0 J0))) ?_ (by kernel_rfl)
  obtain ⟨e,he,hm⟩:=bind_some hm
  refine loop_rule (u:=.c c_Ld_15) (K:=K_Ld_15) (Q:=(Post vf_Ld (res_Ld r))) (b:=lp_Ld_15 p0 p1) (We:=O_Ld_15 (Post vf_Ld (res_Ld r))) (stJ:=fun s=>s_Ld_15 p0 p1 s) (s:=0) (fun s y hb hin hout=>ok_Ld_15 p0 p1 s y hb (Post vf_Ld (res_Ld r)) hin hout) he ?_
  rcases e with e | e
  ·exact congrArg (fun r=>Post vf_Ld (res_Ld r)) (qj hm).symm
  ·show EE c_Ld_31 K_Ld_31 (s_Ld_31) _
   exact ok_Ld_31 r hm
theorem ok_Ld (p0 p1:(List Int)) (r:Bool) (hm:m_Ld p0 p1=some r):Runs ext tbl 13 (as_Ld p0 p1) (res_Ld r):=
 runs_of (vf:=vf_Ld) (by kernel_rfl) rfl (st:=(enter vf_Ld (as_Ld p0 p1)).getD default) (by kernel_rfl) (go_on [] 1000 J0 (ok_Ld_0 p0 p1 r hm) (by kernel_rfl))
theorem ok_Le_0 (p0 p1:S_Packet) (r:Bool) (hm:m_Le_0 p0 p1=some r):EE c_Le_0 K_Le_0 (s_Le_0 p0 p1) (Post vf_Le (res_Le r)):=by
 obtain ⟨h0_0,hm⟩|⟨h0_0,hm⟩:=split_ite hm
 ·exact go_end [zT] 1000 (J h0_0 J0) (congrArg res_Le (qj hm)) (by kernel_rfl)
 ·obtain ⟨h0_1,hm⟩|⟨h0_1,hm⟩:=split_ite hm
  ·exact go_end [zF,zT] 1000 (J h0_0 (J h0_1 J0)) (congrArg res_Le (qj hm)) (by kernel_rfl)
  ·obtain ⟨h0_2,hm⟩|⟨h0_2,hm⟩:=split_ite hm
   ·exact go_end [zF,zF,zT] 1000 (J h0_0 (J h0_1 (J h0_2 J0))) (congrArg res_Le (qj hm)) (by kernel_rfl)
   ·obtain ⟨h0_3,hm⟩|⟨h0_3,hm⟩:=split_ite hm
    ·obtain ⟨x0_4,h0_4,hm⟩:=bind_some hm
     obtain ⟨h0_5,hm⟩|⟨h0_5,hm⟩:=split_ite hm
     ·exact go_end [zF,zF,zF,zF,.res (res_Ld x0_4),zF] 1000 (J h0_0 (J h0_1 (J h0_2 (J (not_f h0_3) (J (ok_Ld p0.data p1.data x0_4 h0_4) (J (not_f h0_5) J0)))))) (congrArg res_Le (qj hm)) (by kernel_rfl)
     ·exact go_end [zF,zF,zF,zF,.res (res_Ld x0_4),zT] 1000 (J h0_0 (J h0_1 (J h0_2 (J (not_f h0_3) (J (ok_Ld p0.data p1.data x0_4 h0_4) (J (not_t h0_5) J0)))))) (congrArg res_Le (qj hm)) (by kernel_rfl)
    ·exact go_end [zF,zF,zF,zT] 1000 (J h0_0 (J h0_1 (J h0_2 (J (not_t h0_3) J0)))) (congrArg res_Le (qj hm)) (by kernel_rfl)
theorem ok_Le (p0 p1:S_Packet) (r:Bool) (hm:m_Le p0 p1=some r):Runs ext tbl 115 (as_Le p0 p1) (res_Le r):=
 runs_of (vf:=vf_Le) (by kernel_rfl) rfl (st:=(enter vf_Le (as_Le p0 p1)).getD default) (by kernel_rfl) (go_on [] 1000 J0 (ok_Le_0 p0 p1 r hm) (by kernel_rfl))
def O_Lf_15 (Q:VX→St→Prop) (e:(Bool)⊕((Unit))):Prop:=match e with | .inl e=>Q=Post vf_Lf (res_Lf e) | .inr e=>EE c_Lf_31 K_Lf_31 (s_Lf_31) Q
theorem ok_Lf_31 (r:Bool) (hm:m_Lf_31=some r):EE c_Lf_31 K_Lf_31 (s_Lf_31) (Post vf_Lf (res_Lf r)):=by
 exact go_end [] 1000 J0 (congrArg res_Lf (qj hm)) (by kernel_rfl)
theorem ok_Lf_15 (p0 p1:(List S_Packet)) (i15_0:Int) (y) (hm:m_Lf_15 p0 p1 i15_0=some y) (Q)
  (hin:∀ s,y=.inl s→EE c_Lf_15 K_Lf_15 (s_Lf_15 p0 p1 s) Q) (hout:∀ e,y=.inr e→O_Lf_15 Q e):EE c_Lf_15 K_Lf_15 (s_Lf_15 p0 p1 i15_0) Q:=by
 obtain ⟨h15_0,hm⟩|⟨h15_0,hm⟩:=split_ite hm
 ·obtain ⟨x15_1,h15_1,hm⟩:=bind_some hm
  obtain ⟨x15_2,h15_2,hm⟩:=bind_some hm
  obtain ⟨x15_3,h15_3,hm⟩:=bind_some hm
  obtain ⟨h15_4,hm⟩|⟨h15_4,hm⟩:=split_ite hm
  ·exact gh (hin _ (qj hm).symm) [zn p0.length,zT,.row (rS_Packet x15_1),.row (rS_Packet x15_2),.res (res_Le x15_3),zF] (J (lm rS_Packet p0) (J h15_0 (J (rd_nn h15_1) (J (at_row rS_Packet (rd_get h15_1)) (J (rd_nn h15_2) (J (at_row rS_Packet (rd_get h15_2)) (J (ok_Le x15_1 x15_2 x15_3 h15_3) (J (not_f h15_4) J0)))))))) (by kernel_rfl)
  ·have hQ:Q=Post vf_Lf (res_Lf false):=hout (.inl false) (qj hm).symm
   subst hQ
   exact go_end [zn p0.length,zT,.row (rS_Packet x15_1),.row (rS_Packet x15_2),.res (res_Le x15_3),zT] 1000 (J (lm rS_Packet p0) (J h15_0 (J (rd_nn h15_1) (J (at_row rS_Packet (rd_get h15_1)) (J (rd_nn h15_2) (J (at_row rS_Packet (rd_get h15_2)) (J (ok_Le x15_1 x15_2 x15_3 h15_3) (J (not_t h15_4) J0)))))))) (rfl:res_Lf false=res_Lf false) (by kernel_rfl)
 ·refine gn c_Lf_31 K_Lf_31 (s_Lf_31) [zn p0.length,zF] (J (lm rS_Packet p0) (J h15_0 J0)) ?_ (by kernel_rfl)
  exact hout (.inr ()) (qj hm).symm
theorem ok_Lf_0 (p0 p1:(List S_Packet)) (r:Bool) (hm:m_Lf_0 p0 p1=some r):EE c_Lf_0 K_Lf_0 (s_Lf_0 p0 p1) (Post vf_Lf (res_Lf r)):=by
 obtain ⟨h0_0,hm⟩|⟨h0_0,hm⟩:=split_ite hm
 ·exact go_end [zn p0.length,zn p1.length,zT] 1000 (J (lm rS_Packet p0) (J (lm rS_Packet p1) (J h0_0 J0))) (congrArg res_Lf (qj hm)) (by kernel_rfl)
 ·refine gn c_Lf_15 K_Lf_15 (s_Lf_15 p0 p1 0) [zn p0.length,zn p1.length,zF] (J (lm rS_Packet p0) (J (lm rS_Packet p1) (J h0_0 J0))) ?_ (by kernel_rfl)
  obtain ⟨e,he,hm⟩:=bind_some hm
  refine loop_rule (u:=.c c_Lf_15) (K:=K_Lf_15) (Q:=(Post vf_Lf (res_Lf r))) (b:=lp_Lf_15 p0 p1) (We:=O_Lf_15 (Post vf_Lf (res_Lf r))) (stJ:=fun s=>s_Lf_15 p0 p1 s) (s:=0) (fun s y hb hin hout=>ok_Lf_15 p0 p1 s y hb (Post vf_Lf (res_Lf r)) hin hout) he ?_
  rcases e with e | e
  ·exact congrArg (fun r=>Post vf_Lf (res_Lf r)) (qj hm).symm
  ·show EE c_Lf_31 K_Lf_31 (s_Lf_31) _
   exact ok_Lf_31 r hm
theorem ok_Lf (p0 p1:(List S_Packet)) (r:Bool) (hm:m_Lf p0 p1=some r):Runs ext tbl 61 (as_Lf p0 p1) (res_Lf r):=
 runs_of (vf:=vf_Lf) (by kernel_rfl) rfl (st:=(enter vf_Lf (as_Lf p0 p1)).getD default) (by kernel_rfl) (go_on [] 1000 J0 (ok_Lf_0 p0 p1 r hm) (by kernel_rfl))
theorem ok_Lc_0 (p0 p1:S_Box) (r:Bool) (hm:m_Lc_0 p0 p1=some r):EE c_Lc_0 K_Lc_0 (s_Lc_0 p0 p1) (Post vf_Lc (res_Lc r)):=by
 obtain ⟨x0_0,h0_0,hm⟩:=bind_some hm
 obtain ⟨h0_1,hm⟩|⟨h0_1,hm⟩:=split_ite hm
 ·obtain ⟨x0_2,h0_2,hm⟩:=bind_some hm
  obtain ⟨h0_3,hm⟩|⟨h0_3,hm⟩:=split_ite hm
  ·exact go_end [.res (res_Lk x0_0),zF,.res (res_Lf x0_2),zF] 1000 (J (ok_Lk p0.tracks p1.tracks x0_0 h0_0) (J (not_f h0_1) (J (ok_Lf p0.packets p1.packets x0_2 h0_2) (J (not_f h0_3) J0)))) (congrArg res_Lc (qj hm)) (by kernel_rfl)
  ·exact go_end [.res (res_Lk x0_0),zF,.res (res_Lf x0_2),zT] 1000 (J (ok_Lk p0.tracks p1.tracks x0_0 h0_0) (J (not_f h0_1) (J (ok_Lf p0.packets p1.packets x0_2 h0_2) (J (not_t h0_3) J0)))) (congrArg res_Lc (qj hm)) (by kernel_rfl)
 ·exact go_end [.res (res_Lk x0_0),zT] 1000 (J (ok_Lk p0.tracks p1.tracks x0_0 h0_0) (J (not_t h0_1) J0)) (congrArg res_Lc (qj hm)) (by kernel_rfl)
theorem ok_Lc (p0 p1:S_Box) (r:Bool) (hm:m_Lc p0 p1=some r):Runs ext tbl 21 (as_Lc p0 p1) (res_Lc r):=
 runs_of (vf:=vf_Lc) (by kernel_rfl) rfl (st:=(enter vf_Lc (as_Lc p0 p1)).getD default) (by kernel_rfl) (go_on [] 1000 J0 (ok_Lc_0 p0 p1 r hm) (by kernel_rfl))
theorem ok_La_0 (p0 p1:S_Act) (r:Bool) (hm:m_La_0 p0 p1=some r):EE c_La_0 K_La_0 (s_La_0 p0 p1) (Post vf_La (res_La r)):=by
 obtain ⟨h0_0,hm⟩|⟨h0_0,hm⟩:=split_ite hm
 ·exact go_end [zT] 1000 (J h0_0 J0) (congrArg res_La (qj hm)) (by kernel_rfl)
 ·obtain ⟨h0_1,hm⟩|⟨h0_1,hm⟩:=split_ite hm
  ·exact go_end [zF,zT] 1000 (J h0_0 (J h0_1 J0)) (congrArg res_La (qj hm)) (by kernel_rfl)
  ·exact go_end [zF,zF] 1000 (J h0_0 (J h0_1 J0)) (congrArg res_La (qj hm)) (by kernel_rfl)
theorem ok_La (p0 p1:S_Act) (r:Bool) (hm:m_La p0 p1=some r):Runs ext tbl 90 (as_La p0 p1) (res_La r):=
 runs_of (vf:=vf_La) (by kernel_rfl) rfl (st:=(enter vf_La (as_La p0 p1)).getD default) (by kernel_rfl) (go_on [] 1000 J0 (ok_La_0 p0 p1 r hm) (by kernel_rfl))
def O_Lb_15 (Q:VX→St→Prop) (e:(Bool)⊕((Unit))):Prop:=match e with | .inl e=>Q=Post vf_Lb (res_Lb e) | .inr e=>EE c_Lb_31 K_Lb_31 (s_Lb_31) Q
theorem ok_Lb_31 (r:Bool) (hm:m_Lb_31=some r):EE c_Lb_31 K_Lb_31 (s_Lb_31) (Post vf_Lb (res_Lb r)):=by
 exact go_end [] 1000 J0 (congrArg res_Lb (qj hm)) (by kernel_rfl)
theorem ok_Lb_15 (p0 p1:(List S_Act)) (i15_0:Int) (y) (hm:m_Lb_15 p0 p1 i15_0=some y) (Q)
  (hin:∀ s,y=.inl s→EE c_Lb_15 K_Lb_15 (s_Lb_15 p0 p1 s) Q) (hout:∀ e,y=.inr e→O_Lb_15 Q e):EE c_Lb_15 K_Lb_15 (s_Lb_15 p0 p1 i15_0) Q:=by
 obtain ⟨h15_0,hm⟩|⟨h15_0,hm⟩:=split_ite hm
 ·obtain ⟨x15_1,h15_1,hm⟩:=bind_some hm
  obtain ⟨x15_2,h15_2,hm⟩:=bind_some hm
  obtain ⟨x15_3,h15_3,hm⟩:=bind_some hm
  obtain ⟨h15_4,hm⟩|⟨h15_4,hm⟩:=split_ite hm
  ·exact gh (hin _ (qj hm).symm) [zn p0.length,zT,.row (rS_Act x15_1),.row (rS_Act x15_2),.res (res_La x15_3),zF] (J (lm rS_Act p0) (J h15_0 (J (rd_nn h15_1) (J (at_row rS_Act (rd_get h15_1)) (J (rd_nn h15_2) (J (at_row rS_Act (rd_get h15_2)) (J (ok_La x15_1 x15_2 x15_3 h15_3) (J (not_f h15_4) J0)))))))) (by kernel_rfl)
  ·have hQ:Q=Post vf_Lb (res_Lb false):=hout (.inl false) (qj hm).symm
   subst hQ
   exact go_end [zn p0.length,zT,.row (rS_Act x15_1),.row (rS_Act x15_2),.res (res_La x15_3),zT] 1000 (J (lm rS_Act p0) (J h15_0 (J (rd_nn h15_1) (J (at_row rS_Act (rd_get h15_1)) (J (rd_nn h15_2) (J (at_row rS_Act (rd_get h15_2)) (J (ok_La x15_1 x15_2 x15_3 h15_3) (J (not_t h15_4) J0)))))))) (rfl:res_Lb false=res_Lb false) (by kernel_rfl)
 ·refine gn c_Lb_31 K_Lb_31 (s_Lb_31) [zn p0.length,zF] (J (lm rS_Act p0) (J h15_0 J0)) ?_ (by kernel_rfl)
  exact hout (.inr ()) (qj hm).symm
theorem ok_Lb_0 (p0 p1:(List S_Act)) (r:Bool) (hm:m_Lb_0 p0 p1=some r):EE c_Lb_0 K_Lb_0 (s_Lb_0 p0 p1) (Post vf_Lb (res_Lb r)):=by
 obtain ⟨h0_0,hm⟩|⟨h0_0,hm⟩:=split_ite hm
 ·exact go_end [zn p0.length,zn p1.length,zT] 1000 (J (lm rS_Act p0) (J (lm rS_Act p1) (J h0_0 J0))) (congrArg res_Lb (qj hm)) (by kernel_rfl)
 ·refine gn c_Lb_15 K_Lb_15 (s_Lb_15 p0 p1 0) [zn p0.length,zn p1.length,zF] (J (lm rS_Act p0) (J (lm rS_Act p1) (J h0_0 J0))) ?_ (by kernel_rfl)
  obtain ⟨e,he,hm⟩:=bind_some hm
  refine loop_rule (u:=.c c_Lb_15) (K:=K_Lb_15) (Q:=(Post vf_Lb (res_Lb r))) (b:=lp_Lb_15 p0 p1) (We:=O_Lb_15 (Post vf_Lb (res_Lb r))) (stJ:=fun s=>s_Lb_15 p0 p1 s) (s:=0) (fun s y hb hin hout=>ok_Lb_15 p0 p1 s y hb (Post vf_Lb (res_Lb r)) hin hout) he ?_
  rcases e with e | e
  ·exact congrArg (fun r=>Post vf_Lb (res_Lb r)) (qj hm).symm
  ·show EE c_Lb_31 K_Lb_31 (s_Lb_31) _
   exact ok_Lb_31 r hm
theorem ok_Lb (p0 p1:(List S_Act)) (r:Bool) (hm:m_Lb p0 p1=some r):Runs ext tbl 38 (as_Lb p0 p1) (res_Lb r):=
 runs_of (vf:=vf_Lb) (by kernel_rfl) rfl (st:=(enter vf_Lb (as_Lb p0 p1)).getD default) (by kernel_rfl) (go_on [] 1000 J0 (ok_Lb_0 p0 p1 r hm) (by kernel_rfl))
def O_Lt_15 (Q:VX→St→Prop) (e:(ByteArray)):Prop:=EE c_Lt_25 K_Lt_25 (s_Lt_25 e) Q
theorem ok_Lt_25 (l25_0 r:ByteArray) (hm:m_Lt_25 l25_0=some r):EE c_Lt_25 K_Lt_25 (s_Lt_25 l25_0) (Post vf_Lt (res_Lt r)):=by
 obtain ⟨x25_0,h25_0,hm⟩:=bind_some hm
 exact go_end [] 1000 (J (ck_p h25_0) J0) (congrArg res_Lt (qj hm)) (by kernel_rfl)
theorem ok_Lt_15 (i15_0:Int) (l15_1:ByteArray) (y) (hm:m_Lt_15 i15_0 l15_1=some y) (Q)
  (hin:∀ s,y=.inl s→EE c_Lt_15 K_Lt_15 (s_Lt_15 s.1 s.2) Q) (hout:∀ e,y=.inr e→O_Lt_15 Q e):EE c_Lt_15 K_Lt_15 (s_Lt_15 i15_0 l15_1) Q:=by
 obtain ⟨h15_0,hm⟩|⟨h15_0,hm⟩:=split_ite hm
 ·obtain ⟨x15_1,h15_1,hm⟩:=bind_some hm
  obtain ⟨x15_2,h15_2,hm⟩:=bind_some hm
  exact gh (hin _ (qj hm).symm) [zT,.rows (List.map (rI .u8) ([(wr .u8 (w64 (48+(Int.tmod i15_0 10))))]:List Int)),zn 1,.rows (List.map (rI .u8) ([(wr .u8 (w64 (48+(Int.tmod i15_0 10))))]:List Int)),.str x15_1] (J h15_0 (J (by decide:(10:Int)≠0) (J (Eq.refl (List.map (rI .u8) ([(wr .u8 (w64 (48+(Int.tmod i15_0 10))))]:List Int))) (J (len_map (rI .u8) (show 1=([(wr .u8 (w64 (48+(Int.tmod i15_0 10))))]:List Int).length from rfl)) (J (all_le (rI .u8) ([(wr .u8 (w64 (48+(Int.tmod i15_0 10))))]:List Int) rfl) (J (all_dt (rI .u8) ([(wr .u8 (w64 (48+(Int.tmod i15_0 10))))]:List Int) rfl) (J (bstr_t h15_1) (J (ck_p h15_2) (J (by decide:(10:Int)≠0) J0))))))))) (by kernel_rfl)
 ·refine gn c_Lt_25 K_Lt_25 (s_Lt_25 l15_1) [zF] (J h15_0 J0) ?_ (by kernel_rfl)
  exact hout l15_1 (qj hm).symm
theorem ok_Lt_0 (p0:Int) (r:ByteArray) (hm:m_Lt_0 p0=some r):EE c_Lt_0 K_Lt_0 (s_Lt_0 p0) (Post vf_Lt (res_Lt r)):=by
 obtain ⟨h0_0,hm⟩|⟨h0_0,hm⟩:=split_ite hm
 ·exact go_end [zT] 1000 (J h0_0 J0) (congrArg res_Lt (qj hm)) (by kernel_rfl)
 ·refine gn c_Lt_15 K_Lt_15 (s_Lt_15 p0 (ByteArray.mk #[])) [zF] (J h0_0 J0) ?_ (by kernel_rfl)
  obtain ⟨e,he,hm⟩:=bind_some hm
  refine loop_rule (u:=.c c_Lt_15) (K:=K_Lt_15) (Q:=(Post vf_Lt (res_Lt r))) (b:=lp_Lt_15) (We:=O_Lt_15 (Post vf_Lt (res_Lt r))) (stJ:=fun s=>s_Lt_15 s.1 s.2) (s:=(p0,(ByteArray.mk #[]))) (fun s y hb hin hout=>ok_Lt_15 s.1 s.2 y hb (Post vf_Lt (res_Lt r)) hin hout) he ?_
  show EE c_Lt_25 K_Lt_25 (s_Lt_25 e) _
  exact ok_Lt_25 e r hm
theorem ok_Lt (p0:Int) (r:ByteArray) (hm:m_Lt p0=some r):Runs ext tbl 116 (as_Lt p0) (res_Lt r):=
 runs_of (vf:=vf_Lt) (by kernel_rfl) rfl (st:=(enter vf_Lt (as_Lt p0)).getD default) (by kernel_rfl) (go_on [] 1000 J0 (ok_Lt_0 p0 r hm) (by kernel_rfl))
def O_Lu_7 (Q:VX→St→Prop) (e:(Int×(List S_Track))):Prop:=EE c_Lu_27 K_Lu_27 (s_Lu_27 e.1 e.2) Q
theorem ok_Lu_27 (i27_0:Int) (l27_1:(List S_Track)) (r:Int×(List S_Track)) (hm:m_Lu_27 i27_0 l27_1=some r):EE c_Lu_27 K_Lu_27 (s_Lu_27 i27_0 l27_1) (Post vf_Lu (res_Lu r)):=by
 exact go_end [] 1000 J0 (congrArg res_Lu (qj hm)) (by kernel_rfl)
theorem ok_Lu_7 (i7_0 i7_1:Int) (l7_2:(List S_Track)) (y) (hm:m_Lu_7 i7_0 i7_1 l7_2=some y) (Q)
  (hin:∀ s,y=.inl s→EE c_Lu_7 K_Lu_7 (s_Lu_7 s.1 s.2.1 s.2.2) Q) (hout:∀ e,y=.inr e→O_Lu_7 Q e):EE c_Lu_7 K_Lu_7 (s_Lu_7 i7_0 i7_1 l7_2) Q:=by
 obtain ⟨h7_0,hm⟩|⟨h7_0,hm⟩:=split_ite hm
 ·obtain ⟨x7_1,h7_1,hm⟩:=bind_some hm
  obtain ⟨x7_2,h7_2,hm⟩:=bind_some hm
  exact gh (hin _ (qj hm).symm) [zT,.rows (List.map rS_Track (l7_2.set (0+Int.toNat i7_1) (S_Track.mk i7_0 x7_1.scale x7_1.name))),.rows (List.map rS_Track (l7_2.set (0+Int.toNat i7_1) (S_Track.mk i7_0 (w64 (i7_0+1)) x7_1.name))),.res (res_Lt x7_2),.rows (List.map rS_Track (l7_2.set (0+Int.toNat i7_1) (S_Track.mk i7_0 (w64 (i7_0+1)) x7_2))),zn ((l7_2.set (0+Int.toNat i7_1) (S_Track.mk i7_0 (w64 (i7_0+1)) x7_2)).length)] (J h7_0 (J (rd_in rfl h7_1) (J (put_ob rS_Track (S_Track.mk i7_0 x7_1.scale x7_1.name) 0 (.lit (vI i7_0)) (rd_get0 h7_1) (by kernel_rfl) (by kernel_rfl)) (J (rd_in rfl h7_1) (J (put_ob2 rS_Track (S_Track.mk i7_0 (w64 (i7_0+1)) x7_1.name) 1 (.lit (vI (w64 (i7_0+1)))) (set_at (S_Track.mk i7_0 x7_1.scale x7_1.name) (rd_get0 h7_1)) (by kernel_rfl) (by kernel_rfl)) (J (ok_Lt (w64 ((w64 (i7_0+1))+1)) x7_2 h7_2) (J (rd_in rfl h7_1) (J (put_ob2 rS_Track (S_Track.mk i7_0 (w64 (i7_0+1)) x7_2) 2 (.lit (.string x7_2)) (set_at2 (S_Track.mk i7_0 (w64 (i7_0+1)) x7_1.name) (set_at (S_Track.mk i7_0 x7_1.scale x7_1.name) (rd_get0 h7_1))) (by kernel_rfl) (by kernel_rfl)) (J (lens l7_2.length ((l7_2.set (0+Int.toNat i7_1) (S_Track.mk i7_0 (w64 (i7_0+1)) x7_2)).length) (set_len rfl)) J0))))))))) (by kernel_rfl)
 ·refine gn c_Lu_27 K_Lu_27 (s_Lu_27 i7_0 l7_2) [zF,zn l7_2.length] (J h7_0 (J (ln l7_2.length) J0)) ?_ (by kernel_rfl)
  exact hout (i7_0,l7_2) (qj hm).symm
theorem ok_Lu_0 (p1:Int) (p0:(List S_Track)) (r:Int×(List S_Track)) (hm:m_Lu_0 p1 p0=some r):EE c_Lu_0 K_Lu_0 (s_Lu_0 p1 p0) (Post vf_Lu (res_Lu r)):=by
 refine gn c_Lu_7 K_Lu_7 (s_Lu_7 p1 0 p0) [zn p0.length] (J (ln p0.length) J0) ?_ (by kernel_rfl)
 obtain ⟨e,he,hm⟩:=bind_some hm
 refine loop_rule (u:=.c c_Lu_7) (K:=K_Lu_7) (Q:=(Post vf_Lu (res_Lu r))) (b:=lp_Lu_7) (We:=O_Lu_7 (Post vf_Lu (res_Lu r))) (stJ:=fun s=>s_Lu_7 s.1 s.2.1 s.2.2) (s:=(p1,0,p0)) (fun s y hb hin hout=>ok_Lu_7 s.1 s.2.1 s.2.2 y hb (Post vf_Lu (res_Lu r)) hin hout) he ?_
 show EE c_Lu_27 K_Lu_27 (s_Lu_27 e.1 e.2) _
 exact ok_Lu_27 e.1 e.2 r hm
theorem ok_Lu (p0:(List S_Track)) (p1:Int) (r:Int×(List S_Track)) (hm:m_Lu p0 p1=some r):Runs ext tbl 62 (as_Lu p0 p1) (res_Lu r):=
 runs_of (vf:=vf_Lu) (by kernel_rfl) rfl (st:=(enter vf_Lu (as_Lu p0 p1)).getD default) (by kernel_rfl) (go_on [zn p0.length] 1000 (J (len_map rS_Track (rfl:p0.length=p0.length)) J0) (ok_Lu_0 p1 p0 r hm) (by kernel_rfl))
def O_Lp_7 (Q:VX→St→Prop) (e:(Int×(List Int))):Prop:=EE c_Lp_19 K_Lp_19 (s_Lp_19 e.1 e.2) Q
theorem ok_Lp_19 (i19_0:Int) (l19_1:(List Int)) (r:Int×(List Int)) (hm:m_Lp_19 i19_0 l19_1=some r):EE c_Lp_19 K_Lp_19 (s_Lp_19 i19_0 l19_1) (Post vf_Lp (res_Lp r)):=by
 exact go_end [] 1000 J0 (congrArg res_Lp (qj hm)) (by kernel_rfl)
theorem ok_Lp_7 (i7_0 i7_1:Int) (l7_2:(List Int)) (y) (hm:m_Lp_7 i7_0 i7_1 l7_2=some y) (Q)
  (hin:∀ s,y=.inl s→EE c_Lp_7 K_Lp_7 (s_Lp_7 s.1 s.2.1 s.2.2) Q) (hout:∀ e,y=.inr e→O_Lp_7 Q e):EE c_Lp_7 K_Lp_7 (s_Lp_7 i7_0 i7_1 l7_2) Q:=by
 obtain ⟨h7_0,hm⟩|⟨h7_0,hm⟩:=split_ite hm
 ·obtain ⟨x7_1,h7_1,hm⟩:=bind_some hm
  exact gh (hin _ (qj hm).symm) [zT,.rows (List.map (rI .u8) (l7_2.set (0+Int.toNat i7_1) (wr .u8 i7_0))),zn ((l7_2.set (0+Int.toNat i7_1) (wr .u8 i7_0)).length)] (J h7_0 (J (rd_in rfl h7_1) (J (put_ob (rI .u8) (wr .u8 i7_0) 0 (.lit (.int .u8 (wr .u8 i7_0))) (rd_get0 h7_1) (by kernel_rfl) (by kernel_rfl)) (J (lens l7_2.length ((l7_2.set (0+Int.toNat i7_1) (wr .u8 i7_0)).length) (set_len rfl)) J0)))) (by kernel_rfl)
 ·refine gn c_Lp_19 K_Lp_19 (s_Lp_19 i7_0 l7_2) [zF,zn l7_2.length] (J h7_0 (J (ln l7_2.length) J0)) ?_ (by kernel_rfl)
  exact hout (i7_0,l7_2) (qj hm).symm
theorem ok_Lp_0 (p1:Int) (p0:(List Int)) (r:Int×(List Int)) (hm:m_Lp_0 p1 p0=some r):EE c_Lp_0 K_Lp_0 (s_Lp_0 p1 p0) (Post vf_Lp (res_Lp r)):=by
 refine gn c_Lp_7 K_Lp_7 (s_Lp_7 p1 0 p0) [zn p0.length] (J (ln p0.length) J0) ?_ (by kernel_rfl)
 obtain ⟨e,he,hm⟩:=bind_some hm
 refine loop_rule (u:=.c c_Lp_7) (K:=K_Lp_7) (Q:=(Post vf_Lp (res_Lp r))) (b:=lp_Lp_7) (We:=O_Lp_7 (Post vf_Lp (res_Lp r))) (stJ:=fun s=>s_Lp_7 s.1 s.2.1 s.2.2) (s:=(p1,0,p0)) (fun s y hb hin hout=>ok_Lp_7 s.1 s.2.1 s.2.2 y hb (Post vf_Lp (res_Lp r)) hin hout) he ?_
 show EE c_Lp_19 K_Lp_19 (s_Lp_19 e.1 e.2) _
 exact ok_Lp_19 e.1 e.2 r hm
theorem ok_Lp (p0:(List Int)) (p1:Int) (r:Int×(List Int)) (hm:m_Lp p0 p1=some r):Runs ext tbl 14 (as_Lp p0 p1) (res_Lp r):=
 runs_of (vf:=vf_Lp) (by kernel_rfl) rfl (st:=(enter vf_Lp (as_Lp p0 p1)).getD default) (by kernel_rfl) (go_on [zn p0.length] 1000 (J (len_map (rI .u8) (rfl:p0.length=p0.length)) J0) (ok_Lp_0 p1 p0 r hm) (by kernel_rfl))
def O_Lq_7 (Q:VX→St→Prop) (e:(Int×(List S_Packet))):Prop:=EE c_Lq_33 K_Lq_33 (s_Lq_33 e.1 e.2) Q
theorem ok_Lq_33 (i33_0:Int) (l33_1:(List S_Packet)) (r:Int×(List S_Packet)) (hm:m_Lq_33 i33_0 l33_1=some r):EE c_Lq_33 K_Lq_33 (s_Lq_33 i33_0 l33_1) (Post vf_Lq (res_Lq r)):=by
 exact go_end [] 1000 J0 (congrArg res_Lq (qj hm)) (by kernel_rfl)
theorem ok_Lq_7 (i7_0 i7_1:Int) (l7_2:(List S_Packet)) (y) (hm:m_Lq_7 i7_0 i7_1 l7_2=some y) (Q)
  (hin:∀ s,y=.inl s→EE c_Lq_7 K_Lq_7 (s_Lq_7 s.1 s.2.1 s.2.2) Q) (hout:∀ e,y=.inr e→O_Lq_7 Q e):EE c_Lq_7 K_Lq_7 (s_Lq_7 i7_0 i7_1 l7_2) Q:=by
 obtain ⟨h7_0,hm⟩|⟨h7_0,hm⟩:=split_ite hm
 ·obtain ⟨x7_1,h7_1,hm⟩:=bind_some hm
  obtain ⟨x7_2,h7_2,hm⟩:=bind_some hm
  obtain ⟨x7_3,h7_3,hm⟩:=bind_some hm
  exact gh (hin _ (qj hm).symm) [zT,.rows (List.map rS_Packet (l7_2.set (0+Int.toNat i7_1) (S_Packet.mk i7_0 x7_1.time x7_1.span x7_1.key x7_1.data))),.rows (List.map rS_Packet (l7_2.set (0+Int.toNat i7_1) (S_Packet.mk i7_0 (w64 (i7_0+1)) x7_1.span x7_1.key x7_1.data))),.rows (List.map rS_Packet (l7_2.set (0+Int.toNat i7_1) (S_Packet.mk i7_0 (w64 (i7_0+1)) (w64 ((w64 (i7_0+1))+1)) x7_1.key x7_1.data))),.rows (List.map rS_Packet (l7_2.set (0+Int.toNat i7_1) (S_Packet.mk i7_0 (w64 (i7_0+1)) (w64 ((w64 (i7_0+1))+1)) ((Int.tmod (w64 ((w64 ((w64 (i7_0+1))+1))+1)) 3) == 0) x7_1.data))),.row (rS_Packet (S_Packet.mk i7_0 (w64 (i7_0+1)) (w64 ((w64 (i7_0+1))+1)) ((Int.tmod (w64 ((w64 ((w64 (i7_0+1))+1))+1)) 3) == 0) x7_1.data)),zn x7_1.data.length,.row (rS_Packet (S_Packet.mk i7_0 (w64 (i7_0+1)) (w64 ((w64 (i7_0+1))+1)) ((Int.tmod (w64 ((w64 ((w64 (i7_0+1))+1))+1)) 3) == 0) x7_1.data)),.res (res_Lp x7_2),.row (rS_Packet (S_Packet.mk i7_0 (w64 (i7_0+1)) (w64 ((w64 (i7_0+1))+1)) ((Int.tmod (w64 ((w64 ((w64 (i7_0+1))+1))+1)) 3) == 0) x7_1.data)),.row (rS_Packet (S_Packet.mk i7_0 (w64 (i7_0+1)) (w64 ((w64 (i7_0+1))+1)) ((Int.tmod (w64 ((w64 ((w64 (i7_0+1))+1))+1)) 3) == 0) x7_1.data)),.rows (List.map rS_Packet (l7_2.set (0+Int.toNat i7_1) (S_Packet.mk i7_0 (w64 (i7_0+1)) (w64 ((w64 (i7_0+1))+1)) ((Int.tmod (w64 ((w64 ((w64 (i7_0+1))+1))+1)) 3) == 0) x7_2.2))),zn ((l7_2.set (0+Int.toNat i7_1) (S_Packet.mk i7_0 (w64 (i7_0+1)) (w64 ((w64 (i7_0+1))+1)) ((Int.tmod (w64 ((w64 ((w64 (i7_0+1))+1))+1)) 3) == 0) x7_2.2)).length)] (J h7_0 (J (rd_in rfl h7_1) (J (put_ob rS_Packet (S_Packet.mk i7_0 x7_1.time x7_1.span x7_1.key x7_1.data) 0 (.lit (vI i7_0)) (rd_get0 h7_1) (by kernel_rfl) (by kernel_rfl)) (J (rd_in rfl h7_1) (J (put_ob2 rS_Packet (S_Packet.mk i7_0 (w64 (i7_0+1)) x7_1.span x7_1.key x7_1.data) 1 (.lit (vI (w64 (i7_0+1)))) (set_at (S_Packet.mk i7_0 x7_1.time x7_1.span x7_1.key x7_1.data) (rd_get0 h7_1)) (by kernel_rfl) (by kernel_rfl)) (J (rd_in rfl h7_1) (J (put_ob2 rS_Packet (S_Packet.mk i7_0 (w64 (i7_0+1)) (w64 ((w64 (i7_0+1))+1)) x7_1.key x7_1.data) 2 (.lit (vI (w64 ((w64 (i7_0+1))+1)))) (set_at2 (S_Packet.mk i7_0 (w64 (i7_0+1)) x7_1.span x7_1.key x7_1.data) (set_at (S_Packet.mk i7_0 x7_1.time x7_1.span x7_1.key x7_1.data) (rd_get0 h7_1))) (by kernel_rfl) (by kernel_rfl)) (J (by decide:(3:Int)≠0) (J (rd_in rfl h7_1) (J (put_ob2 rS_Packet (S_Packet.mk i7_0 (w64 (i7_0+1)) (w64 ((w64 (i7_0+1))+1)) ((Int.tmod (w64 ((w64 ((w64 (i7_0+1))+1))+1)) 3) == 0) x7_1.data) 3 (.lit (.bool ((Int.tmod (w64 ((w64 ((w64 (i7_0+1))+1))+1)) 3) == 0))) (set_at2 (S_Packet.mk i7_0 (w64 (i7_0+1)) (w64 ((w64 (i7_0+1))+1)) x7_1.key x7_1.data) (set_at2 (S_Packet.mk i7_0 (w64 (i7_0+1)) x7_1.span x7_1.key x7_1.data) (set_at (S_Packet.mk i7_0 x7_1.time x7_1.span x7_1.key x7_1.data) (rd_get0 h7_1)))) (by kernel_rfl) (by kernel_rfl)) (J (rd_in rfl h7_1) (J (at_row rS_Packet (set_at2 (S_Packet.mk i7_0 (w64 (i7_0+1)) (w64 ((w64 (i7_0+1))+1)) ((Int.tmod (w64 ((w64 ((w64 (i7_0+1))+1))+1)) 3) == 0) x7_1.data) (set_at2 (S_Packet.mk i7_0 (w64 (i7_0+1)) (w64 ((w64 (i7_0+1))+1)) x7_1.key x7_1.data) (set_at2 (S_Packet.mk i7_0 (w64 (i7_0+1)) x7_1.span x7_1.key x7_1.data) (set_at (S_Packet.mk i7_0 x7_1.time x7_1.span x7_1.key x7_1.data) (rd_get0 h7_1)))))) (J (lm (rI .u8) x7_1.data) (J (at_row rS_Packet (set_at2 (S_Packet.mk i7_0 (w64 (i7_0+1)) (w64 ((w64 (i7_0+1))+1)) ((Int.tmod (w64 ((w64 ((w64 (i7_0+1))+1))+1)) 3) == 0) x7_1.data) (set_at2 (S_Packet.mk i7_0 (w64 (i7_0+1)) (w64 ((w64 (i7_0+1))+1)) x7_1.key x7_1.data) (set_at2 (S_Packet.mk i7_0 (w64 (i7_0+1)) x7_1.span x7_1.key x7_1.data) (set_at (S_Packet.mk i7_0 x7_1.time x7_1.span x7_1.key x7_1.data) (rd_get0 h7_1)))))) (J (all_eq (rI .u8) x7_1.data rfl) (J (ok_Lp x7_1.data (w64 ((w64 ((w64 ((w64 (i7_0+1))+1))+1))+1)) x7_2 h7_2) (J (at_row rS_Packet (set_at2 (S_Packet.mk i7_0 (w64 (i7_0+1)) (w64 ((w64 (i7_0+1))+1)) ((Int.tmod (w64 ((w64 ((w64 (i7_0+1))+1))+1)) 3) == 0) x7_1.data) (set_at2 (S_Packet.mk i7_0 (w64 (i7_0+1)) (w64 ((w64 (i7_0+1))+1)) x7_1.key x7_1.data) (set_at2 (S_Packet.mk i7_0 (w64 (i7_0+1)) x7_1.span x7_1.key x7_1.data) (set_at (S_Packet.mk i7_0 x7_1.time x7_1.span x7_1.key x7_1.data) (rd_get0 h7_1)))))) (J (len2 (rI .u8) x7_2.2 x7_1.data (ck_p h7_3)) (J (at_row rS_Packet (set_at2 (S_Packet.mk i7_0 (w64 (i7_0+1)) (w64 ((w64 (i7_0+1))+1)) ((Int.tmod (w64 ((w64 ((w64 (i7_0+1))+1))+1)) 3) == 0) x7_1.data) (set_at2 (S_Packet.mk i7_0 (w64 (i7_0+1)) (w64 ((w64 (i7_0+1))+1)) x7_1.key x7_1.data) (set_at2 (S_Packet.mk i7_0 (w64 (i7_0+1)) x7_1.span x7_1.key x7_1.data) (set_at (S_Packet.mk i7_0 x7_1.time x7_1.span x7_1.key x7_1.data) (rd_get0 h7_1)))))) (J (upd_ob2 rS_Packet l7_2 (0+Int.toNat i7_1) (S_Packet.mk i7_0 (w64 (i7_0+1)) (w64 ((w64 (i7_0+1))+1)) ((Int.tmod (w64 ((w64 ((w64 (i7_0+1))+1))+1)) 3) == 0) x7_1.data) (S_Packet.mk i7_0 (w64 (i7_0+1)) (w64 ((w64 (i7_0+1))+1)) ((Int.tmod (w64 ((w64 ((w64 (i7_0+1))+1))+1)) 3) == 0) x7_1.data) (S_Packet.mk i7_0 (w64 (i7_0+1)) (w64 ((w64 (i7_0+1))+1)) ((Int.tmod (w64 ((w64 ((w64 (i7_0+1))+1))+1)) 3) == 0) x7_2.2) 4 (.sl (x7_2.2.map (rI .u8))) (by kernel_rfl)) (J (lens l7_2.length ((l7_2.set (0+Int.toNat i7_1) (S_Packet.mk i7_0 (w64 (i7_0+1)) (w64 ((w64 (i7_0+1))+1)) ((Int.tmod (w64 ((w64 ((w64 (i7_0+1))+1))+1)) 3) == 0) x7_2.2)).length) (set_len rfl)) J0))))))))))))))))))))) (by kernel_rfl)
 ·refine gn c_Lq_33 K_Lq_33 (s_Lq_33 i7_0 l7_2) [zF,zn l7_2.length] (J h7_0 (J (ln l7_2.length) J0)) ?_ (by kernel_rfl)
  exact hout (i7_0,l7_2) (qj hm).symm
theorem ok_Lq_0 (p1:Int) (p0:(List S_Packet)) (r:Int×(List S_Packet)) (hm:m_Lq_0 p1 p0=some r):EE c_Lq_0 K_Lq_0 (s_Lq_0 p1 p0) (Post vf_Lq (res_Lq r)):=by
 refine gn c_Lq_7 K_Lq_7 (s_Lq_7 p1 0 p0) [zn p0.length] (J (ln p0.length) J0) ?_ (by kernel_rfl)
 obtain ⟨e,he,hm⟩:=bind_some hm
 refine loop_rule (u:=.c c_Lq_7) (K:=K_Lq_7) (Q:=(Post vf_Lq (res_Lq r))) (b:=lp_Lq_7) (We:=O_Lq_7 (Post vf_Lq (res_Lq r))) (stJ:=fun s=>s_Lq_7 s.1 s.2.1 s.2.2) (s:=(p1,0,p0)) (fun s y hb hin hout=>ok_Lq_7 s.1 s.2.1 s.2.2 y hb (Post vf_Lq (res_Lq r)) hin hout) he ?_
 show EE c_Lq_33 K_Lq_33 (s_Lq_33 e.1 e.2) _
 exact ok_Lq_33 e.1 e.2 r hm
theorem ok_Lq (p0:(List S_Packet)) (p1:Int) (r:Int×(List S_Packet)) (hm:m_Lq p0 p1=some r):Runs ext tbl 63 (as_Lq p0 p1) (res_Lq r):=
 runs_of (vf:=vf_Lq) (by kernel_rfl) rfl (st:=(enter vf_Lq (as_Lq p0 p1)).getD default) (by kernel_rfl) (go_on [zn p0.length] 1000 (J (len_map rS_Packet (rfl:p0.length=p0.length)) J0) (ok_Lq_0 p1 p0 r hm) (by kernel_rfl))
theorem ok_Lo_0 (p1:Int) (p0:S_Box) (r:Int×S_Box) (hm:m_Lo_0 p1 p0=some r):EE c_Lo_0 K_Lo_0 (s_Lo_0 p1 p0) (Post vf_Lo (res_Lo r)):=by
 obtain ⟨x0_0,h0_0,hm⟩:=bind_some hm
 obtain ⟨x0_1,h0_1,hm⟩:=bind_some hm
 obtain ⟨x0_2,h0_2,hm⟩:=bind_some hm
 obtain ⟨x0_3,h0_3,hm⟩:=bind_some hm
 exact go_end [.res (res_Lu x0_0),.res (res_Lq x0_2)] 1000 (J (all_eq rS_Track p0.tracks rfl) (J (ok_Lu p0.tracks p1 x0_0 h0_0) (J (len2 rS_Track x0_0.2 p0.tracks (ck_p h0_1)) (J (all_eq rS_Packet p0.packets rfl) (J (ok_Lq p0.packets x0_0.1 x0_2 h0_2) (J (len2 rS_Packet x0_2.2 p0.packets (ck_p h0_3)) J0)))))) (congrArg res_Lo (qj hm)) (by kernel_rfl)
theorem ok_Lo (p0:S_Box) (p1:Int) (r:Int×S_Box) (hm:m_Lo p0 p1=some r):Runs ext tbl 22 (as_Lo p0 p1) (res_Lo r):=
 runs_of (vf:=vf_Lo) (by kernel_rfl) rfl (st:=(enter vf_Lo (as_Lo p0 p1)).getD default) (by kernel_rfl) (go_on [zn p0.tracks.length,zn p0.packets.length] 1000 (J (len_map rS_Track (rfl:p0.tracks.length=p0.tracks.length)) (J (len_map rS_Packet (rfl:p0.packets.length=p0.packets.length)) J0)) (ok_Lo_0 p1 p0 r hm) (by kernel_rfl))
def O_Ln_7 (Q:VX→St→Prop) (e:(Int×(List S_Act))):Prop:=EE c_Ln_23 K_Ln_23 (s_Ln_23 e.1 e.2) Q
theorem ok_Ln_23 (i23_0:Int) (l23_1:(List S_Act)) (r:Int×(List S_Act)) (hm:m_Ln_23 i23_0 l23_1=some r):EE c_Ln_23 K_Ln_23 (s_Ln_23 i23_0 l23_1) (Post vf_Ln (res_Ln r)):=by
 exact go_end [] 1000 J0 (congrArg res_Ln (qj hm)) (by kernel_rfl)
theorem ok_Ln_7 (i7_0 i7_1:Int) (l7_2:(List S_Act)) (y) (hm:m_Ln_7 i7_0 i7_1 l7_2=some y) (Q)
  (hin:∀ s,y=.inl s→EE c_Ln_7 K_Ln_7 (s_Ln_7 s.1 s.2.1 s.2.2) Q) (hout:∀ e,y=.inr e→O_Ln_7 Q e):EE c_Ln_7 K_Ln_7 (s_Ln_7 i7_0 i7_1 l7_2) Q:=by
 obtain ⟨h7_0,hm⟩|⟨h7_0,hm⟩:=split_ite hm
 ·obtain ⟨x7_1,h7_1,hm⟩:=bind_some hm
  exact gh (hin _ (qj hm).symm) [zT,.rows (List.map rS_Act (l7_2.set (0+Int.toNat i7_1) (S_Act.mk i7_0 x7_1.value))),.rows (List.map rS_Act (l7_2.set (0+Int.toNat i7_1) (S_Act.mk i7_0 (w64 (i7_0+1))))),zn ((l7_2.set (0+Int.toNat i7_1) (S_Act.mk i7_0 (w64 (i7_0+1)))).length)] (J h7_0 (J (rd_in rfl h7_1) (J (put_ob rS_Act (S_Act.mk i7_0 x7_1.value) 0 (.lit (vI i7_0)) (rd_get0 h7_1) (by kernel_rfl) (by kernel_rfl)) (J (rd_in rfl h7_1) (J (put_ob2 rS_Act (S_Act.mk i7_0 (w64 (i7_0+1))) 1 (.lit (vI (w64 (i7_0+1)))) (set_at (S_Act.mk i7_0 x7_1.value) (rd_get0 h7_1)) (by kernel_rfl) (by kernel_rfl)) (J (lens l7_2.length ((l7_2.set (0+Int.toNat i7_1) (S_Act.mk i7_0 (w64 (i7_0+1)))).length) (set_len rfl)) J0)))))) (by kernel_rfl)
 ·refine gn c_Ln_23 K_Ln_23 (s_Ln_23 i7_0 l7_2) [zF,zn l7_2.length] (J h7_0 (J (ln l7_2.length) J0)) ?_ (by kernel_rfl)
  exact hout (i7_0,l7_2) (qj hm).symm
theorem ok_Ln_0 (p1:Int) (p0:(List S_Act)) (r:Int×(List S_Act)) (hm:m_Ln_0 p1 p0=some r):EE c_Ln_0 K_Ln_0 (s_Ln_0 p1 p0) (Post vf_Ln (res_Ln r)):=by
 refine gn c_Ln_7 K_Ln_7 (s_Ln_7 p1 0 p0) [zn p0.length] (J (ln p0.length) J0) ?_ (by kernel_rfl)
 obtain ⟨e,he,hm⟩:=bind_some hm
 refine loop_rule (u:=.c c_Ln_7) (K:=K_Ln_7) (Q:=(Post vf_Ln (res_Ln r))) (b:=lp_Ln_7) (We:=O_Ln_7 (Post vf_Ln (res_Ln r))) (stJ:=fun s=>s_Ln_7 s.1 s.2.1 s.2.2) (s:=(p1,0,p0)) (fun s y hb hin hout=>ok_Ln_7 s.1 s.2.1 s.2.2 y hb (Post vf_Ln (res_Ln r)) hin hout) he ?_
 show EE c_Ln_23 K_Ln_23 (s_Ln_23 e.1 e.2) _
 exact ok_Ln_23 e.1 e.2 r hm
theorem ok_Ln (p0:(List S_Act)) (p1:Int) (r:Int×(List S_Act)) (hm:m_Ln p0 p1=some r):Runs ext tbl 39 (as_Ln p0 p1) (res_Ln r):=
 runs_of (vf:=vf_Ln) (by kernel_rfl) rfl (st:=(enter vf_Ln (as_Ln p0 p1)).getD default) (by kernel_rfl) (go_on [zn p0.length] 1000 (J (len_map rS_Act (rfl:p0.length=p0.length)) J0) (ok_Ln_0 p1 p0 r hm) (by kernel_rfl))
def O_Ls_7 (Q:VX→St→Prop) (e:(Int×(List S_Show))):Prop:=EE c_Ls_31 K_Ls_31 (s_Ls_31 e.1 e.2) Q
theorem ok_Ls_31 (i31_0:Int) (l31_1:(List S_Show)) (r:Int×(List S_Show)) (hm:m_Ls_31 i31_0 l31_1=some r):EE c_Ls_31 K_Ls_31 (s_Ls_31 i31_0 l31_1) (Post vf_Ls (res_Ls r)):=by
 exact go_end [] 1000 J0 (congrArg res_Ls (qj hm)) (by kernel_rfl)
end Go.Proofs.V

namespace Go.Proofs.V
open Go
theorem ok_Ls_7 (i7_0 i7_1:Int) (l7_2:(List S_Show)) (y) (hm:m_Ls_7 i7_0 i7_1 l7_2=some y) (Q)
  (hin:∀ s,y=.inl s→EE c_Ls_7 K_Ls_7 (s_Ls_7 s.1 s.2.1 s.2.2) Q) (hout:∀ e,y=.inr e→O_Ls_7 Q e):EE c_Ls_7 K_Ls_7 (s_Ls_7 i7_0 i7_1 l7_2) Q:=by
 obtain ⟨h7_0,hm⟩|⟨h7_0,hm⟩:=split_ite hm
 ·obtain ⟨x7_1,h7_1,hm⟩:=bind_some hm
  exact gh (hin _ (qj hm).symm) [zT,.rows (List.map rS_Show (l7_2.set (0+Int.toNat i7_1) (S_Show.mk i7_0 x7_1.clock x7_1.packet x7_1.dropped))),.rows (List.map rS_Show (l7_2.set (0+Int.toNat i7_1) (S_Show.mk i7_0 (w64 (i7_0+1)) x7_1.packet x7_1.dropped))),.rows (List.map rS_Show (l7_2.set (0+Int.toNat i7_1) (S_Show.mk i7_0 (w64 (i7_0+1)) (w64 ((w64 (i7_0+1))+1)) x7_1.dropped))),.rows (List.map rS_Show (l7_2.set (0+Int.toNat i7_1) (S_Show.mk i7_0 (w64 (i7_0+1)) (w64 ((w64 (i7_0+1))+1)) ((Int.tmod (w64 ((w64 ((w64 (i7_0+1))+1))+1)) 3) == 0)))),zn ((l7_2.set (0+Int.toNat i7_1) (S_Show.mk i7_0 (w64 (i7_0+1)) (w64 ((w64 (i7_0+1))+1)) ((Int.tmod (w64 ((w64 ((w64 (i7_0+1))+1))+1)) 3) == 0))).length)] (J h7_0 (J (rd_in rfl h7_1) (J (put_ob rS_Show (S_Show.mk i7_0 x7_1.clock x7_1.packet x7_1.dropped) 0 (.lit (vI i7_0)) (rd_get0 h7_1) (by kernel_rfl) (by kernel_rfl)) (J (rd_in rfl h7_1) (J (put_ob2 rS_Show (S_Show.mk i7_0 (w64 (i7_0+1)) x7_1.packet x7_1.dropped) 1 (.lit (vI (w64 (i7_0+1)))) (set_at (S_Show.mk i7_0 x7_1.clock x7_1.packet x7_1.dropped) (rd_get0 h7_1)) (by kernel_rfl) (by kernel_rfl)) (J (rd_in rfl h7_1) (J (put_ob2 rS_Show (S_Show.mk i7_0 (w64 (i7_0+1)) (w64 ((w64 (i7_0+1))+1)) x7_1.dropped) 2 (.lit (vI (w64 ((w64 (i7_0+1))+1)))) (set_at2 (S_Show.mk i7_0 (w64 (i7_0+1)) x7_1.packet x7_1.dropped) (set_at (S_Show.mk i7_0 x7_1.clock x7_1.packet x7_1.dropped) (rd_get0 h7_1))) (by kernel_rfl) (by kernel_rfl)) (J (by decide:(3:Int)≠0) (J (rd_in rfl h7_1) (J (put_ob2 rS_Show (S_Show.mk i7_0 (w64 (i7_0+1)) (w64 ((w64 (i7_0+1))+1)) ((Int.tmod (w64 ((w64 ((w64 (i7_0+1))+1))+1)) 3) == 0)) 3 (.lit (.bool ((Int.tmod (w64 ((w64 ((w64 (i7_0+1))+1))+1)) 3) == 0))) (set_at2 (S_Show.mk i7_0 (w64 (i7_0+1)) (w64 ((w64 (i7_0+1))+1)) x7_1.dropped) (set_at2 (S_Show.mk i7_0 (w64 (i7_0+1)) x7_1.packet x7_1.dropped) (set_at (S_Show.mk i7_0 x7_1.clock x7_1.packet x7_1.dropped) (rd_get0 h7_1)))) (by kernel_rfl) (by kernel_rfl)) (J (lens l7_2.length ((l7_2.set (0+Int.toNat i7_1) (S_Show.mk i7_0 (w64 (i7_0+1)) (w64 ((w64 (i7_0+1))+1)) ((Int.tmod (w64 ((w64 ((w64 (i7_0+1))+1))+1)) 3) == 0))).length) (set_len rfl)) J0))))))))))) (by kernel_rfl)
 ·refine gn c_Ls_31 K_Ls_31 (s_Ls_31 i7_0 l7_2) [zF,zn l7_2.length] (J h7_0 (J (ln l7_2.length) J0)) ?_ (by kernel_rfl)
  exact hout (i7_0,l7_2) (qj hm).symm
theorem ok_Ls_0 (p1:Int) (p0:(List S_Show)) (r:Int×(List S_Show)) (hm:m_Ls_0 p1 p0=some r):EE c_Ls_0 K_Ls_0 (s_Ls_0 p1 p0) (Post vf_Ls (res_Ls r)):=by
 refine gn c_Ls_7 K_Ls_7 (s_Ls_7 p1 0 p0) [zn p0.length] (J (ln p0.length) J0) ?_ (by kernel_rfl)
 obtain ⟨e,he,hm⟩:=bind_some hm
 refine loop_rule (u:=.c c_Ls_7) (K:=K_Ls_7) (Q:=(Post vf_Ls (res_Ls r))) (b:=lp_Ls_7) (We:=O_Ls_7 (Post vf_Ls (res_Ls r))) (stJ:=fun s=>s_Ls_7 s.1 s.2.1 s.2.2) (s:=(p1,0,p0)) (fun s y hb hin hout=>ok_Ls_7 s.1 s.2.1 s.2.2 y hb (Post vf_Ls (res_Ls r)) hin hout) he ?_
 show EE c_Ls_31 K_Ls_31 (s_Ls_31 e.1 e.2) _
 exact ok_Ls_31 e.1 e.2 r hm
theorem ok_Ls (p0:(List S_Show)) (p1:Int) (r:Int×(List S_Show)) (hm:m_Ls p0 p1=some r):Runs ext tbl 91 (as_Ls p0 p1) (res_Ls r):=
 runs_of (vf:=vf_Ls) (by kernel_rfl) rfl (st:=(enter vf_Ls (as_Ls p0 p1)).getD default) (by kernel_rfl) (go_on [zn p0.length] 1000 (J (len_map rS_Show (rfl:p0.length=p0.length)) J0) (ok_Ls_0 p1 p0 r hm) (by kernel_rfl))
theorem ok_Lr_0 (p0:S_Played) (p1:Int) (r:Int×S_Played) (hm:m_Lr_0 p0 p1=some r):EE c_Lr_0 K_Lr_0 (s_Lr_0 p0 p1) (Post vf_Lr (res_Lr r)):=by
 obtain ⟨x0_0,h0_0,hm⟩:=bind_some hm
 obtain ⟨x0_1,h0_1,hm⟩:=bind_some hm
 exact go_end [.res (res_Ls x0_0)] 1000 (J (all_eq rS_Show p0.shows rfl) (J (ok_Ls p0.shows p1 x0_0 h0_0) (J (len2 rS_Show x0_0.2 p0.shows (ck_p h0_1)) J0))) (congrArg res_Lr (qj hm)) (by kernel_rfl)
theorem ok_Lr (p0:S_Played) (p1:Int) (r:Int×S_Played) (hm:m_Lr p0 p1=some r):Runs ext tbl 40 (as_Lr p0 p1) (res_Lr r):=
 runs_of (vf:=vf_Lr) (by kernel_rfl) rfl (st:=(enter vf_Lr (as_Lr p0 p1)).getD default) (by kernel_rfl) (go_on [zn p0.shows.length] 1000 (J (len_map rS_Show (rfl:p0.shows.length=p0.shows.length)) J0) (ok_Lr_0 p0 p1 r hm) (by kernel_rfl))
def O_Lm_7 (Q:VX→St→Prop) (e:(Int)⊕((Int))):Prop:=match e with | .inl e=>Q=Post vf_Lm (res_Lm e) | .inr e=>EE c_Lm_55 K_Lm_55 (s_Lm_55 e) Q
theorem ok_Lm_55 (i55_0 r:Int) (hm:m_Lm_55 i55_0=some r):EE c_Lm_55 K_Lm_55 (s_Lm_55 i55_0) (Post vf_Lm (res_Lm r)):=by
 exact go_end [] 1000 J0 (congrArg res_Lm (qj hm)) (by kernel_rfl)
theorem ok_Lm_7 (p0:(List S_Show)) (i7_0 i7_1:Int) (y) (hm:m_Lm_7 p0 i7_0 i7_1=some y) (Q)
  (hin:∀ s,y=.inl s→EE c_Lm_7 K_Lm_7 (s_Lm_7 p0 s.1 s.2) Q) (hout:∀ e,y=.inr e→O_Lm_7 Q e):EE c_Lm_7 K_Lm_7 (s_Lm_7 p0 i7_0 i7_1) Q:=by
 obtain ⟨h7_0,hm⟩|⟨h7_0,hm⟩:=split_ite hm
 ·obtain ⟨x7_1,h7_1,hm⟩:=bind_some hm
  obtain ⟨h7_2,hm⟩|⟨h7_2,hm⟩:=split_ite hm
  ·have hQ:Q=Post vf_Lm (res_Lm (-1)):=hout (.inl (-1)) (qj hm).symm
   subst hQ
   exact go_end [zn p0.length,zT,.row (rS_Show x7_1),zT] 1000 (J (lm rS_Show p0) (J h7_0 (J (rd_nn h7_1) (J (at_row rS_Show (rd_get h7_1)) (J h7_2 J0))))) (rfl:res_Lm (-1)=res_Lm (-1)) (by kernel_rfl)
  ·obtain ⟨h7_3,hm⟩|⟨h7_3,hm⟩:=split_ite hm
   ·have hQ:Q=Post vf_Lm (res_Lm (-1)):=hout (.inl (-1)) (qj hm).symm
    subst hQ
    exact go_end [zn p0.length,zT,.row (rS_Show x7_1),zF,.row (rS_Show x7_1),zT] 1000 (J (lm rS_Show p0) (J h7_0 (J (rd_nn h7_1) (J (at_row rS_Show (rd_get h7_1)) (J h7_2 (J (rd_nn h7_1) (J (at_row rS_Show (rd_get h7_1)) (J h7_3 J0)))))))) (rfl:res_Lm (-1)=res_Lm (-1)) (by kernel_rfl)
   ·obtain ⟨h7_4,hm⟩|⟨h7_4,hm⟩:=split_ite hm
    ·have hQ:Q=Post vf_Lm (res_Lm (-1)):=hout (.inl (-1)) (qj hm).symm
     subst hQ
     exact go_end [zn p0.length,zT,.row (rS_Show x7_1),zF,.row (rS_Show x7_1),zF,.row (rS_Show x7_1),zT] 1000 (J (lm rS_Show p0) (J h7_0 (J (rd_nn h7_1) (J (at_row rS_Show (rd_get h7_1)) (J h7_2 (J (rd_nn h7_1) (J (at_row rS_Show (rd_get h7_1)) (J h7_3 (J (rd_nn h7_1) (J (at_row rS_Show (rd_get h7_1)) (J h7_4 J0))))))))))) (rfl:res_Lm (-1)=res_Lm (-1)) (by kernel_rfl)
    ·obtain ⟨h7_5,hm⟩|⟨h7_5,hm⟩:=split_ite hm
     ·exact gh (hin _ (qj hm).symm) [zn p0.length,zT,.row (rS_Show x7_1),zF,.row (rS_Show x7_1),zF,.row (rS_Show x7_1),zF,.row (rS_Show x7_1),zF] (J (lm rS_Show p0) (J h7_0 (J (rd_nn h7_1) (J (at_row rS_Show (rd_get h7_1)) (J h7_2 (J (rd_nn h7_1) (J (at_row rS_Show (rd_get h7_1)) (J h7_3 (J (rd_nn h7_1) (J (at_row rS_Show (rd_get h7_1)) (J h7_4 (J (rd_nn h7_1) (J (at_row rS_Show (rd_get h7_1)) (J (by decide:(3:Int)≠0) (J (not_f h7_5) J0))))))))))))))) (by kernel_rfl)
     ·have hQ:Q=Post vf_Lm (res_Lm (-1)):=hout (.inl (-1)) (qj hm).symm
      subst hQ
      exact go_end [zn p0.length,zT,.row (rS_Show x7_1),zF,.row (rS_Show x7_1),zF,.row (rS_Show x7_1),zF,.row (rS_Show x7_1),zT] 1000 (J (lm rS_Show p0) (J h7_0 (J (rd_nn h7_1) (J (at_row rS_Show (rd_get h7_1)) (J h7_2 (J (rd_nn h7_1) (J (at_row rS_Show (rd_get h7_1)) (J h7_3 (J (rd_nn h7_1) (J (at_row rS_Show (rd_get h7_1)) (J h7_4 (J (rd_nn h7_1) (J (at_row rS_Show (rd_get h7_1)) (J (by decide:(3:Int)≠0) (J (not_t h7_5) J0))))))))))))))) (rfl:res_Lm (-1)=res_Lm (-1)) (by kernel_rfl)
 ·refine gn c_Lm_55 K_Lm_55 (s_Lm_55 i7_0) [zn p0.length,zF] (J (lm rS_Show p0) (J h7_0 J0)) ?_ (by kernel_rfl)
  exact hout (.inr i7_0) (qj hm).symm
theorem ok_Lm_0 (p0:(List S_Show)) (p1 r:Int) (hm:m_Lm_0 p0 p1=some r):EE c_Lm_0 K_Lm_0 (s_Lm_0 p0 p1) (Post vf_Lm (res_Lm r)):=by
 refine gn c_Lm_7 K_Lm_7 (s_Lm_7 p0 p1 0) [] J0 ?_ (by kernel_rfl)
 obtain ⟨e,he,hm⟩:=bind_some hm
 refine loop_rule (u:=.c c_Lm_7) (K:=K_Lm_7) (Q:=(Post vf_Lm (res_Lm r))) (b:=lp_Lm_7 p0) (We:=O_Lm_7 (Post vf_Lm (res_Lm r))) (stJ:=fun s=>s_Lm_7 p0 s.1 s.2) (s:=(p1,0)) (fun s y hb hin hout=>ok_Lm_7 p0 s.1 s.2 y hb (Post vf_Lm (res_Lm r)) hin hout) he ?_
 rcases e with e | e
 ·exact congrArg (fun r=>Post vf_Lm (res_Lm r)) (qj hm).symm
 ·show EE c_Lm_55 K_Lm_55 (s_Lm_55 e) _
  exact ok_Lm_55 e r hm
theorem ok_Lm (p0:(List S_Show)) (p1 r:Int) (hm:m_Lm p0 p1=some r):Runs ext tbl 92 (as_Lm p0 p1) (res_Lm r):=
 runs_of (vf:=vf_Lm) (by kernel_rfl) rfl (st:=(enter vf_Lm (as_Lm p0 p1)).getD default) (by kernel_rfl) (go_on [] 1000 J0 (ok_Lm_0 p0 p1 r hm) (by kernel_rfl))
theorem ok_Ll_0 (p0:S_Played) (p1 r:Int) (hm:m_Ll_0 p0 p1=some r):EE c_Ll_0 K_Ll_0 (s_Ll_0 p0 p1) (Post vf_Ll (res_Ll r)):=by
 obtain ⟨x0_0,h0_0,hm⟩:=bind_some hm
 obtain ⟨h0_1,hm⟩|⟨h0_1,hm⟩:=split_ite hm
 ·exact go_end [.res (res_Lm x0_0),zT] 1000 (J (ok_Lm p0.shows p1 x0_0 h0_0) (J h0_1 J0)) (congrArg res_Ll (qj hm)) (by kernel_rfl)
 ·exact go_end [.res (res_Lm x0_0),zF] 1000 (J (ok_Lm p0.shows p1 x0_0 h0_0) (J h0_1 J0)) (congrArg res_Ll (qj hm)) (by kernel_rfl)
theorem ok_Ll (p0:S_Played) (p1 r:Int) (hm:m_Ll p0 p1=some r):Runs ext tbl 41 (as_Ll p0 p1) (res_Ll r):=
 runs_of (vf:=vf_Ll) (by kernel_rfl) rfl (st:=(enter vf_Ll (as_Ll p0 p1)).getD default) (by kernel_rfl) (go_on [] 1000 J0 (ok_Ll_0 p0 p1 r hm) (by kernel_rfl))
theorem ok_laws_FnExactRunPlayer_0 (p0:S_Box) (p1:Int) (p2:(List S_Act)) (r:Bool) (hm:m_laws_FnExactRunPlayer_0 p0 p1 p2=some r):EE c_laws_FnExactRunPlayer_0 K_laws_FnExactRunPlayer_0 (s_laws_FnExactRunPlayer_0 p0 p1 p2) (Post vf_laws_FnExactRunPlayer (res_laws_FnExactRunPlayer r)):=by
 obtain ⟨x0_0,h0_0,hm⟩:=bind_some hm
 obtain ⟨h0_1,hm⟩|⟨h0_1,hm⟩:=split_ite hm
 ·exact go_end [.res (res_Lw x0_0),zT] 1000 (J (ok_Lw p0 1048576 x0_0 h0_0) (J h0_1 J0)) (congrArg res_laws_FnExactRunPlayer (qj hm)) (by kernel_rfl)
 ·obtain ⟨x0_2,h0_2,hm⟩:=bind_some hm
  obtain ⟨h0_3,hm⟩|⟨h0_3,hm⟩:=split_ite hm
  ·exact go_end [.res (res_Lw x0_0),zF,.res (res_Lv x0_2),zT] 1000 (J (ok_Lw p0 1048576 x0_0 h0_0) (J h0_1 (J (ok_Lv p2 x0_0 x0_2 h0_2) (J h0_3 J0)))) (congrArg res_laws_FnExactRunPlayer (qj hm)) (by kernel_rfl)
  ·obtain ⟨x0_4,h0_4,hm⟩:=bind_some hm
   obtain ⟨x0_5,h0_5,hm⟩:=bind_some hm
   obtain ⟨x0_6,h0_6,hm⟩:=bind_some hm
   obtain ⟨x0_7,h0_7,hm⟩:=bind_some hm
   obtain ⟨x0_8,h0_8,hm⟩:=bind_some hm
   obtain ⟨h0_9,hm⟩|⟨h0_9,hm⟩:=split_ite hm
   ·obtain ⟨x0_10,h0_10,hm⟩:=bind_some hm
    obtain ⟨h0_11,hm⟩|⟨h0_11,hm⟩:=split_ite hm
    ·obtain ⟨x0_12,h0_12,hm⟩:=bind_some hm
     obtain ⟨h0_13,hm⟩|⟨h0_13,hm⟩:=split_ite hm
     ·obtain ⟨x0_14,h0_14,hm⟩:=bind_some hm
      obtain ⟨x0_15,h0_15,hm⟩:=bind_some hm
      obtain ⟨x0_16,h0_16,hm⟩:=bind_some hm
      obtain ⟨x0_17,h0_17,hm⟩:=bind_some hm
      obtain ⟨x0_18,h0_18,hm⟩:=bind_some hm
      obtain ⟨h0_19,hm⟩|⟨h0_19,hm⟩:=split_ite hm
      ·exact go_end [.res (res_Lw x0_0),zF,.res (res_Lv x0_2),zF,.res (res_Lbe x0_4),zn x0_4.tracks.length,zn x0_4.packets.length,.res (res_Lbd x0_5),zn x0_5.length,.rows (List.map rS_Track x0_4.tracks),.rows (List.map rS_Packet x0_4.packets),.rows (List.map rS_Act x0_5),.res (res_Sb x0_6),zn x0_6.shows.length,.res (res_Lbe x0_4),zn x0_4.tracks.length,zn x0_4.packets.length,.res (res_Lbd x0_5),zn x0_5.length,.rows (List.map rS_Track x0_4.tracks),.rows (List.map rS_Packet x0_4.packets),.rows (List.map rS_Act x0_5),.res (res_Ib x0_7),zn x0_7.shows.length,.rows (List.map rS_Show x0_7.shows),.rows (List.map rS_Show x0_6.shows),.res (res_Lg x0_8),zF,.res (res_Lbe x0_4),zn x0_4.tracks.length,zn x0_4.packets.length,.rows (List.map rS_Track x0_4.tracks),.rows (List.map rS_Packet x0_4.packets),.rows (List.map rS_Track x0_4.tracks),.rows (List.map rS_Packet x0_4.packets),.res (res_Lc x0_10),zF,.res (res_Lbd x0_5),zn x0_5.length,.rows (List.map rS_Act x0_5),.rows (List.map rS_Act x0_5),.res (res_Lb x0_12),zF,.rows (List.map rS_Track x0_4.tracks),.rows (List.map rS_Packet x0_4.packets),.res (res_Lo x0_14),.res (res_Ln x0_17),zT,zT,zT,zT,zT,zT] 1000 (J (ok_Lw p0 1048576 x0_0 h0_0) (J h0_1 (J (ok_Lv p2 x0_0 x0_2 h0_2) (J h0_3 (J (ok_Lbe p0 x0_4 h0_4) (J (lm rS_Track x0_4.tracks) (J (lm rS_Packet x0_4.packets) (J (ok_Lbd p2 x0_5 h0_5) (J (lm rS_Act x0_5) (J (all_le rS_Track x0_4.tracks rfl) (J (all_dt rS_Track x0_4.tracks rfl) (J (all_le rS_Packet x0_4.packets rfl) (J (all_dt rS_Packet x0_4.packets rfl) (J (all_le rS_Act x0_5 rfl) (J (all_dt rS_Act x0_5 rfl) (J (ok_Sb x0_4 p1 x0_5 x0_6 h0_6) (J (lm rS_Show x0_6.shows) (J (ok_Lbe p0 x0_4 h0_4) (J (lm rS_Track x0_4.tracks) (J (lm rS_Packet x0_4.packets) (J (ok_Lbd p2 x0_5 h0_5) (J (lm rS_Act x0_5) (J (all_le rS_Track x0_4.tracks rfl) (J (all_dt rS_Track x0_4.tracks rfl) (J (all_le rS_Packet x0_4.packets rfl) (J (all_dt rS_Packet x0_4.packets rfl) (J (all_le rS_Act x0_5 rfl) (J (all_dt rS_Act x0_5 rfl) (J (ok_Ib x0_4 p1 x0_5 x0_7 h0_7) (J (lm rS_Show x0_7.shows) (J (all_le rS_Show x0_7.shows rfl) (J (all_dt rS_Show x0_7.shows rfl) (J (all_le rS_Show x0_6.shows rfl) (J (all_dt rS_Show x0_6.shows rfl) (J (ok_Lg x0_7 x0_6 x0_8 h0_8) (J (not_f h0_9) (J (ok_Lbe p0 x0_4 h0_4) (J (lm rS_Track x0_4.tracks) (J (lm rS_Packet x0_4.packets) (J (all_le rS_Track x0_4.tracks rfl) (J (all_dt rS_Track x0_4.tracks rfl) (J (all_le rS_Packet x0_4.packets rfl) (J (all_dt rS_Packet x0_4.packets rfl) (J (all_le rS_Track x0_4.tracks rfl) (J (all_dt rS_Track x0_4.tracks rfl) (J (all_le rS_Packet x0_4.packets rfl) (J (all_dt rS_Packet x0_4.packets rfl) (J (ok_Lc x0_4 x0_4 x0_10 h0_10) (J (not_f h0_11) (J (ok_Lbd p2 x0_5 h0_5) (J (lm rS_Act x0_5) (J (all_le rS_Act x0_5 rfl) (J (all_dt rS_Act x0_5 rfl) (J (all_le rS_Act x0_5 rfl) (J (all_dt rS_Act x0_5 rfl) (J (ok_Lb x0_5 x0_5 x0_12 h0_12) (J (not_f h0_13) (Ja rS_Track x0_4.tracks (Ja rS_Packet x0_4.packets (J (all_eq rS_Track x0_4.tracks rfl) (J (all_eq rS_Packet x0_4.packets rfl) (J (ok_Lo x0_4 1 x0_14 h0_14) (J (len2 rS_Track x0_14.2.tracks x0_4.tracks (ck_p h0_15)) (J (len2 rS_Packet x0_14.2.packets x0_4.packets (ck_p h0_16)) (J (all_eq rS_Act x0_5 rfl) (J (ok_Ln x0_5 x0_14.1 x0_17 h0_17) (J (len2 rS_Act x0_17.2 x0_5 (ck_p h0_18)) (J4 h0_19 (J h0_19 (J eT J0)))))))))))))))))))))))))))))))))))))))))))))))))))))))))))))))))))))) (congrArg res_laws_FnExactRunPlayer (qj hm)) (by kernel_rfl)
      ·obtain ⟨x0_20,h0_20,hm⟩:=bind_some hm
       obtain ⟨x0_21,h0_21,hm⟩:=bind_some hm
       obtain ⟨x0_22,h0_22,hm⟩:=bind_some hm
       obtain ⟨h0_23,hm⟩|⟨h0_23,hm⟩:=split_ite hm
       ·exact go_end [.res (res_Lw x0_0),zF,.res (res_Lv x0_2),zF,.res (res_Lbe x0_4),zn x0_4.tracks.length,zn x0_4.packets.length,.res (res_Lbd x0_5),zn x0_5.length,.rows (List.map rS_Track x0_4.tracks),.rows (List.map rS_Packet x0_4.packets),.rows (List.map rS_Act x0_5),.res (res_Sb x0_6),zn x0_6.shows.length,.res (res_Lbe x0_4),zn x0_4.tracks.length,zn x0_4.packets.length,.res (res_Lbd x0_5),zn x0_5.length,.rows (List.map rS_Track x0_4.tracks),.rows (List.map rS_Packet x0_4.packets),.rows (List.map rS_Act x0_5),.res (res_Ib x0_7),zn x0_7.shows.length,.rows (List.map rS_Show x0_7.shows),.rows (List.map rS_Show x0_6.shows),.res (res_Lg x0_8),zF,.res (res_Lbe x0_4),zn x0_4.tracks.length,zn x0_4.packets.length,.rows (List.map rS_Track x0_4.tracks),.rows (List.map rS_Packet x0_4.packets),.rows (List.map rS_Track x0_4.tracks),.rows (List.map rS_Packet x0_4.packets),.res (res_Lc x0_10),zF,.res (res_Lbd x0_5),zn x0_5.length,.rows (List.map rS_Act x0_5),.rows (List.map rS_Act x0_5),.res (res_Lb x0_12),zF,.rows (List.map rS_Track x0_4.tracks),.rows (List.map rS_Packet x0_4.packets),.res (res_Lo x0_14),.res (res_Ln x0_17),zF,zF,zF,.rows (List.map rS_Show x0_7.shows),.rows (List.map rS_Show x0_6.shows),.res (res_Lg x0_8),zF,zF,zF,.rows (List.map rS_Show x0_7.shows),.res (res_Lr x0_20),.rows (List.map rS_Show x0_20.2.shows),.res (res_Ll x0_22),zT] 1000 (J (ok_Lw p0 1048576 x0_0 h0_0) (J h0_1 (J (ok_Lv p2 x0_0 x0_2 h0_2) (J h0_3 (J (ok_Lbe p0 x0_4 h0_4) (J (lm rS_Track x0_4.tracks) (J (lm rS_Packet x0_4.packets) (J (ok_Lbd p2 x0_5 h0_5) (J (lm rS_Act x0_5) (J (all_le rS_Track x0_4.tracks rfl) (J (all_dt rS_Track x0_4.tracks rfl) (J (all_le rS_Packet x0_4.packets rfl) (J (all_dt rS_Packet x0_4.packets rfl) (J (all_le rS_Act x0_5 rfl) (J (all_dt rS_Act x0_5 rfl) (J (ok_Sb x0_4 p1 x0_5 x0_6 h0_6) (J (lm rS_Show x0_6.shows) (J (ok_Lbe p0 x0_4 h0_4) (J (lm rS_Track x0_4.tracks) (J (lm rS_Packet x0_4.packets) (J (ok_Lbd p2 x0_5 h0_5) (J (lm rS_Act x0_5) (J (all_le rS_Track x0_4.tracks rfl) (J (all_dt rS_Track x0_4.tracks rfl) (J (all_le rS_Packet x0_4.packets rfl) (J (all_dt rS_Packet x0_4.packets rfl) (J (all_le rS_Act x0_5 rfl) (J (all_dt rS_Act x0_5 rfl) (J (ok_Ib x0_4 p1 x0_5 x0_7 h0_7) (J (lm rS_Show x0_7.shows) (J (all_le rS_Show x0_7.shows rfl) (J (all_dt rS_Show x0_7.shows rfl) (J (all_le rS_Show x0_6.shows rfl) (J (all_dt rS_Show x0_6.shows rfl) (J (ok_Lg x0_7 x0_6 x0_8 h0_8) (J (not_f h0_9) (J (ok_Lbe p0 x0_4 h0_4) (J (lm rS_Track x0_4.tracks) (J (lm rS_Packet x0_4.packets) (J (all_le rS_Track x0_4.tracks rfl) (J (all_dt rS_Track x0_4.tracks rfl) (J (all_le rS_Packet x0_4.packets rfl) (J (all_dt rS_Packet x0_4.packets rfl) (J (all_le rS_Track x0_4.tracks rfl) (J (all_dt rS_Track x0_4.tracks rfl) (J (all_le rS_Packet x0_4.packets rfl) (J (all_dt rS_Packet x0_4.packets rfl) (J (ok_Lc x0_4 x0_4 x0_10 h0_10) (J (not_f h0_11) (J (ok_Lbd p2 x0_5 h0_5) (J (lm rS_Act x0_5) (J (all_le rS_Act x0_5 rfl) (J (all_dt rS_Act x0_5 rfl) (J (all_le rS_Act x0_5 rfl) (J (all_dt rS_Act x0_5 rfl) (J (ok_Lb x0_5 x0_5 x0_12 h0_12) (J (not_f h0_13) (Ja rS_Track x0_4.tracks (Ja rS_Packet x0_4.packets (J (all_eq rS_Track x0_4.tracks rfl) (J (all_eq rS_Packet x0_4.packets rfl) (J (ok_Lo x0_4 1 x0_14 h0_14) (J (len2 rS_Track x0_14.2.tracks x0_4.tracks (ck_p h0_15)) (J (len2 rS_Packet x0_14.2.packets x0_4.packets (ck_p h0_16)) (J (all_eq rS_Act x0_5 rfl) (J (ok_Ln x0_5 x0_14.1 x0_17 h0_17) (J (len2 rS_Act x0_17.2 x0_5 (ck_p h0_18)) (J h0_19 (J h0_19 (J h0_19 (J (all_le rS_Show x0_7.shows rfl) (J (all_dt rS_Show x0_7.shows rfl) (J (all_le rS_Show x0_6.shows rfl) (J (all_dt rS_Show x0_6.shows rfl) (J (ok_Lg x0_7 x0_6 x0_8 h0_8) (J h0_19 (J h0_19 (J (not_f h0_9) (Ja rS_Show x0_7.shows (J (all_eq rS_Show x0_7.shows rfl) (J (ok_Lr x0_7 1 x0_20 h0_20) (J (len2 rS_Show x0_20.2.shows x0_7.shows (ck_p h0_21)) (J (all_le rS_Show x0_20.2.shows (Eq.trans rfl (Eq.symm (ck_p h0_21)))) (J (all_dt rS_Show x0_20.2.shows (Eq.trans rfl (Eq.symm (ck_p h0_21)))) (J (ok_Ll (S_Played.mk x0_7.err x0_20.2.shows x0_7.wall x0_7.clock) 1 x0_22 h0_22) (J h0_23 J0)))))))))))))))))))))))))))))))))))))))))))))))))))))))))))))))))))))))))))))))))))))) (congrArg res_laws_FnExactRunPlayer (qj hm)) (by kernel_rfl)
       ·obtain ⟨h0_24,hm⟩|⟨h0_24,hm⟩:=split_ite hm
        ·exact go_end [.res (res_Lw x0_0),zF,.res (res_Lv x0_2),zF,.res (res_Lbe x0_4),zn x0_4.tracks.length,zn x0_4.packets.length,.res (res_Lbd x0_5),zn x0_5.length,.rows (List.map rS_Track x0_4.tracks),.rows (List.map rS_Packet x0_4.packets),.rows (List.map rS_Act x0_5),.res (res_Sb x0_6),zn x0_6.shows.length,.res (res_Lbe x0_4),zn x0_4.tracks.length,zn x0_4.packets.length,.res (res_Lbd x0_5),zn x0_5.length,.rows (List.map rS_Track x0_4.tracks),.rows (List.map rS_Packet x0_4.packets),.rows (List.map rS_Act x0_5),.res (res_Ib x0_7),zn x0_7.shows.length,.rows (List.map rS_Show x0_7.shows),.rows (List.map rS_Show x0_6.shows),.res (res_Lg x0_8),zF,.res (res_Lbe x0_4),zn x0_4.tracks.length,zn x0_4.packets.length,.rows (List.map rS_Track x0_4.tracks),.rows (List.map rS_Packet x0_4.packets),.rows (List.map rS_Track x0_4.tracks),.rows (List.map rS_Packet x0_4.packets),.res (res_Lc x0_10),zF,.res (res_Lbd x0_5),zn x0_5.length,.rows (List.map rS_Act x0_5),.rows (List.map rS_Act x0_5),.res (res_Lb x0_12),zF,.rows (List.map rS_Track x0_4.tracks),.rows (List.map rS_Packet x0_4.packets),.res (res_Lo x0_14),.res (res_Ln x0_17),zF,zF,zF,.rows (List.map rS_Show x0_7.shows),.rows (List.map rS_Show x0_6.shows),.res (res_Lg x0_8),zF,zF,zF,.rows (List.map rS_Show x0_7.shows),.res (res_Lr x0_20),.rows (List.map rS_Show x0_20.2.shows),.res (res_Ll x0_22),zF,zT] 1000 (J (ok_Lw p0 1048576 x0_0 h0_0) (J h0_1 (J (ok_Lv p2 x0_0 x0_2 h0_2) (J h0_3 (J (ok_Lbe p0 x0_4 h0_4) (J (lm rS_Track x0_4.tracks) (J (lm rS_Packet x0_4.packets) (J (ok_Lbd p2 x0_5 h0_5) (J (lm rS_Act x0_5) (J (all_le rS_Track x0_4.tracks rfl) (J (all_dt rS_Track x0_4.tracks rfl) (J (all_le rS_Packet x0_4.packets rfl) (J (all_dt rS_Packet x0_4.packets rfl) (J (all_le rS_Act x0_5 rfl) (J (all_dt rS_Act x0_5 rfl) (J (ok_Sb x0_4 p1 x0_5 x0_6 h0_6) (J (lm rS_Show x0_6.shows) (J (ok_Lbe p0 x0_4 h0_4) (J (lm rS_Track x0_4.tracks) (J (lm rS_Packet x0_4.packets) (J (ok_Lbd p2 x0_5 h0_5) (J (lm rS_Act x0_5) (J (all_le rS_Track x0_4.tracks rfl) (J (all_dt rS_Track x0_4.tracks rfl) (J (all_le rS_Packet x0_4.packets rfl) (J (all_dt rS_Packet x0_4.packets rfl) (J (all_le rS_Act x0_5 rfl) (J (all_dt rS_Act x0_5 rfl) (J (ok_Ib x0_4 p1 x0_5 x0_7 h0_7) (J (lm rS_Show x0_7.shows) (J (all_le rS_Show x0_7.shows rfl) (J (all_dt rS_Show x0_7.shows rfl) (J (all_le rS_Show x0_6.shows rfl) (J (all_dt rS_Show x0_6.shows rfl) (J (ok_Lg x0_7 x0_6 x0_8 h0_8) (J (not_f h0_9) (J (ok_Lbe p0 x0_4 h0_4) (J (lm rS_Track x0_4.tracks) (J (lm rS_Packet x0_4.packets) (J (all_le rS_Track x0_4.tracks rfl) (J (all_dt rS_Track x0_4.tracks rfl) (J (all_le rS_Packet x0_4.packets rfl) (J (all_dt rS_Packet x0_4.packets rfl) (J (all_le rS_Track x0_4.tracks rfl) (J (all_dt rS_Track x0_4.tracks rfl) (J (all_le rS_Packet x0_4.packets rfl) (J (all_dt rS_Packet x0_4.packets rfl) (J (ok_Lc x0_4 x0_4 x0_10 h0_10) (J (not_f h0_11) (J (ok_Lbd p2 x0_5 h0_5) (J (lm rS_Act x0_5) (J (all_le rS_Act x0_5 rfl) (J (all_dt rS_Act x0_5 rfl) (J (all_le rS_Act x0_5 rfl) (J (all_dt rS_Act x0_5 rfl) (J (ok_Lb x0_5 x0_5 x0_12 h0_12) (J (not_f h0_13) (Ja rS_Track x0_4.tracks (Ja rS_Packet x0_4.packets (J (all_eq rS_Track x0_4.tracks rfl) (J (all_eq rS_Packet x0_4.packets rfl) (J (ok_Lo x0_4 1 x0_14 h0_14) (J (len2 rS_Track x0_14.2.tracks x0_4.tracks (ck_p h0_15)) (J (len2 rS_Packet x0_14.2.packets x0_4.packets (ck_p h0_16)) (J (all_eq rS_Act x0_5 rfl) (J (ok_Ln x0_5 x0_14.1 x0_17 h0_17) (J (len2 rS_Act x0_17.2 x0_5 (ck_p h0_18)) (J h0_19 (J h0_19 (J h0_19 (J (all_le rS_Show x0_7.shows rfl) (J (all_dt rS_Show x0_7.shows rfl) (J (all_le rS_Show x0_6.shows rfl) (J (all_dt rS_Show x0_6.shows rfl) (J (ok_Lg x0_7 x0_6 x0_8 h0_8) (J h0_19 (J h0_19 (J (not_f h0_9) (Ja rS_Show x0_7.shows (J (all_eq rS_Show x0_7.shows rfl) (J (ok_Lr x0_7 1 x0_20 h0_20) (J (len2 rS_Show x0_20.2.shows x0_7.shows (ck_p h0_21)) (J (all_le rS_Show x0_20.2.shows (Eq.trans rfl (Eq.symm (ck_p h0_21)))) (J (all_dt rS_Show x0_20.2.shows (Eq.trans rfl (Eq.symm (ck_p h0_21)))) (J (ok_Ll (S_Played.mk x0_7.err x0_20.2.shows x0_7.wall x0_7.clock) 1 x0_22 h0_22) (J h0_23 (J h0_24 J0))))))))))))))))))))))))))))))))))))))))))))))))))))))))))))))))))))))))))))))))))))))) (congrArg res_laws_FnExactRunPlayer (qj hm)) (by kernel_rfl)
        ·exact go_end [.res (res_Lw x0_0),zF,.res (res_Lv x0_2),zF,.res (res_Lbe x0_4),zn x0_4.tracks.length,zn x0_4.packets.length,.res (res_Lbd x0_5),zn x0_5.length,.rows (List.map rS_Track x0_4.tracks),.rows (List.map rS_Packet x0_4.packets),.rows (List.map rS_Act x0_5),.res (res_Sb x0_6),zn x0_6.shows.length,.res (res_Lbe x0_4),zn x0_4.tracks.length,zn x0_4.packets.length,.res (res_Lbd x0_5),zn x0_5.length,.rows (List.map rS_Track x0_4.tracks),.rows (List.map rS_Packet x0_4.packets),.rows (List.map rS_Act x0_5),.res (res_Ib x0_7),zn x0_7.shows.length,.rows (List.map rS_Show x0_7.shows),.rows (List.map rS_Show x0_6.shows),.res (res_Lg x0_8),zF,.res (res_Lbe x0_4),zn x0_4.tracks.length,zn x0_4.packets.length,.rows (List.map rS_Track x0_4.tracks),.rows (List.map rS_Packet x0_4.packets),.rows (List.map rS_Track x0_4.tracks),.rows (List.map rS_Packet x0_4.packets),.res (res_Lc x0_10),zF,.res (res_Lbd x0_5),zn x0_5.length,.rows (List.map rS_Act x0_5),.rows (List.map rS_Act x0_5),.res (res_Lb x0_12),zF,.rows (List.map rS_Track x0_4.tracks),.rows (List.map rS_Packet x0_4.packets),.res (res_Lo x0_14),.res (res_Ln x0_17),zF,zF,zF,.rows (List.map rS_Show x0_7.shows),.rows (List.map rS_Show x0_6.shows),.res (res_Lg x0_8),zF,zF,zF,.rows (List.map rS_Show x0_7.shows),.res (res_Lr x0_20),.rows (List.map rS_Show x0_20.2.shows),.res (res_Ll x0_22),zF,zF,.res (res_Lbe x0_4),zn x0_4.tracks.length,zn x0_4.packets.length,.res (res_Lbd x0_5),zn x0_5.length,.rows (List.map rS_Track x0_4.tracks),.rows (List.map rS_Packet x0_4.packets),.rows (List.map rS_Act x0_5),.res (res_Ib x0_7),zn x0_7.shows.length,.rows (List.map rS_Show x0_7.shows),.rows (List.map rS_Show x0_6.shows),.res (res_Lg x0_8),zF,.rows (List.map rS_Show x0_20.2.shows),.res (res_Ll x0_22),zF,zF] 1000 (J (ok_Lw p0 1048576 x0_0 h0_0) (J h0_1 (J (ok_Lv p2 x0_0 x0_2 h0_2) (J h0_3 (J (ok_Lbe p0 x0_4 h0_4) (J (lm rS_Track x0_4.tracks) (J (lm rS_Packet x0_4.packets) (J (ok_Lbd p2 x0_5 h0_5) (J (lm rS_Act x0_5) (J (all_le rS_Track x0_4.tracks rfl) (J (all_dt rS_Track x0_4.tracks rfl) (J (all_le rS_Packet x0_4.packets rfl) (J (all_dt rS_Packet x0_4.packets rfl) (J (all_le rS_Act x0_5 rfl) (J (all_dt rS_Act x0_5 rfl) (J (ok_Sb x0_4 p1 x0_5 x0_6 h0_6) (J (lm rS_Show x0_6.shows) (J (ok_Lbe p0 x0_4 h0_4) (J (lm rS_Track x0_4.tracks) (J (lm rS_Packet x0_4.packets) (J (ok_Lbd p2 x0_5 h0_5) (J (lm rS_Act x0_5) (J (all_le rS_Track x0_4.tracks rfl) (J (all_dt rS_Track x0_4.tracks rfl) (J (all_le rS_Packet x0_4.packets rfl) (J (all_dt rS_Packet x0_4.packets rfl) (J (all_le rS_Act x0_5 rfl) (J (all_dt rS_Act x0_5 rfl) (J (ok_Ib x0_4 p1 x0_5 x0_7 h0_7) (J (lm rS_Show x0_7.shows) (J (all_le rS_Show x0_7.shows rfl) (J (all_dt rS_Show x0_7.shows rfl) (J (all_le rS_Show x0_6.shows rfl) (J (all_dt rS_Show x0_6.shows rfl) (J (ok_Lg x0_7 x0_6 x0_8 h0_8) (J (not_f h0_9) (J (ok_Lbe p0 x0_4 h0_4) (J (lm rS_Track x0_4.tracks) (J (lm rS_Packet x0_4.packets) (J (all_le rS_Track x0_4.tracks rfl) (J (all_dt rS_Track x0_4.tracks rfl) (J (all_le rS_Packet x0_4.packets rfl) (J (all_dt rS_Packet x0_4.packets rfl) (J (all_le rS_Track x0_4.tracks rfl) (J (all_dt rS_Track x0_4.tracks rfl) (J (all_le rS_Packet x0_4.packets rfl) (J (all_dt rS_Packet x0_4.packets rfl) (J (ok_Lc x0_4 x0_4 x0_10 h0_10) (J (not_f h0_11) (J (ok_Lbd p2 x0_5 h0_5) (J (lm rS_Act x0_5) (J (all_le rS_Act x0_5 rfl) (J (all_dt rS_Act x0_5 rfl) (J (all_le rS_Act x0_5 rfl) (J (all_dt rS_Act x0_5 rfl) (J (ok_Lb x0_5 x0_5 x0_12 h0_12) (J (not_f h0_13) (Ja rS_Track x0_4.tracks (Ja rS_Packet x0_4.packets (J (all_eq rS_Track x0_4.tracks rfl) (J (all_eq rS_Packet x0_4.packets rfl) (J (ok_Lo x0_4 1 x0_14 h0_14) (J (len2 rS_Track x0_14.2.tracks x0_4.tracks (ck_p h0_15)) (J (len2 rS_Packet x0_14.2.packets x0_4.packets (ck_p h0_16)) (J (all_eq rS_Act x0_5 rfl) (J (ok_Ln x0_5 x0_14.1 x0_17 h0_17) (J (len2 rS_Act x0_17.2 x0_5 (ck_p h0_18)) (J h0_19 (J h0_19 (J h0_19 (J (all_le rS_Show x0_7.shows rfl) (J (all_dt rS_Show x0_7.shows rfl) (J (all_le rS_Show x0_6.shows rfl) (J (all_dt rS_Show x0_6.shows rfl) (J (ok_Lg x0_7 x0_6 x0_8 h0_8) (J h0_19 (J h0_19 (J (not_f h0_9) (Ja rS_Show x0_7.shows (J (all_eq rS_Show x0_7.shows rfl) (J (ok_Lr x0_7 1 x0_20 h0_20) (J (len2 rS_Show x0_20.2.shows x0_7.shows (ck_p h0_21)) (J (all_le rS_Show x0_20.2.shows (Eq.trans rfl (Eq.symm (ck_p h0_21)))) (J (all_dt rS_Show x0_20.2.shows (Eq.trans rfl (Eq.symm (ck_p h0_21)))) (J (ok_Ll (S_Played.mk x0_7.err x0_20.2.shows x0_7.wall x0_7.clock) 1 x0_22 h0_22) (J h0_23 (J h0_24 (J (ok_Lbe p0 x0_4 h0_4) (J (lm rS_Track x0_4.tracks) (J (lm rS_Packet x0_4.packets) (J (ok_Lbd p2 x0_5 h0_5) (J (lm rS_Act x0_5) (J (all_le rS_Track x0_4.tracks rfl) (J (all_dt rS_Track x0_4.tracks rfl) (J (all_le rS_Packet x0_4.packets rfl) (J (all_dt rS_Packet x0_4.packets rfl) (J (all_le rS_Act x0_5 rfl) (J (all_dt rS_Act x0_5 rfl) (J (ok_Ib x0_4 p1 x0_5 x0_7 h0_7) (J (lm rS_Show x0_7.shows) (J (all_le rS_Show x0_7.shows rfl) (J (all_dt rS_Show x0_7.shows rfl) (J (all_le rS_Show x0_6.shows rfl) (J (all_dt rS_Show x0_6.shows rfl) (J (ok_Lg x0_7 x0_6 x0_8 h0_8) (J (not_f h0_9) (J (all_le rS_Show x0_20.2.shows (Eq.trans rfl (Eq.symm (ck_p h0_21)))) (J (all_dt rS_Show x0_20.2.shows (Eq.trans rfl (Eq.symm (ck_p h0_21)))) (J (ok_Ll (S_Played.mk x0_7.err x0_20.2.shows x0_7.wall x0_7.clock) 1 x0_22 h0_22) (J h0_23 (J h0_24 J0))))))))))))))))))))))))))))))))))))))))))))))))))))))))))))))))))))))))))))))))))))))))))))))))))))))))))))))) (congrArg res_laws_FnExactRunPlayer (qj hm)) (by kernel_rfl)
     ·exact go_end [.res (res_Lw x0_0),zF,.res (res_Lv x0_2),zF,.res (res_Lbe x0_4),zn x0_4.tracks.length,zn x0_4.packets.length,.res (res_Lbd x0_5),zn x0_5.length,.rows (List.map rS_Track x0_4.tracks),.rows (List.map rS_Packet x0_4.packets),.rows (List.map rS_Act x0_5),.res (res_Sb x0_6),zn x0_6.shows.length,.res (res_Lbe x0_4),zn x0_4.tracks.length,zn x0_4.packets.length,.res (res_Lbd x0_5),zn x0_5.length,.rows (List.map rS_Track x0_4.tracks),.rows (List.map rS_Packet x0_4.packets),.rows (List.map rS_Act x0_5),.res (res_Ib x0_7),zn x0_7.shows.length,.rows (List.map rS_Show x0_7.shows),.rows (List.map rS_Show x0_6.shows),.res (res_Lg x0_8),zF,.res (res_Lbe x0_4),zn x0_4.tracks.length,zn x0_4.packets.length,.rows (List.map rS_Track x0_4.tracks),.rows (List.map rS_Packet x0_4.packets),.rows (List.map rS_Track x0_4.tracks),.rows (List.map rS_Packet x0_4.packets),.res (res_Lc x0_10),zF,.res (res_Lbd x0_5),zn x0_5.length,.rows (List.map rS_Act x0_5),.rows (List.map rS_Act x0_5),.res (res_Lb x0_12),zT] 1000 (J (ok_Lw p0 1048576 x0_0 h0_0) (J h0_1 (J (ok_Lv p2 x0_0 x0_2 h0_2) (J h0_3 (J (ok_Lbe p0 x0_4 h0_4) (J (lm rS_Track x0_4.tracks) (J (lm rS_Packet x0_4.packets) (J (ok_Lbd p2 x0_5 h0_5) (J (lm rS_Act x0_5) (J (all_le rS_Track x0_4.tracks rfl) (J (all_dt rS_Track x0_4.tracks rfl) (J (all_le rS_Packet x0_4.packets rfl) (J (all_dt rS_Packet x0_4.packets rfl) (J (all_le rS_Act x0_5 rfl) (J (all_dt rS_Act x0_5 rfl) (J (ok_Sb x0_4 p1 x0_5 x0_6 h0_6) (J (lm rS_Show x0_6.shows) (J (ok_Lbe p0 x0_4 h0_4) (J (lm rS_Track x0_4.tracks) (J (lm rS_Packet x0_4.packets) (J (ok_Lbd p2 x0_5 h0_5) (J (lm rS_Act x0_5) (J (all_le rS_Track x0_4.tracks rfl) (J (all_dt rS_Track x0_4.tracks rfl) (J (all_le rS_Packet x0_4.packets rfl) (J (all_dt rS_Packet x0_4.packets rfl) (J (all_le rS_Act x0_5 rfl) (J (all_dt rS_Act x0_5 rfl) (J (ok_Ib x0_4 p1 x0_5 x0_7 h0_7) (J (lm rS_Show x0_7.shows) (J (all_le rS_Show x0_7.shows rfl) (J (all_dt rS_Show x0_7.shows rfl) (J (all_le rS_Show x0_6.shows rfl) (J (all_dt rS_Show x0_6.shows rfl) (J (ok_Lg x0_7 x0_6 x0_8 h0_8) (J (not_f h0_9) (J (ok_Lbe p0 x0_4 h0_4) (J (lm rS_Track x0_4.tracks) (J (lm rS_Packet x0_4.packets) (J (all_le rS_Track x0_4.tracks rfl) (J (all_dt rS_Track x0_4.tracks rfl) (J (all_le rS_Packet x0_4.packets rfl) (J (all_dt rS_Packet x0_4.packets rfl) (J (all_le rS_Track x0_4.tracks rfl) (J (all_dt rS_Track x0_4.tracks rfl) (J (all_le rS_Packet x0_4.packets rfl) (J (all_dt rS_Packet x0_4.packets rfl) (J (ok_Lc x0_4 x0_4 x0_10 h0_10) (J (not_f h0_11) (J (ok_Lbd p2 x0_5 h0_5) (J (lm rS_Act x0_5) (J (all_le rS_Act x0_5 rfl) (J (all_dt rS_Act x0_5 rfl) (J (all_le rS_Act x0_5 rfl) (J (all_dt rS_Act x0_5 rfl) (J (ok_Lb x0_5 x0_5 x0_12 h0_12) (J (not_t h0_13) J0))))))))))))))))))))))))))))))))))))))))))))))))))))))))) (congrArg res_laws_FnExactRunPlayer (qj hm)) (by kernel_rfl)
    ·exact go_end [.res (res_Lw x0_0),zF,.res (res_Lv x0_2),zF,.res (res_Lbe x0_4),zn x0_4.tracks.length,zn x0_4.packets.length,.res (res_Lbd x0_5),zn x0_5.length,.rows (List.map rS_Track x0_4.tracks),.rows (List.map rS_Packet x0_4.packets),.rows (List.map rS_Act x0_5),.res (res_Sb x0_6),zn x0_6.shows.length,.res (res_Lbe x0_4),zn x0_4.tracks.length,zn x0_4.packets.length,.res (res_Lbd x0_5),zn x0_5.length,.rows (List.map rS_Track x0_4.tracks),.rows (List.map rS_Packet x0_4.packets),.rows (List.map rS_Act x0_5),.res (res_Ib x0_7),zn x0_7.shows.length,.rows (List.map rS_Show x0_7.shows),.rows (List.map rS_Show x0_6.shows),.res (res_Lg x0_8),zF,.res (res_Lbe x0_4),zn x0_4.tracks.length,zn x0_4.packets.length,.rows (List.map rS_Track x0_4.tracks),.rows (List.map rS_Packet x0_4.packets),.rows (List.map rS_Track x0_4.tracks),.rows (List.map rS_Packet x0_4.packets),.res (res_Lc x0_10),zT] 1000 (J (ok_Lw p0 1048576 x0_0 h0_0) (J h0_1 (J (ok_Lv p2 x0_0 x0_2 h0_2) (J h0_3 (J (ok_Lbe p0 x0_4 h0_4) (J (lm rS_Track x0_4.tracks) (J (lm rS_Packet x0_4.packets) (J (ok_Lbd p2 x0_5 h0_5) (J (lm rS_Act x0_5) (J (all_le rS_Track x0_4.tracks rfl) (J (all_dt rS_Track x0_4.tracks rfl) (J (all_le rS_Packet x0_4.packets rfl) (J (all_dt rS_Packet x0_4.packets rfl) (J (all_le rS_Act x0_5 rfl) (J (all_dt rS_Act x0_5 rfl) (J (ok_Sb x0_4 p1 x0_5 x0_6 h0_6) (J (lm rS_Show x0_6.shows) (J (ok_Lbe p0 x0_4 h0_4) (J (lm rS_Track x0_4.tracks) (J (lm rS_Packet x0_4.packets) (J (ok_Lbd p2 x0_5 h0_5) (J (lm rS_Act x0_5) (J (all_le rS_Track x0_4.tracks rfl) (J (all_dt rS_Track x0_4.tracks rfl) (J (all_le rS_Packet x0_4.packets rfl) (J (all_dt rS_Packet x0_4.packets rfl) (J (all_le rS_Act x0_5 rfl) (J (all_dt rS_Act x0_5 rfl) (J (ok_Ib x0_4 p1 x0_5 x0_7 h0_7) (J (lm rS_Show x0_7.shows) (J (all_le rS_Show x0_7.shows rfl) (J (all_dt rS_Show x0_7.shows rfl) (J (all_le rS_Show x0_6.shows rfl) (J (all_dt rS_Show x0_6.shows rfl) (J (ok_Lg x0_7 x0_6 x0_8 h0_8) (J (not_f h0_9) (J (ok_Lbe p0 x0_4 h0_4) (J (lm rS_Track x0_4.tracks) (J (lm rS_Packet x0_4.packets) (J (all_le rS_Track x0_4.tracks rfl) (J (all_dt rS_Track x0_4.tracks rfl) (J (all_le rS_Packet x0_4.packets rfl) (J (all_dt rS_Packet x0_4.packets rfl) (J (all_le rS_Track x0_4.tracks rfl) (J (all_dt rS_Track x0_4.tracks rfl) (J (all_le rS_Packet x0_4.packets rfl) (J (all_dt rS_Packet x0_4.packets rfl) (J (ok_Lc x0_4 x0_4 x0_10 h0_10) (J (not_t h0_11) J0))))))))))))))))))))))))))))))))))))))))))))))))) (congrArg res_laws_FnExactRunPlayer (qj hm)) (by kernel_rfl)
   ·exact go_end [.res (res_Lw x0_0),zF,.res (res_Lv x0_2),zF,.res (res_Lbe x0_4),zn x0_4.tracks.length,zn x0_4.packets.length,.res (res_Lbd x0_5),zn x0_5.length,.rows (List.map rS_Track x0_4.tracks),.rows (List.map rS_Packet x0_4.packets),.rows (List.map rS_Act x0_5),.res (res_Sb x0_6),zn x0_6.shows.length,.res (res_Lbe x0_4),zn x0_4.tracks.length,zn x0_4.packets.length,.res (res_Lbd x0_5),zn x0_5.length,.rows (List.map rS_Track x0_4.tracks),.rows (List.map rS_Packet x0_4.packets),.rows (List.map rS_Act x0_5),.res (res_Ib x0_7),zn x0_7.shows.length,.rows (List.map rS_Show x0_7.shows),.rows (List.map rS_Show x0_6.shows),.res (res_Lg x0_8),zT] 1000 (J (ok_Lw p0 1048576 x0_0 h0_0) (J h0_1 (J (ok_Lv p2 x0_0 x0_2 h0_2) (J h0_3 (J (ok_Lbe p0 x0_4 h0_4) (J (lm rS_Track x0_4.tracks) (J (lm rS_Packet x0_4.packets) (J (ok_Lbd p2 x0_5 h0_5) (J (lm rS_Act x0_5) (J (all_le rS_Track x0_4.tracks rfl) (J (all_dt rS_Track x0_4.tracks rfl) (J (all_le rS_Packet x0_4.packets rfl) (J (all_dt rS_Packet x0_4.packets rfl) (J (all_le rS_Act x0_5 rfl) (J (all_dt rS_Act x0_5 rfl) (J (ok_Sb x0_4 p1 x0_5 x0_6 h0_6) (J (lm rS_Show x0_6.shows) (J (ok_Lbe p0 x0_4 h0_4) (J (lm rS_Track x0_4.tracks) (J (lm rS_Packet x0_4.packets) (J (ok_Lbd p2 x0_5 h0_5) (J (lm rS_Act x0_5) (J (all_le rS_Track x0_4.tracks rfl) (J (all_dt rS_Track x0_4.tracks rfl) (J (all_le rS_Packet x0_4.packets rfl) (J (all_dt rS_Packet x0_4.packets rfl) (J (all_le rS_Act x0_5 rfl) (J (all_dt rS_Act x0_5 rfl) (J (ok_Ib x0_4 p1 x0_5 x0_7 h0_7) (J (lm rS_Show x0_7.shows) (J (all_le rS_Show x0_7.shows rfl) (J (all_dt rS_Show x0_7.shows rfl) (J (all_le rS_Show x0_6.shows rfl) (J (all_dt rS_Show x0_6.shows rfl) (J (ok_Lg x0_7 x0_6 x0_8 h0_8) (J (not_t h0_9) J0)))))))))))))))))))))))))))))))))))) (congrArg res_laws_FnExactRunPlayer (qj hm)) (by kernel_rfl)
theorem ok_laws_FnExactRunPlayer (p0:S_Box) (p1:Int) (p2:(List S_Act)) (r:Bool) (hm:m_laws_FnExactRunPlayer p0 p1 p2=some r):Runs ext tbl 8 (as_laws_FnExactRunPlayer p0 p1 p2) (res_laws_FnExactRunPlayer r):=
 runs_of (vf:=vf_laws_FnExactRunPlayer) (by kernel_rfl) rfl (st:=(enter vf_laws_FnExactRunPlayer (as_laws_FnExactRunPlayer p0 p1 p2)).getD default) (by kernel_rfl) (go_on [] 1000 J0 (ok_laws_FnExactRunPlayer_0 p0 p1 p2 r hm) (by kernel_rfl))
end Go.Proofs.V

namespace Go.Proofs.V
open Go
def rS_Box (x:S_Box):List T:=[.sl (x.tracks.map rS_Track),.sl (x.packets.map rS_Packet)]
theorem dec_S_Track:Dec [.int .i64,.int .i64,.str] rS_Track wfS_Track:=by
 intro ts h
 obtain ⟨⟨a0,a1,a2,_⟩,rfl,w0,w1,w2,_⟩ :=(dec_app (dec_int .i64) (dec_app (dec_int .i64) (dec_app dec_str dec_nil))) ts h
 exact ⟨⟨a0,a1,a2⟩,rfl,w0,w1,w2,trivial⟩
theorem dec_S_Packet:Dec [.int .i64,.int .i64,.int .i64,.bool,.sl [.int .u8]] rS_Packet wfS_Packet:=by
 intro ts h
 obtain ⟨⟨a0,a1,a2,a3,a4,_⟩,rfl,w0,w1,w2,w3,w4,_⟩ :=(dec_app (dec_int .i64) (dec_app (dec_int .i64) (dec_app (dec_int .i64) (dec_app dec_bool (dec_app (dec_sl (dec_int .u8)) dec_nil))))) ts h
 exact ⟨⟨a0,a1,a2,a3,a4⟩,rfl,w0,w1,w2,w3,w4,trivial⟩
theorem dec_S_Box:Dec [.sl [.int .i64,.int .i64,.str],.sl [.int .i64,.int .i64,.int .i64,.bool,.sl [.int .u8]]] rS_Box wfS_Box:=by
 intro ts h
 obtain ⟨⟨a0,a1,_⟩,rfl,w0,w1,_⟩ :=(dec_app (dec_sl dec_S_Track) (dec_app (dec_sl dec_S_Packet) dec_nil)) ts h
 exact ⟨⟨a0,a1⟩,rfl,w0,w1,trivial⟩
theorem dec_S_Act:Dec [.int .i64,.int .i64] rS_Act wfS_Act:=by
 intro ts h
 obtain ⟨⟨a0,a1,_⟩,rfl,w0,w1,_⟩ :=(dec_app (dec_int .i64) (dec_app (dec_int .i64) dec_nil)) ts h
 exact ⟨⟨a0,a1⟩,rfl,w0,w1,trivial⟩
theorem all_fi:∀ x ∈ tblL,x.2.given=false→funcIs Go.Proofs.Try.prog tbl x.1 x.2=true:=by
 simp only [tblL,List.forall_mem_cons]
 exact ⟨(fun _=>fi_Lba),(fun _=>fi_Lbb),(fun _=>fi_Lx),(fun _=>fi_Ly),(fun _=>fi_Lz),(fun _=>fi_Lw),(fun _=>fi_Lv),(fun _=>fi_Lbi),(fun _=>fi_Lbj),(fun _=>fi_Lbf),(fun _=>fi_Lbg),(fun _=>fi_Lbh),(fun _=>fi_Lbe),(fun _=>fi_Lbc),(fun _=>fi_Lbd),(fun _=>fi_Sc),(fun _=>fi_Sg),(fun _=>fi_Sh),(fun _=>fi_Sf),(fun _=>fi_Se),(fun _=>fi_Sd),(fun _=>fi_Sa),(fun _=>fi_Si),(fun _=>fi_Sj),(fun _=>fi_Sm),(fun _=>fi_Sl),(fun _=>fi_Sk),(fun _=>fi_Sn),(fun _=>fi_So),(fun _=>fi_Sp),(fun _=>fi_Sb),(fun _=>fi_Il),(fun _=>fi_Ik),(fun _=>fi_Ij),(fun _=>fi_If),(fun _=>fi_Ia),(fun _=>fi_Id),(fun _=>fi_Ic),(fun _=>fi_Ie),(fun _=>fi_Ig),(fun _=>fi_Ih),(fun _=>fi_Ii),(fun _=>fi_Ib),(fun _=>fi_Lh),(fun _=>fi_Li),(fun _=>fi_Lg),(fun _=>fi_Lj),(fun _=>fi_Lk),(fun _=>fi_Ld),(fun _=>fi_Le),(fun _=>fi_Lf),(fun _=>fi_Lc),(fun _=>fi_La),(fun _=>fi_Lb),(fun _=>fi_Lt),(fun _=>fi_Lu),(fun _=>fi_Lp),(fun _=>fi_Lq),(fun _=>fi_Lo),(fun _=>fi_Ln),(fun _=>fi_Ls),(fun _=>fi_Lr),(fun _=>fi_Lm),(fun _=>fi_Ll),(fun _=>fi_laws_FnExactRunPlayer),fun _ h=>by cases h⟩
theorem all_given:∀ x ∈ tblL,x.2.given=true→∀ ars res st0,enter x.2 ars=some st0→ext x.1 ars=some res→callable Go.Proofs.Try.prog x.1=true∧Does gI Go.Proofs.Try.prog x.1 x.2 st0 res:=by
 simp only [tblL,List.forall_mem_cons]
 exact ⟨(fun h=>by cases h),(fun h=>by cases h),(fun h=>by cases h),(fun h=>by cases h),(fun h=>by cases h),(fun h=>by cases h),(fun h=>by cases h),(fun h=>by cases h),(fun h=>by cases h),(fun h=>by cases h),(fun h=>by cases h),(fun h=>by cases h),(fun h=>by cases h),(fun h=>by cases h),(fun h=>by cases h),(fun h=>by cases h),(fun h=>by cases h),(fun h=>by cases h),(fun h=>by cases h),(fun h=>by cases h),(fun h=>by cases h),(fun h=>by cases h),(fun h=>by cases h),(fun h=>by cases h),(fun h=>by cases h),(fun h=>by cases h),(fun h=>by cases h),(fun h=>by cases h),(fun h=>by cases h),(fun h=>by cases h),(fun h=>by cases h),(fun h=>by cases h),(fun h=>by cases h),(fun h=>by cases h),(fun h=>by cases h),(fun h=>by cases h),(fun h=>by cases h),(fun h=>by cases h),(fun h=>by cases h),(fun h=>by cases h),(fun h=>by cases h),(fun h=>by cases h),(fun h=>by cases h),(fun h=>by cases h),(fun h=>by cases h),(fun h=>by cases h),(fun h=>by cases h),(fun h=>by cases h),(fun h=>by cases h),(fun h=>by cases h),(fun h=>by cases h),(fun h=>by cases h),(fun h=>by cases h),(fun h=>by cases h),(fun h=>by cases h),(fun h=>by cases h),(fun h=>by cases h),(fun h=>by cases h),(fun h=>by cases h),(fun h=>by cases h),(fun h=>by cases h),(fun h=>by cases h),(fun h=>by cases h),(fun h=>by cases h),(fun h=>by cases h),fun _ h=>by cases h⟩
theorem sound:∀ n,FSound gI Go.Proofs.Try.prog tbl (vrun ext tbl n):=table_sound (fun _=>rfl) ext all_given all_fi
def lawPs:List (Bool×List Ty):=[(true,[.sl [.int .i64,.int .i64,.str],.sl [.int .i64,.int .i64,.int .i64,.bool,.sl [.int .u8]]]),(false,[.int .i64]),(false,[.sl [.int .i64,.int .i64]])]
theorem pure_law:LawPure ext tbl 8 lawPs:=by
 intro tss hl hw
 match tss,hl with
 | [t0,t1,t2],_=>
  obtain ⟨x0,rfl,w0⟩ :=dec_S_Box t0 (hw 0 _ t0 rfl rfl)
  obtain ⟨x1,rfl,w1⟩ :=(dec_int .i64) t1 (hw 1 _ t1 rfl rfl)
  obtain ⟨x2,rfl,w2⟩ :=(dec_sl dec_S_Act) t2 (hw 2 _ t2 rfl rfl)
  exact ok_laws_FnExactRunPlayer x0 x1 x2 true (final_FnExactRunPlayer x0 w0 x1 w1 x2 w2)
end Go.Proofs.V
