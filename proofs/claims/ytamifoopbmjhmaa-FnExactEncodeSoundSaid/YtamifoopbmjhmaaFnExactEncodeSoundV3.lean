import Derived.Test.YtamifoopbmjhmaaFnExactEncodeSoundV2
import Derived.KernelRfl
import Derived.Test.YtamifoopbmjhmaaProg
set_option linter.unusedSimpArgs false
set_option linter.unusedVariables false
namespace Go.Proofs.V
open Go
abbrev BS:=List Int×Nat
def grow (s:BS):List Int:=if s.2 % 8=0 then s.1++[0] else s.1
def bitS (v:Bool) (s:BS):BS:=(if v then (grow s).set (s.2 / 8) (orI .u8 ((grow s).getD (s.2 / 8) 0) (shlI .u8 1 ((7 - s.2 % 8:Nat):Int))) else grow s,s.2+1)
def bitAt (v:Int) (j:Nat):Bool:=andI .u64 (shrI .u64 v (j:Int)) 1 == 1
def putS:Nat→Int→BS→BS
 | 0,_,s=>s
 | k+1,v,s=>putS k v (bitS (bitAt v k) s)
def zerosS:Nat→BS→BS
 | 0,s=>s
 | q+1,s=>zerosS q (bitS false s)
def WB (s:BS):Prop:=s.1.length=(s.2+7) / 8∧(∀ x ∈ s.1,0≤x∧x≤255)∧s.2≤35184372088832
theorem wu8_range (x:Int):0≤wr .u8 x∧wr .u8 x≤255:=by rw [wu8_eq];omega
theorem orI_range (a b:Int):0≤orI .u8 a b∧orI .u8 a b≤255:=wu8_range _
theorem wrap_u8_id (x:Int) (h:0≤x∧x≤255):IntKind.u8.wrap x=x:=IntWalk.u8_in x h
theorem orI_zero {a:Int} (h:0≤a∧a≤255):orI .u8 a 0=a:=by
 unfold orI
 have:(BitVec.ofInt IntKind.u8.bits a ||| BitVec.ofInt IntKind.u8.bits 0).toNat=a.toNat:=by
  show (BitVec.ofInt 8 a ||| 0#8).toNat=a.toNat
  rw [BitVec.or_zero]
  simp [BitVec.toNat_ofInt]
  omega
 rw [this]
 rw [wrap_u8_id _ (by omega)]
 omega
theorem shl_zero (j:Int):shlI .u8 0 j=0:=by
 unfold shlI
 rw [Int.zero_mul]
 rfl
theorem and_one (x:Int):andI .u64 x 1=0∨andI .u64 x 1=1:=by
 unfold andI
 have h:(BitVec.ofInt IntKind.u64.bits x &&& BitVec.ofInt IntKind.u64.bits 1).toNat≤1:=by
  rw [BitVec.toNat_and]
  exact Nat.le_trans Nat.and_le_right (by decide)
 generalize (BitVec.ofInt IntKind.u64.bits x &&& BitVec.ofInt IntKind.u64.bits 1).toNat=y at h
 have:y=0∨y=1:=by omega
 rcases this with rfl | rfl
 ·exact .inl rfl
 ·exact .inr rfl
theorem grow_len {s:BS} (h:WB s):(grow s).length=s.2 / 8+1:=by
 obtain ⟨h1,_,_⟩ :=h
 unfold grow
 split
 ·simp;omega
 ·omega
theorem grow_range {s:BS} (h:WB s):∀ x ∈ grow s,0≤x∧x≤255:=by
 intro x hx
 unfold grow at hx
 split at hx
 ·simp at hx
  rcases hx with hx | rfl
  ·exact h.2.1 x hx
  ·omega
 ·exact h.2.1 x hx
theorem bitS_wb {s:BS} (h:WB s) (v:Bool) (hn:s.2+1≤35184372088832):WB (bitS v s):=by
 have hl:=grow_len h
 have hr:=grow_range h
 refine ⟨?_,?_,hn⟩
 ·cases v <;> simp [bitS,hl] <;> omega
 ·intro x hx
  cases v with
  | false=>simp [bitS] at hx;exact hr x hx
  | true=>
   simp only [bitS,if_true] at hx
   rcases List.mem_or_eq_of_mem_set hx with hx | rfl
   ·exact hr x hx
   ·exact orI_range _ _
theorem putS_n:∀ (k:Nat) (v:Int) (s:BS),(putS k v s).2=s.2+k
 | 0,v,s=>rfl
 | k+1,v,s=>by rw [putS,putS_n k];simp [bitS];omega
theorem putS_wb:∀ (k:Nat) (v:Int) (s:BS),WB s→s.2+k≤35184372088832→WB (putS k v s)
 | 0,v,s,h,_=>h
 | k+1,v,s,h,hn=>putS_wb k v _ (bitS_wb h _ (by omega)) (by simp [bitS];omega)
theorem zerosS_n:∀ (k:Nat) (s:BS),(zerosS k s).2=s.2+k
 | 0,s=>rfl
 | k+1,s=>by rw [zerosS,zerosS_n k];simp [bitS];omega
theorem zerosS_wb:∀ (k:Nat) (s:BS),WB s→s.2+k≤35184372088832→WB (zerosS k s)
 | 0,s,h,_=>h
 | k+1,s,h,hn=>zerosS_wb k _ (bitS_wb h _ (by omega)) (by simp [bitS];omega)
abbrev sinkOf (s:BS):Zb:=⟨true,s.1,s.2⟩
abbrev zOf (s:BS):Zd:=⟨s.1,s.2⟩
theorem div8 {n:Nat} (h:n≤35184372088832):w64 (Int.tdiv (n:Int) 8)=((n / 8:Nat):Int):=by
 rw [Int.tdiv_eq_ediv_of_nonneg (by omega),w64_id (by omega) (by omega)]
 omega
theorem mod8 (n:Nat):Int.tmod (n:Int) 8=((n % 8:Nat):Int):=by
 rw [Int.tmod_eq_emod_of_nonneg (by omega)]
 omega
theorem spec_bit (s:BS) (x:Int) (v:Bool) (hx:x=0∧v=false∨x=1∧v=true) (h:WB s) (hn:s.2+1≤35184372088832):m_So (sinkOf s) x=some (sinkOf (bitS v s)):=by
 have hl:=grow_len h
 have key:m_So_6 x (sinkOf s) (grow s)=some (sinkOf (bitS v s)):=by
  unfold m_So_6
  have hs2:w64 ((sinkOf s).n+1)=((s.2+1:Nat):Int):=by
   simp only [sinkOf];exact w64_succ (by omega)
  rcases hx with ⟨rfl,rfl⟩ | ⟨rfl,rfl⟩
  ·rw [if_neg (by decide),hs2]
   rfl
  ·rw [if_pos (by decide),if_pos (by rfl)]
   unfold m_So_18
   rw [hs2]
   simp only [sinkOf]
   rw [div8 (by omega),mod8,rd_eq (by omega)]
   simp only [Option.bind_some]
   have e1:wr .u64 (7 - wr .u64 ((s.2 % 8:Nat):Int))=((7 - s.2 % 8:Nat):Int):=by
    rw [wu64_id (x:=((s.2 % 8:Nat):Int)) (by omega) (by omega),wu64_id (by omega) (by omega)]
    omega
   rw [e1,ck_eq (by omega)]
   simp only [Option.bind_some,Nat.zero_add,Int.toNat_natCast,bitS,if_true]
   rw [List.getD_eq_getElem?_getD,List.getElem?_eq_getElem (by omega),Option.getD_some]
 unfold m_So m_So_0
 simp only [sinkOf] at key ⊢
 rw [mod8]
 unfold grow at key
 split at key
 ·rename_i h8
  rw [if_pos (by simp [h8]),ck_eq (by have:=h.1;simp;omega)]
  exact key
 ·rename_i h8
  rw [if_neg (by simp;omega)]
  exact key
theorem impl_bit (s:BS) (x:Int) (v:Bool) (hx:x=0∧v=false∨x=1∧v=true) (h:WB s) (hn:s.2+1≤35184372088832):m_Ii (zOf s) x=some (zOf (bitS v s)):=by
 have hl:=grow_len h
 have hr:=grow_range h
 have key:m_Ii_6 x (zOf s) (grow s)=some (zOf (bitS v s)):=by
  unfold m_Ii_6
  have hs2:w64 ((zOf s).n+1)=((s.2+1:Nat):Int):=by
   simp only [zOf];exact w64_succ (by omega)
  rw [hs2]
  simp only [zOf]
  rw [div8 (by omega),mod8,rd_eq (by omega)]
  simp only [Option.bind_some]
  have e1:w64 (7 - ((s.2 % 8:Nat):Int))=((7 - s.2 % 8:Nat):Int):=by
   rw [w64_id (by omega) (by omega)]
   omega
  rw [e1,ck_eq (by omega)]
  simp only [Option.bind_some,Nat.zero_add,Int.toNat_natCast]
  rcases hx with ⟨rfl,rfl⟩ | ⟨rfl,rfl⟩
  ·have e2:wr .u8 0=0:=rfl
   rw [e2,shl_zero,orI_zero (hr _ (by simp))]
   simp [bitS]
  ·have e2:wr .u8 1=1:=rfl
   rw [e2]
   simp only [bitS,if_true]
   rw [List.getD_eq_getElem?_getD,List.getElem?_eq_getElem (by omega),Option.getD_some]
 unfold m_Ii m_Ii_0
 simp only [zOf] at key ⊢
 rw [mod8]
 unfold grow at key
 split at key
 ·rename_i h8
  rw [if_pos (by simp [h8]),ck_eq (by have:=h.1;simp;omega)]
  exact key
 ·rename_i h8
  rw [if_neg (by simp;omega)]
  exact key
theorem bitAt_cases (v:Int) (j:Nat):andI .u64 (shrI .u64 v (j:Int)) 1=0∧bitAt v j=false∨andI .u64 (shrI .u64 v (j:Int)) 1=1∧bitAt v j=true:=by
 unfold bitAt
 rcases and_one (shrI .u64 v (j:Int)) with h | h
 ·left;rw [h];exact ⟨rfl,rfl⟩
 ·right;rw [h];exact ⟨rfl,rfl⟩
theorem spec_put (k:Nat) (v:Int) (s:BS) (h:WB s) (hk:k≤64) (hn:s.2+k≤35184372088832):m_Sr (sinkOf s) k v=some (sinkOf (putS k v s)):=by
 simp only [m_Sr,m_Sr_0]
 have key:∀ (d i:Nat) (s:BS),i+d=k→WB s→s.2+d≤35184372088832→loopM (lp_Sr_4 k v) ((i:Int),true,(s.2:Int),s.1)=some (sinkOf (putS d v s)):=by
  intro d
  induction d with
  | zero=>
   intro i s hi hw hb
   rw [loopM_eq]
   simp only [lp_Sr_4,m_Sr_4]
   rw [if_neg (by simp;omega)]
   rfl
  | succ d ih=>
   intro i s hi hw hb
   rw [loopM_eq]
   simp only [lp_Sr_4,m_Sr_4]
   rw [if_pos (by simp;omega)]
   simp only [if_true,m_Sr_20]
   have e1:wr .u64 (w64 (w64 ((k:Int) - 1) - (i:Int)))=(d:Int):=by
    rw [w64_id (x:=(k:Int) - 1) (by omega) (by omega),w64_id (by omega) (by omega),wu64_id (by omega) (by omega)]
    omega
   rw [e1,ck_eq (by omega)]
   simp only [Option.bind_some]
   have hb1:=spec_bit s (andI .u64 (shrI .u64 v (d:Int)) 1) (bitAt v d) (bitAt_cases v d) hw (by omega)
   simp only [sinkOf] at hb1
   rw [hb1]
   simp only [Option.bind_some]
   rw [w64_succ (by omega)]
   exact ih (i+1) (bitS (bitAt v d) s) (by omega) (bitS_wb hw _ (by omega)) (by simp [bitS];omega)
 have:=key k 0 s (by omega) h hn
 rw [show (((0:Nat):Int))=0 from rfl] at this
 simp only [sinkOf] at this ⊢
 rw [this]
 rfl
theorem impl_put (k:Nat) (v:Int) (s:BS) (h:WB s) (hk:k≤64) (hn:s.2+k≤35184372088832):m_Ij (zOf s) k v=some (zOf (putS k v s)):=by
 simp only [m_Ij,m_Ij_0]
 have key:∀ (d:Nat) (s:BS),d≤64→WB s→s.2+d≤35184372088832→loopM (lp_Ij_4 v) ((d:Int) - 1,(s.2:Int),s.1)=some (zOf (putS d v s)):=by
  intro d
  induction d with
  | zero=>
   intro s hi hw hb
   rw [loopM_eq]
   simp only [lp_Ij_4,m_Ij_4]
   rw [if_neg (by simp)]
   rfl
  | succ d ih=>
   intro s hi hw hb
   rw [loopM_eq]
   have e0:((d+1:Nat):Int) - 1=(d:Int):=by omega
   simp only [lp_Ij_4,m_Ij_4,e0]
   rw [if_pos (by simp),ck_eq (by omega)]
   simp only [Option.bind_some]
   have e1:w64 (andI .u64 (shrI .u64 v (d:Int)) 1)=andI .u64 (shrI .u64 v (d:Int)) 1:=by
    rcases and_one (shrI .u64 v (d:Int)) with h | h <;> rw [h] <;> rfl
   rw [e1]
   have hb1:=impl_bit s (andI .u64 (shrI .u64 v (d:Int)) 1) (bitAt v d) (bitAt_cases v d) hw (by omega)
   simp only [zOf] at hb1
   rw [hb1]
   simp only [Option.bind_some]
   rw [w64_id (by omega) (by omega)]
   exact ih (bitS (bitAt v d) s) (by omega) (bitS_wb hw _ (by omega)) (by simp [bitS];omega)
 have:=key k s hk h hn
 rw [w64_id (by omega) (by omega)]
 simp only [zOf] at this ⊢
 rw [this]
 rfl
def foldS (n:Int):Int:=if n < 0 then -2*n - 1 else 2*n
theorem foldS_range {n:Int} (h1 : -268435456≤n) (h2:n≤268435455):0≤foldS n∧foldS n≤536870911:=by unfold foldS;split <;> omega
theorem spec_fold {n:Int} (h1 : -268435456≤n) (h2:n≤268435455):m_Sc n=some (foldS n):=by
 simp only [m_Sc,m_Sc_0,foldS,decide_eq_true_eq]
 split
 ·rw [w64_id (x:=n+1) (by omega) (by omega),w64_id (by omega) (by omega),wu64_id (x:=0 - (n+1)) (by omega) (by omega),wu64_id (x:=2*(0 - (n+1))) (by omega) (by omega),wu64_id (by omega) (by omega)]
  congr 1;omega
 ·rw [wu64_id (x:=n) (by omega) (by omega),wu64_id (by omega) (by omega)]
theorem xor_ones (x:Nat) (h:x < 2 ^ 64):(BitVec.ofNat 64 x ^^^ BitVec.allOnes 64).toNat=2 ^ 64 - 1 - x:=by
 rw [BitVec.xor_allOnes,BitVec.toNat_not,BitVec.toNat_ofNat,Nat.mod_eq_of_lt h]
theorem impl_fold {n:Int} (h1 : -268435456≤n) (h2:n≤268435455):m_Id n=some (foldS n):=by
 simp only [m_Id,m_Id_0]
 have e1:shlI .u64 (wr .u64 n) 1=wr .u64 (2*wr .u64 n):=by
  unfold shlI
  rw [show (2:Int) ^ min (Int.toNat 1) IntKind.u64.bits=2 from rfl,Int.mul_comm]
  rfl
 have e2:shrI .i64 n 63=if n < 0 then -1 else 0:=by
  unfold shrI
  rw [show (2:Int) ^ min (Int.toNat 63) IntKind.i64.bits=9223372036854775808 from rfl,Int.fdiv_eq_ediv_of_nonneg _ (by omega)]
  split <;> omega
 rw [e1,e2]
 unfold foldS
 by_cases hn:n < 0
 ·rw [if_pos hn,if_pos hn]
  have e3:wr .u64 (-1)=18446744073709551615:=rfl
  have e4:wr .u64 (2*wr .u64 n)=18446744073709551616+2*n:=by
   rw [wu64_eq,wu64_eq];omega
  rw [e3,e4]
  unfold xorI
  have e5:BitVec.ofInt IntKind.u64.bits 18446744073709551615=BitVec.allOnes 64:=rfl
  have e6:BitVec.ofInt IntKind.u64.bits (18446744073709551616+2*n)=BitVec.ofNat 64 (18446744073709551616+2*n).toNat:=by
   apply BitVec.eq_of_toNat_eq
   simp [IntKind.bits,BitVec.toNat_ofInt,BitVec.toNat_ofNat]
   omega
  rw [e5,e6]
  have e7:=xor_ones (18446744073709551616+2*n).toNat (by omega)
  have e8:(BitVec.ofNat 64 (18446744073709551616+2*n).toNat ^^^ BitVec.allOnes 64).toNat=(-2*n - 1).toNat:=by rw [e7];omega
  have e9:IntKind.u64.wrap ((BitVec.ofNat 64 (18446744073709551616+2*n).toNat ^^^ BitVec.allOnes 64).toNat:Int) = -2*n - 1:=by
   rw [e8,IntWalk.u64_in _ (by omega)]
   omega
  exact congrArg some e9
 ·rw [if_neg hn,if_neg hn]
  have e3:wr .u64 0=0:=rfl
  have e4:wr .u64 (2*wr .u64 n)=2*n:=by rw [wu64_eq,wu64_eq];omega
  rw [e3,e4]
  unfold xorI
  show some (IntKind.u64.wrap ((BitVec.ofInt 64 (2*n) ^^^ 0#64).toNat:Int))=_
  rw [BitVec.xor_zero]
  have e6:(BitVec.ofInt 64 (2*n)).toNat=(2*n).toNat:=by
   simp [BitVec.toNat_ofInt]
   omega
  rw [e6,IntWalk.u64_in _ (by omega)]
  congr 1;omega
def quoS (n:Int) (k:Nat):Nat:=(foldS n).toNat / 2 ^ k
theorem shr_eq {f:Int} {k:Nat} (h1:0≤f) (hk:k≤64):shrI .u64 f (k:Int)=((f.toNat / 2 ^ k:Nat):Int):=by
 unfold shrI
 have:min (Int.toNat (k:Int)) IntKind.u64.bits=k:=by simp [IntKind.bits];omega
 rw [this,Int.fdiv_eq_ediv_of_nonneg _ (by have:(0:Int) < 2 ^ k:=Int.pow_pos (by decide);omega)]
 obtain ⟨m,rfl⟩ :=Int.eq_ofNat_of_zero_le h1
 simp
def riceS (k:Nat) (n:Int) (s:BS):BS:=putS k (foldS n) (bitS true (zerosS (quoS n k) s))
theorem quoS_le {n:Int} {k:Nat} (h1 : -268435456≤n) (h2:n≤268435455):quoS n k≤536870911:=by
 have:=foldS_range h1 h2
 unfold quoS
 exact Nat.le_trans (Nat.div_le_self _ _) (by omega)
theorem riceS_n (k:Nat) (n:Int) (s:BS):(riceS k n s).2=s.2+quoS n k+1+k:=by
 unfold riceS
 rw [putS_n]
 simp [bitS,zerosS_n]
theorem riceS_wb {k:Nat} {n:Int} {s:BS} (h:WB s) (hk:k≤24) (h1 : -268435456≤n) (h2:n≤268435455) (hn:s.2+536870980≤35184372088832):WB (riceS k n s):=by
 have:=quoS_le (k:=k) h1 h2
 unfold riceS
 refine putS_wb _ _ _ (bitS_wb (zerosS_wb _ _ h (by omega)) _ (by rw [zerosS_n];omega)) (by simp [bitS,zerosS_n];omega)
theorem spec_rice {k:Nat} {n:Int} {s:BS} (h:WB s) (hk:k≤24) (h1 : -268435456≤n) (h2:n≤268435455) (hn:s.2+536870980≤35184372088832):m_Ss (sinkOf s) k n=some (sinkOf (riceS k n s)):=by
 have hq:=quoS_le (k:=k) h1 h2
 have hf:=foldS_range h1 h2
 simp only [m_Ss,m_Ss_0]
 rw [if_neg (by simp;omega),spec_fold h1 h2]
 simp only [Option.bind_some]
 rw [wu64_id (by omega) (by omega),ck_eq (by omega)]
 simp only [Option.bind_some]
 rw [shr_eq hf.1 (by omega)]
 have key:∀ (q:Nat) (s:BS),q≤536870911→WB s→s.2+q≤35184372088832→loopM (lp_Ss_15 k (foldS n)) ((q:Int),true,(s.2:Int),s.1)=some (true,(((zerosS q s).2:Nat):Int),(zerosS q s).1):=by
  intro q
  induction q with
  | zero=>
   intro s _ hw hb
   rw [loopM_eq]
   simp only [lp_Ss_15,m_Ss_15]
   rw [if_neg (by simp)]
   rfl
  | succ q ih=>
   intro s hq hw hb
   rw [loopM_eq]
   simp only [lp_Ss_15,m_Ss_15]
   rw [if_pos (by simp)]
   have hb1:=spec_bit s 0 false (.inl ⟨rfl,rfl⟩) hw (by omega)
   simp only [sinkOf] at hb1
   rw [hb1]
   simp only [Option.bind_some]
   have e1:wr .u64 (((q+1:Nat):Int) - 1)=(q:Int):=by rw [wu64_id (by omega) (by omega)];omega
   rw [e1]
   exact ih (bitS false s) (by omega) (bitS_wb hw _ (by omega)) (by simp [bitS];omega)
 have hl:=key (quoS n k) s hq h (by omega)
 simp only [sinkOf,quoS] at hl ⊢
 rw [hl]
 simp only [Option.bind_some,m_Ss_25]
 have hz:WB (zerosS (quoS n k) s):=zerosS_wb _ _ h (by omega)
 have hzn:=zerosS_n (quoS n k) s
 have hb1:=spec_bit (zerosS (quoS n k) s) 1 true (.inr ⟨rfl,rfl⟩) hz (by omega)
 simp only [sinkOf,quoS] at hb1
 rw [hb1]
 simp only [Option.bind_some]
 have hp:=spec_put k (foldS n) (bitS true (zerosS (quoS n k) s)) (bitS_wb hz _ (by omega)) (by omega) (by simp [bitS];omega)
 simp only [sinkOf,quoS] at hp
 rw [hp]
 rfl
theorem impl_rice {k:Nat} {n:Int} {s:BS} (h:WB s) (hk:k≤24) (h1 : -268435456≤n) (h2:n≤268435455) (hn:s.2+536870980≤35184372088832):m_Ik (zOf s) n k=some (zOf (riceS k n s)):=by
 have hq:=quoS_le (k:=k) h1 h2
 have hf:=foldS_range h1 h2
 simp only [m_Ik,m_Ik_0]
 rw [impl_fold h1 h2]
 simp only [Option.bind_some]
 rw [ck_eq (by omega)]
 simp only [Option.bind_some]
 rw [shr_eq hf.1 (by omega)]
 have key:∀ (d i:Nat) (s:BS),i+d=quoS n k→WB s→s.2+d≤35184372088832→loopM (lp_Ik_7 k (foldS n)) (((quoS n k:Nat):Int),(i:Int),(s.2:Int),s.1)=some ((((zerosS d s).2:Nat):Int),(zerosS d s).1):=by
  intro d
  induction d with
  | zero=>
   intro i s _ hw hb
   rw [loopM_eq]
   simp only [lp_Ik_7,m_Ik_7]
   rw [if_neg (by simp;omega)]
   rfl
  | succ d ih=>
   intro i s hi hw hb
   rw [loopM_eq]
   simp only [lp_Ik_7,m_Ik_7]
   rw [if_pos (by simp;omega)]
   have hb1:=impl_bit s 0 false (.inl ⟨rfl,rfl⟩) hw (by omega)
   simp only [zOf] at hb1
   rw [hb1]
   simp only [Option.bind_some]
   have e1:wr .u64 ((i:Int)+1)=((i+1:Nat):Int):=by rw [wu64_id (by omega) (by omega)];omega
   rw [e1]
   exact ih (i+1) (bitS false s) (by omega) (bitS_wb hw _ (by omega)) (by simp [bitS];omega)
 have hl:=key (quoS n k) 0 s (by omega) h (by omega)
 rw [show (((0:Nat):Int))=0 from rfl] at hl
 simp only [zOf,quoS] at hl ⊢
 rw [hl]
 simp only [Option.bind_some,m_Ik_17]
 have hz:WB (zerosS (quoS n k) s):=zerosS_wb _ _ h (by omega)
 have hzn:=zerosS_n (quoS n k) s
 have hb1:=impl_bit (zerosS (quoS n k) s) 1 true (.inr ⟨rfl,rfl⟩) hz (by omega)
 simp only [zOf,quoS] at hb1
 rw [hb1]
 simp only [Option.bind_some]
 have hp:=impl_put k (foldS n) (bitS true (zerosS (quoS n k) s)) (bitS_wb hz _ (by omega)) (by omega) (by simp [bitS];omega)
 simp only [zOf,quoS] at hp
 rw [hp]
 rfl
end Go.Proofs.V

set_option linter.unusedSectionVars false
set_option maxRecDepth 100000
namespace Go.Proofs.V
open Go
theorem lp_step {τ ε:Type} {b:τ→Option (τ⊕ε)} {s s' : τ} (h:b s=some (.inl s')):loopM b s=loopM b s':=by rw [loopM_eq,h]
theorem lp_end {τ ε:Type} {b:τ→Option (τ⊕ε)} {s:τ} {e:ε} (h:b s=some (.inr e)):loopM b s=some e:=by rw [loopM_eq,h]
theorem shl1 (k:Nat) (hk:k≤32):shlI .i64 1 (wr .u64 (k:Int))=((2 ^ k:Nat):Int)∧shlI .i64 1 (k:Int)=((2 ^ k:Nat):Int):=by
 have h2:2 ^ k≤2 ^ 32:=Nat.pow_le_pow_right (by decide) hk
 have:=shl64i 1 k (by omega) (by omega)
 rw [Nat.one_mul,show ((1:Nat):Int)=1 from rfl] at this
 rw [wu64_id (by omega) (by omega)]
 exact ⟨this,this⟩
def ptOk (o q n:Nat):Bool:=decide (o≤4∧o≤n∧q≤4∧n % 2 ^ q=0∧o≤n / 2 ^ q)
theorem ptOk_no {o q n:Nat} (h : ¬ (o≤4∧o≤n∧q≤4)):ptOk o q n=false:=decide_eq_false fun hh=>h ⟨hh.1,hh.2.1,hh.2.2.1⟩
theorem parts_val (o q n:Nat) (hq:q≤4) (hn:n≤100000):Int.tmod (n:Int) ((2 ^ q:Nat):Int)=((n % 2 ^ q:Nat):Int)∧shrI .i64 (n:Int) (q:Int)=((n / 2 ^ q:Nat):Int):=by
 refine ⟨?_,shrI_nat .i64 n q (by simp [IntKind.bits];omega)⟩
 rw [Int.tmod_eq_emod_of_nonneg (by omega)]
 rfl
theorem spec_parts (o q n:Nat) (hn:n≤100000):m_Sl (o:Int) (q:Int) (n:Int)=some (ptOk o q n):=by
 dsimp only [m_Sl,m_Sl_0]
 rw [if_neg (by simp only [decide_eq_true_eq];omega)]
 by_cases h1:o≤4
 ·rw [if_neg (by simp;omega)]
  by_cases h2:o≤n
  ·rw [if_neg (by simp;omega),if_neg (by simp)]
   by_cases h3:q≤4
   ·obtain ⟨v1,v2⟩ :=parts_val o q n h3 hn
    have hpos:0 < 2 ^ q:=Nat.pow_pos (by decide)
    rw [if_neg (by simp;omega),(shl1 q (by omega)).1,wu64_id (x:=(q:Int)) (by omega) (by omega),ck_eq (by omega)]
    simp only [Option.bind_some]
    rw [ck_eq (by omega)]
    simp only [Option.bind_some]
    rw [v1,v2]
    unfold ptOk
    by_cases h4:n % 2 ^ q=0
    ·rw [if_pos (by rw [h4];rfl)]
     congr 1
     rw [Bool.eq_iff_iff]
     simp only [decide_eq_true_eq]
     constructor
     ·intro hh;exact ⟨h1,h2,h3,h4,by omega⟩
     ·rintro ⟨_,_,_,_,hh⟩;omega
    ·rw [if_neg (by simp only [beq_iff_eq];omega),decide_eq_false (fun hh=>h4 hh.2.2.2.1)]
   ·rw [if_pos (by simp;omega),ptOk_no (fun hh=>h3 hh.2.2)]
  ·rw [if_pos (by simp;omega),ptOk_no (fun hh=>h2 hh.2.1)]
 ·rw [if_pos (by simp;omega),ptOk_no (fun hh=>h1 hh.1)]
theorem impl_fits (o q n:Nat) (hn:n≤100000):m_Im (o:Int) (q:Int) (n:Int)=some (ptOk o q n):=by
 dsimp only [m_Im,m_Im_0]
 rw [if_pos (by simp)]
 by_cases h1:o≤4
 ·rw [if_pos (by simp;omega)]
  by_cases h2:o≤n
  ·rw [if_pos (by simp;omega),if_pos (by simp)]
   by_cases h3:q≤4
   ·obtain ⟨v1,v2⟩ :=parts_val o q n h3 hn
    have hpos:0 < 2 ^ q:=Nat.pow_pos (by decide)
    rw [if_pos (by simp;omega),(shl1 q (by omega)).2,ck_eq (by omega)]
    simp only [Option.bind_some]
    rw [ck_eq (by omega)]
    simp only [Option.bind_some]
    rw [v1,v2]
    unfold ptOk
    by_cases h4:n % 2 ^ q=0
    ·rw [if_pos (by rw [h4];rfl)]
     congr 1
     rw [Bool.eq_iff_iff]
     simp only [decide_eq_true_eq]
     constructor
     ·intro hh;exact ⟨h1,h2,h3,h4,by omega⟩
     ·rintro ⟨_,_,_,_,hh⟩;omega
    ·rw [if_neg (by simp only [beq_iff_eq];omega),decide_eq_false (fun hh=>h4 hh.2.2.2.1)]
   ·rw [if_neg (by simp;omega),ptOk_no (fun hh=>h3 hh.2.2)]
  ·rw [if_neg (by simp;omega),ptOk_no (fun hh=>h2 hh.2.1)]
 ·rw [if_neg (by simp;omega),ptOk_no (fun hh=>h1 hh.1)]
def allIn (lo hi:Int) (l:List Int):Bool:=l.all fun x=>decide (lo≤x∧x≤hi)
theorem impl_range (l:List Int) (lo hi:Int) (mx:Nat) (hl:l.length≤1000000):m_Ir l lo hi mx=some (decide (l.length≤mx)&&allIn lo hi l):=by
 dsimp only [m_Ir,m_Ir_0]
 by_cases h:l.length≤mx
 ·rw [if_neg (by simp;omega),decide_eq_true h,Bool.true_and]
  rw [all_list (l:=l) (q:=fun x=>decide (lo≤x∧x≤hi)) (b:=lp_Ir_15 lo hi l) (by omega) (fun i hi'=>by
   dsimp only [lp_Ir_15,m_Ir_15]
   rw [if_pos (by simpa using hi'),rd_eq hi']
   simp only [Option.bind_some]
   rw [w64_succ (by omega)]
   by_cases h1:l[i] < lo
   ·rw [if_pos (by simpa using h1),if_neg (by simp only [decide_eq_true_eq];omega)]
   ·rw [if_neg (by simpa using h1)]
    by_cases h2:l[i] > hi
    ·rw [if_pos (by simpa using h2),if_neg (by simp only [decide_eq_true_eq];omega)]
    ·rw [if_neg (by simpa using h2),if_pos (by simp only [decide_eq_true_eq];omega)]) (by
   dsimp only [lp_Ir_15,m_Ir_15]
   rw [if_neg (by simp)])]
  unfold allIn
  cases l.all fun x=>decide (lo≤x∧x≤hi) <;> rfl
 ·rw [if_pos (by simp;omega),decide_eq_false h];rfl
theorem impl_range2 (l:List Int) (lo hi:Int) (mx:Nat) (h : ¬ l.length≤mx):m_Ir l lo hi mx=some false:=by
 dsimp only [m_Ir,m_Ir_0]
 rw [if_pos (by simp;omega)]
theorem impl_list26 (l:List Int) (hl:l.length≤1000000):m_Ip l=some (decide (l.length≤4000)&&allIn (-67108864) 67108863 l):=by
 dsimp only [m_Ip,m_Ip_0]
 have:=impl_range l (-67108864) 67108863 4000 hl
 rw [show ((4000:Nat):Int)=4000 from rfl] at this
 rw [this];rfl
def inOk (bits:Nat) (l:List Int):Bool:=allIn (-((2 ^ (bits - 1):Nat):Int)) (((2 ^ (bits - 1):Nat):Int) - 1) l
theorem spec_in (bits:Nat) (hb:2≤bits∧bits≤24) (l:List Int) (hl:l.length≤1000000):m_Si (bits:Int) l=some (inOk bits l):=by
 dsimp only [m_Si,m_Si_0]
 have h2:2 ^ (bits - 1)≤2 ^ 23:=Nat.pow_le_pow_right (by decide) (by omega)
 rw [w64_id (x:=(bits:Int) - 1) (by omega) (by omega),show (bits:Int) - 1=((bits - 1:Nat):Int) by omega,(shl1 (bits - 1) (by omega)).1,wu64_id (x:=((bits - 1:Nat):Int)) (by omega) (by omega),ck_eq (by omega)]
 simp only [Option.bind_some]
 unfold inOk
 generalize 2 ^ (bits - 1)=t at h2 ⊢
 have key:=all_fold (l:=l) (σ:=Unit) (fun _ i=>((t:Int),((i:Nat):Int))) (q:=fun x=>decide (-(t:Int)≤x∧x≤(t:Int) - 1)) (g:=fun _ _=>()) (I:=fun _ _=>True) (b:=lp_Si_9 l) (e0:=.inl false) (e1:=fun _=>.inr ())
  (fun i s hi _=>by
   have hs:lp_Si_9 l ((t:Int),(i:Int))=if decide (-(t:Int)≤l[i]∧l[i]≤(t:Int) - 1)=true then some (.inl ((t:Int),((i+1:Nat):Int))) else some (.inr (.inl false)):=by
    dsimp only [lp_Si_9,m_Si_9]
    rw [if_pos (by simpa using hi),rd_eq hi]
    simp only [Option.bind_some]
    rw [w64_succ (by omega),w64_id (x:=0 - (t:Int)) (by omega) (by omega)]
    by_cases h1:l[i] < 0 - (t:Int)
    ·rw [if_pos (by simpa using h1),if_neg (by simp only [decide_eq_true_eq];omega)]
    ·rw [if_neg (by simp only [decide_eq_true_eq];omega)]
     by_cases h2:l[i]≥(t:Int)
     ·rw [if_pos (by simpa using h2),if_neg (by simp only [decide_eq_true_eq];omega)]
     ·rw [if_neg (by simpa using h2),if_pos (by simp only [decide_eq_true_eq];omega)]
   exact ⟨fun hq=>⟨by rw [hs,if_pos hq],trivial⟩,fun hq=>by rw [hs,if_neg (by rw [hq];simp)]⟩)
  (fun s _=>by
   dsimp only [lp_Si_9,m_Si_9]
   rw [if_neg (by simp)]) () trivial
 rw [show (((0:Nat):Int))=0 from rfl] at key
 rw [key]
 unfold allIn
 cases l.all fun x=>decide (-(t:Int)≤x∧x≤(t:Int) - 1) <;> rfl
theorem shlm (k:Nat) (hk:k≤32):shlI .i64 (-1) (k:Int) = -((2 ^ k:Nat):Int):=by
 have h2:2 ^ k≤2 ^ 32:=Nat.pow_le_pow_right (by decide) hk
 unfold shlI
 have:min (Int.toNat (k:Int)) IntKind.i64.bits=k:=by simp [IntKind.bits];omega
 rw [this]
 have e:(-1:Int)*2 ^ k = -((2 ^ k:Nat):Int):=by simp
 rw [e]
 generalize 2 ^ k=t at h2 ⊢
 exact w64_id (by omega) (by omega)
theorem impl_in (bits:Nat) (hb:2≤bits∧bits≤24) (l:List Int) (hl:l.length≤4000):m_Ir l (shlI .i64 (-1) (w64 ((bits:Int) - 1))) (w64 ((shlI .i64 1 (w64 ((bits:Int) - 1))) - 1)) 4000=some (inOk bits l):=by
 have h2:2 ^ (bits - 1)≤2 ^ 23:=Nat.pow_le_pow_right (by decide) (by omega)
 rw [w64_id (x:=(bits:Int) - 1) (by omega) (by omega),show (bits:Int) - 1=((bits - 1:Nat):Int) by omega,(shl1 (bits - 1) (by omega)).2,shlm (bits - 1) (by omega)]
 unfold inOk
 generalize 2 ^ (bits - 1)=t at h2 ⊢
 rw [w64_id (by omega) (by omega)]
 have:=impl_range l (-(t:Int)) ((t:Int) - 1) 4000 (by omega)
 rw [show ((4000:Nat):Int)=4000 from rfl] at this
 rw [this,decide_eq_true hl]
 rfl
def gsF (o:Nat) (l:List Int) (i:Nat):Int:=
 if o=1 then l.getD (i - 1) 0
 else if o=2 then w64 (w64 (2*l.getD (i - 1) 0) - l.getD (i - 2) 0)
 else if o=3 then w64 (w64 (w64 (3*l.getD (i - 1) 0) - w64 (3*l.getD (i - 2) 0))+l.getD (i - 3) 0)
 else if o=4 then w64 (w64 (w64 (w64 (4*l.getD (i - 1) 0) - w64 (6*l.getD (i - 2) 0))+w64 (4*l.getD (i - 3) 0)) - l.getD (i - 4) 0)
 else 0
theorem spec_guess (o i:Nat) (l:List Int) (ho:o≤i) (hi:i≤l.length) (hl:l.length≤1000000):m_Sg (o:Int) l (i:Int)=some (gsF o l i):=by
 have r:∀ k:Nat,1≤k→k≤i→rd l (w64 ((i:Int) - (k:Int)))=some (l.getD (i - k) 0):=fun k h1 h2=>by
  rw [w64_id (by omega) (by omega),show (i:Int) - (k:Int)=((i - k:Nat):Int) by omega,rd_d 0 (by omega)]
 dsimp only [m_Sg,m_Sg_0]
 unfold gsF
 by_cases h1:o=1
 ·subst h1
  rw [if_pos (by rfl),if_pos rfl]
  have r1:=r 1 (by omega) ho
  rw [show ((1:Nat):Int)=1 from rfl] at r1
  rw [r1];rfl
 ·rw [if_neg (by simp;omega),if_neg h1]
  by_cases h2:o=2
  ·subst h2
   rw [if_pos (by rfl),if_pos rfl]
   have r1:=r 1 (by omega) (by omega)
   have r2:=r 2 (by omega) (by omega)
   rw [show ((1:Nat):Int)=1 from rfl] at r1
   rw [show ((2:Nat):Int)=2 from rfl] at r2
   rw [r1]
   simp only [Option.bind_some]
   rw [r2];rfl
  ·rw [if_neg (by simp;omega),if_neg h2]
   by_cases h3:o=3
   ·subst h3
    rw [if_pos (by rfl),if_pos rfl]
    have r1:=r 1 (by omega) (by omega)
    have r2:=r 2 (by omega) (by omega)
    have r3:=r 3 (by omega) (by omega)
    rw [show ((1:Nat):Int)=1 from rfl] at r1
    rw [show ((2:Nat):Int)=2 from rfl] at r2
    rw [show ((3:Nat):Int)=3 from rfl] at r3
    rw [r1]
    simp only [Option.bind_some]
    rw [r2]
    simp only [Option.bind_some]
    rw [r3];rfl
   ·rw [if_neg (by simp;omega),if_neg h3]
    by_cases h4:o=4
    ·subst h4
     rw [if_pos (by rfl),if_pos rfl]
     have r1:=r 1 (by omega) (by omega)
     have r2:=r 2 (by omega) (by omega)
     have r3:=r 3 (by omega) (by omega)
     have r4:=r 4 (by omega) (by omega)
     rw [show ((1:Nat):Int)=1 from rfl] at r1
     rw [show ((2:Nat):Int)=2 from rfl] at r2
     rw [show ((3:Nat):Int)=3 from rfl] at r3
     rw [show ((4:Nat):Int)=4 from rfl] at r4
     rw [r1]
     simp only [Option.bind_some]
     rw [r2]
     simp only [Option.bind_some]
     rw [r3]
     simp only [Option.bind_some]
     rw [r4];rfl
    ·rw [if_neg (by simp;omega),if_neg h4]
theorem impl_guess (o i:Nat) (l:List Int) (ho:o≤i) (hi:i≤l.length) (hl:l.length≤1000000):m_In (o:Int) l (i:Int)=some (gsF o l i):=spec_guess o i l ho hi hl
end Go.Proofs.V

namespace Go.Proofs.V
open Go
theorem fill_n (l:List Int) (i n:Nat) (v:Int) (hn:l.length=n) (h:i < n) (hv:l[i]'(by omega)=v):(l.take i++List.replicate (n - i) (0:Int)).set (0+Int.toNat (i:Int)) v=l.take (i+1)++List.replicate (n - (i+1)) 0:=by
 subst hn;subst hv
 exact fill_set0 l 0 i h
theorem upd_n (L a:List Int) (i:Nat) (v:Int) (h:i < L.length) (hl:L.length=a.length) (hv:L[i]=v):(L.take i++a.drop i).set (0+Int.toNat (i:Int)) v=L.take (i+1)++a.drop (i+1):=by
 subst hv
 have e:a.drop i=a[i]::a.drop (i+1):=List.drop_eq_getElem_cons _
 have e0:i - (L.take i).length=0:=by simp;omega
 rw [Int.toNat_natCast,Nat.zero_add,List.set_append_right _ _ (by simp;omega),e0,e,List.set_cons_zero,List.take_succ_eq_append_getElem h,List.append_assoc]
 rfl
theorem rd_n (l:List Int) (i:Nat) (h:i < l.length):rd l (i:Int)=some (l.getD i 0):=rd_d 0 h
theorem rd_any (l:List Int) (i:Nat) (h:i < l.length):∃ v,rd l (i:Int)=some v:=⟨_,rd_n l i h⟩
def resF (o:Nat) (l:List Int):List Int:=(List.range l.length).map fun i=>if o≤i then w64 (l.getD i 0 - gsF o l i) else l.getD i 0
theorem resF_len (o:Nat) (l:List Int):(resF o l).length=l.length:=by simp [resF]
theorem resF_get (o:Nat) (l:List Int) (i:Nat) (h:i < (resF o l).length):(resF o l)[i]=if o≤i then w64 (l.getD i 0 - gsF o l i) else l.getD i 0:=by simp [resF]
section
variable {l:List Int} (hl:l.length≤1000)
include hl
theorem spec_residue (o:Nat) (ho:o≤4):m_Sm (o:Int) l=some (resF o l):=by
 dsimp only [m_Sm,m_Sm_0]
 rw [ck_eq (by omega)]
 simp only [Option.bind_some]
 have key:loopM (lp_Sm_9 (o:Int) l) (0,List.replicate (Int.toNat (l.length:Int)) 0)=some (resF o l):=by
  have:=loopM_fun (b:=lp_Sm_9 (o:Int) l) (fun i (s:List Int)=>((i:Int),s)) l.length (fun i=>(resF o l).take i++List.replicate (l.length - i) 0) (e:=resF o l) (fun i hi=>?_) ?_
  ·simpa using this
  ·have hi2:i < (resF o l).length:=by rw [resF_len];exact hi
   have hlen:((resF o l).take i++List.replicate (l.length - i) (0:Int)).length=l.length:=by simp [resF_len];omega
   have hset:=fun v hv=>fill_n (resF o l) i l.length v (resF_len o l) hi hv
   have hg:=resF_get o l i hi2
   obtain ⟨v,hv⟩ :=rd_any ((resF o l).take i++List.replicate (l.length - i) (0:Int)) i (by omega)
   dsimp only [lp_Sm_9,m_Sm_9]
   rw [if_pos (by simpa using hi),rd_n l i hi,hv]
   simp only [Option.bind_some]
   rw [w64_succ (by omega)]
   by_cases h1:o≤i
   ·rw [if_pos (by simpa using h1),spec_guess o i l h1 (by omega) (by omega)]
    simp only [Option.bind_some]
    rw [if_pos h1] at hg
    rw [hset _ hg]
   ·rw [if_neg (by simpa using h1)]
    rw [if_neg h1] at hg
    rw [hset _ hg]
  ·dsimp only [lp_Sm_9,m_Sm_9]
   rw [if_neg (by simp),List.take_of_length_le (by rw [resF_len];omega)]
   simp [m_Sm_27]
 rw [key]
 rfl
theorem impl_residue (o:Nat) (ho:o≤4) (hx:allIn (-67108864) 67108863 l=true):m_Ig (o:Int) l=some (resF o l):=by
 dsimp only [m_Ig,m_Ig_0]
 rw [impl_list26 l (by omega),hx,decide_eq_true (by omega)]
 simp only [Option.bind_some,Bool.true_and,if_true]
 rw [if_neg (by simp),if_neg (by simp;omega)]
 dsimp only [m_Il,m_Il_0]
 rw [ck_eq (by simp;omega)]
 simp only [Option.bind_some,List.nil_append]
 have key:∀ (k i:Nat),i+k=l.length→o≤i→loopM (lp_Ig_17 (o:Int) l) ((i:Int),(resF o l).take i++l.drop i)=some (resF o l):=by
  intro k
  induction k with
  | zero=>
   intro i hi ho
   refine lp_end ?_
   dsimp only [lp_Ig_17,m_Ig_17]
   rw [if_neg (by simp;omega),List.take_of_length_le (by rw [resF_len];omega),List.drop_of_length_le (by omega),List.append_nil]
  | succ k ih=>
   intro i hi hoi
   have hi1:i < l.length:=by omega
   have hi2:i < (resF o l).length:=by rw [resF_len];exact hi1
   have hlen:((resF o l).take i++l.drop i).length=l.length:=by simp [resF_len];omega
   have hg:=resF_get o l i hi2
   rw [if_pos hoi] at hg
   have hset:=upd_n (resF o l) l i _ hi2 (resF_len o l) hg
   obtain ⟨v,hv⟩ :=rd_any ((resF o l).take i++l.drop i) i (by omega)
   refine (lp_step ?_).trans (ih (i+1) (by omega) (by omega))
   dsimp only [lp_Ig_17,m_Ig_17]
   rw [if_pos (by simpa using hi1),rd_n l i hi1]
   simp only [Option.bind_some]
   rw [impl_guess o i l hoi (by omega) (by omega)]
   simp only [Option.bind_some]
   rw [hv]
   simp only [Option.bind_some]
   rw [hset,w64_succ (by omega)]
 have e0:o≤l.length→(resF o l).take o++l.drop o=l:=fun h=>by
  have:(resF o l).take o=l.take o:=by
   apply List.ext_getElem
   ·simp [resF_len]
   ·intro j h1 h2
    simp [resF_len] at h1 h2
    rw [List.getElem_take,List.getElem_take,resF_get,if_neg (by omega),List.getD_eq_getElem?_getD,List.getElem?_eq_getElem (by omega)]
    rfl
  rw [this,List.take_append_drop]
 by_cases h:o≤l.length
 ·have:=key (l.length - o) o (by omega) (Nat.le_refl _)
  rw [e0 h] at this
  rw [this]
  rfl
 ·rw [lp_end (e:=l) (by
   dsimp only [lp_Ig_17,m_Ig_17]
   rw [if_neg (by simp;omega)])]
  have:resF o l=l:=by
   apply List.ext_getElem
   ·exact resF_len o l
   ·intro j h1 h2
    rw [resF_get,if_neg (by omega),List.getD_eq_getElem?_getD,List.getElem?_eq_getElem h2]
    rfl
  rw [this]
  rfl
end
theorem gsF_rng (o:Nat) (l:List Int) (hx:∀ x ∈ l,-16777215≤x∧x≤16777215) (i:Nat) : -251658225≤gsF o l i∧gsF o l i≤251658225:=by
 have g:∀ j,-16777215≤l.getD j 0∧l.getD j 0≤16777215:=fun j=>by
  rw [List.getD_eq_getElem?_getD]
  cases h:l[j]? with
  | none=>simp
  | some v=>exact hx v (List.mem_of_getElem? h)
 have g1:=g (i - 1)
 have g2:=g (i - 2)
 have g3:=g (i - 3)
 have g4:=g (i - 4)
 unfold gsF
 split
 ·omega
 split
 ·rw [w64_id (x:=2*_) (by omega) (by omega),w64_id (by omega) (by omega)];omega
 split
 ·rw [w64_id (x:=3*l.getD (i - 1) 0) (by omega) (by omega),w64_id (x:=3*l.getD (i - 2) 0) (by omega) (by omega),w64_id (x:=_ - _) (by omega) (by omega),w64_id (by omega) (by omega)];omega
 split
 ·rw [w64_id (x:=4*l.getD (i - 1) 0) (by omega) (by omega),w64_id (x:=6*l.getD (i - 2) 0) (by omega) (by omega),w64_id (x:=4*l.getD (i - 3) 0) (by omega) (by omega),w64_id (x:=4*l.getD (i - 1) 0 - 6*l.getD (i - 2) 0) (by omega) (by omega),w64_id (x:=4*l.getD (i - 1) 0 - 6*l.getD (i - 2) 0+4*l.getD (i - 3) 0) (by omega) (by omega),w64_id (by omega) (by omega)];omega
 ·omega
theorem resF_rng (o:Nat) (l:List Int) (hx:∀ x ∈ l,-16777215≤x∧x≤16777215):∀ x ∈ resF o l,-268435456≤x∧x≤268435455:=by
 intro x hx'
 simp only [resF,List.mem_map,List.mem_range] at hx'
 obtain ⟨i,hi,rfl⟩ :=hx'
 have g:=gsF_rng o l hx i
 have gi : -16777215≤l.getD i 0∧l.getD i 0≤16777215:=by
  rw [List.getD_eq_getElem?_getD,List.getElem?_eq_getElem hi]
  exact hx _ (by simp)
 split
 ·rw [w64_id (by omega) (by omega)];omega
 ·omega
def partF (o m:Nat) (r:List Int) (i:Nat):List Int:=if i=0 then (r.take m).drop o else (r.take (m*i+m)).drop (m*i)
theorem part_ok {o q n i:Nat} (h:ptOk o q n=true) (hi:i < 2 ^ q):n / 2 ^ q*i+n / 2 ^ q≤n∧o≤n / 2 ^ q∧o≤4∧q≤4:=by
 obtain ⟨h1,h2,h3,h4,h5⟩ :=of_decide_eq_true h
 refine ⟨?_,h5,h1,h3⟩
 have e:n / 2 ^ q*(i+1)≤n / 2 ^ q*2 ^ q:=Nat.mul_le_mul_left _ hi
 have e2:=Nat.div_mul_le_self n (2 ^ q)
 rw [Nat.mul_succ] at e
 omega
theorem spec_part (r:List Int) (o q i:Nat) (hr:r.length≤1000) (h:ptOk o q r.length=true) (hi:i < 2 ^ q):m_Sk r (o:Int) (q:Int) (i:Int)=some (partF o (r.length / 2 ^ q) r i):=by
 obtain ⟨h1,h2,h3,h4⟩ :=part_ok h hi
 obtain ⟨v1,v2⟩ :=parts_val o q r.length h4 (by omega)
 dsimp only [m_Sk,m_Sk_0]
 rw [wu64_id (x:=(q:Int)) (by omega) (by omega),ck_eq (by omega)]
 simp only [Option.bind_some]
 rw [v2]
 generalize r.length / 2 ^ q=m at h1 h2 ⊢
 unfold partF
 have hmi:(m:Int)*(i:Int)=((m*i:Nat):Int):=by simp
 by_cases h0:i=0
 ·subst h0
  rw [if_pos (by rfl),if_pos rfl,ck_eq (by omega)]
  simp only [Option.bind_some]
  rw [Int.toNat_natCast,ck_eq (by omega)]
  simp only [Option.bind_some]
  rw [Int.toNat_natCast]
 ·rw [if_neg (by simp;omega),if_neg h0,hmi]
  generalize m*i=t at h1 ⊢
  rw [w64_id (x:=(t:Int)) (by omega) (by omega),w64_id (x:=(t:Int)+m) (by omega) (by omega),show (t:Int)+m=((t+m:Nat):Int) by omega,ck_eq (by omega)]
  simp only [Option.bind_some]
  rw [Int.toNat_natCast,ck_eq (by omega)]
  simp only [Option.bind_some]
  rw [Int.toNat_natCast]
theorem impl_part (r:List Int) (o q i:Nat) (hr:r.length≤1000) (h:ptOk o q r.length=true) (hi:i < 2 ^ q):m_Iq (o:Int) (q:Int) r (i:Int)=some (partF o (r.length / 2 ^ q) r i):=by
 obtain ⟨h1,h2,h3,h4⟩ :=part_ok h hi
 obtain ⟨v1,v2⟩ :=parts_val o q r.length h4 (by omega)
 have hp2:2 ^ q≤2 ^ 4:=Nat.pow_le_pow_right (by decide) h4
 dsimp only [m_Iq,m_Iq_0]
 rw [ck_eq (by omega)]
 simp only [Option.bind_some]
 rw [v2]
 generalize r.length / 2 ^ q=m at h1 h2 ⊢
 unfold partF
 have hmi:(i:Int)*(m:Int)=((m*i:Nat):Int):=by rw [Nat.mul_comm];simp
 have hmi2:((i+1:Nat):Int)*(m:Int)=((m*i+m:Nat):Int):=by rw [←Nat.mul_succ,Nat.mul_comm];simp
 rw [w64_succ (by omega),hmi,hmi2]
 have hmx:m*i≥m∨i=0:=by
  by_cases h0:i=0
  ·exact .inr h0
  ·exact .inl (Nat.le_mul_of_pos_right _ (by omega))
 have hz:i=0→m*i=0:=fun h=>by rw [h,Nat.mul_zero]
 generalize m*i=t at h1 hmx hz ⊢
 rw [w64_id (x:=((t+m:Nat):Int)) (by omega) (by omega),w64_id (x:=(t:Int)) (by omega) (by omega)]
 have hm:mxI (t:Int) (o:Int)=((if i=0 then o else t:Nat):Int):=by
  unfold mxI
  by_cases h0:i=0
  ·have:=hz h0
   rw [if_pos h0];split <;> omega
  ·rw [if_neg h0];split <;> omega
 rw [hm,ck_eq (by omega)]
 simp only [Option.bind_some]
 rw [Int.toNat_natCast,ck_eq (by split <;> omega)]
 simp only [Option.bind_some]
 rw [Int.toNat_natCast]
 by_cases h0:i=0
 ·have:=hz h0
  rw [if_pos h0,if_pos h0,this,Nat.zero_add]
 ·rw [if_neg h0,if_neg h0]
theorem partF_mem (o m i:Nat) (r:List Int):∀ x ∈ partF o m r i,x ∈ r:=by
 intro x hx
 unfold partF at hx
 split at hx <;> exact List.mem_of_mem_take (List.mem_of_mem_drop hx)
theorem partF_len (o m i:Nat) (r:List Int):(partF o m r i).length≤m:=by
 unfold partF
 split <;> simp <;> omega
def ric (key:Nat) (x:Int):Nat:=if key=25 then 32 else quoS x key+1+key
def cs (key:Nat):List Int→Nat
 | []=>0
 | x::xs=>ric key x+cs key xs
theorem cs_fold (key:Nat):∀ (l:List Int) (s:Nat),l.foldl (fun s x=>s+ric key x) s=s+cs key l
 | [],s=>by simp [cs]
 | x::xs,s=>by rw [List.foldl_cons,cs_fold key xs];simp [cs];omega
theorem ric_le {key:Nat} {x:Int} (hk:key≤25) (hx : -268435456≤x∧x≤268435455):ric key x≤536870980:=by
 unfold ric
 split
 ·omega
 ·have:=quoS_le (k:=key) hx.1 hx.2;omega
theorem cs_le {key:Nat} (hk:key≤25):∀ (l:List Int),(∀ x ∈ l,-268435456≤x∧x≤268435455)→cs key l≤l.length*536870980
 | [],_=>by simp [cs]
 | x::xs,h=>by
  have h1:=ric_le hk (h x (by simp))
  have h2:=cs_le hk xs (fun y hy=>h y (by simp [hy]))
  simp only [cs,List.length_cons]
  omega
section
variable {l:List Int} (hl:l.length≤1000) (hx:∀ x ∈ l,-268435456≤x∧x≤268435455)
include hl hx
theorem spec_cost (key:Nat) (hk:key≤25):m_Sj (key:Int) l=some ((5+cs key l:Nat):Int):=by
 dsimp only [m_Sj,m_Sj_0]
 have:=(fold_list (l:=l) (σ:=Nat) (fun s i=>(((s:Nat):Int),((i:Nat):Int))) (g:=fun s x=>s+ric key x) (I:=fun i s=>s≤5+i*536870980) (b:=lp_Sj_9 (key:Int) l) (e1:=fun s=>((s:Nat):Int))
  (fun i s hi hI=>by
   have hxi:=hx l[i] (by simp)
   have hr:=ric_le hk hxi
   have hfr:=foldS_range hxi.1 hxi.2
   refine ⟨?_,by omega⟩
   dsimp only [lp_Sj_9,m_Sj_9]
   rw [if_pos (by simpa using hi),rd_eq hi]
   simp only [Option.bind_some]
   rw [w64_succ (by omega)]
   unfold ric at hr ⊢
   by_cases h25:key=25
   ·subst h25
    rw [if_pos (by rfl),if_pos rfl,w64_id (by omega) (by omega)]
    rfl
   ·rw [if_neg h25] at hr ⊢
    have hq:quoS l[i] key=(foldS l[i]).toNat / 2 ^ key:=rfl
    rw [if_neg (by simp;omega),spec_fold hxi.1 hxi.2]
    simp only [Option.bind_some]
    rw [wu64_id (x:=(key:Int)) (by omega) (by omega),ck_eq (by omega)]
    simp only [Option.bind_some]
    rw [shr_eq hfr.1 (by omega),←hq]
    generalize quoS l[i] key=u at hr ⊢
    rw [w64_id (x:=(u:Int)) (by omega) (by omega),w64_id (x:=(u:Int)+1) (by omega) (by omega),w64_id (x:=(u:Int)+1+key) (by omega) (by omega),w64_id (by omega) (by omega)]
    congr 4)
  (fun s hI=>by
   dsimp only [lp_Sj_9,m_Sj_9]
   rw [if_neg (by simp)]) 5 (by simp)).1
 rw [show (((0:Nat):Int))=0 from rfl,show (((5:Nat):Int))=5 from rfl] at this
 rw [this,cs_fold]
 rfl
theorem impl_cost (key:Nat) (hk:key≤25):m_Io (key:Int) l=some ((5+cs key l:Nat):Int):=by
 dsimp only [m_Io,m_Io_0]
 by_cases h25:key=25
 ·subst h25
  have e:∀ l:List Int,cs 25 l=32*l.length:=fun l=>by
   induction l with
   | nil=>rfl
   | cons x xs ih=>simp only [cs,ih,List.length_cons,ric,if_true];omega
  rw [if_pos (by rfl),e,w64_id (x:=32*(l.length:Int)) (by omega) (by omega),w64_id (by omega) (by omega)]
  congr 1
 ·rw [if_neg (by simp;omega)]
  have:=(fold_list (l:=l) (σ:=Nat) (fun s i=>(((s:Nat):Int),((i:Nat):Int))) (g:=fun s x=>s+ric key x) (I:=fun i s=>s≤5+i*536870980) (b:=lp_Io_17 (key:Int) l) (e1:=fun s=>((s:Nat):Int))
   (fun i s hi hI=>by
    have hxi:=hx l[i] (by simp)
    have hr:=ric_le hk hxi
    have hfr:=foldS_range hxi.1 hxi.2
    refine ⟨?_,by omega⟩
    dsimp only [lp_Io_17,m_Io_17]
    rw [if_pos (by simpa using hi),rd_eq hi]
    simp only [Option.bind_some]
    rw [w64_succ (by omega)]
    unfold ric at hr ⊢
    rw [if_neg h25] at hr ⊢
    have hq:quoS l[i] key=(foldS l[i]).toNat / 2 ^ key:=rfl
    rw [impl_fold hxi.1 hxi.2]
    simp only [Option.bind_some]
    rw [ck_eq (by omega)]
    simp only [Option.bind_some]
    rw [shr_eq hfr.1 (by omega),←hq]
    generalize quoS l[i] key=u at hr ⊢
    rw [w64_id (x:=(u:Int)) (by omega) (by omega),w64_id (x:=(u:Int)+1) (by omega) (by omega),w64_id (x:=(u:Int)+1+key) (by omega) (by omega),w64_id (by omega) (by omega)]
    congr 4)
   (fun s hI=>by
    dsimp only [lp_Io_17,m_Io_17]
    rw [if_neg (by simp)]) 5 (by simp)).1
  rw [show (((0:Nat):Int))=0 from rfl,show (((5:Nat):Int))=5 from rfl] at this
  rw [this,cs_fold]
  rfl
end
def bkF (l:List Int):Nat→Nat×Nat
 | 0=>(0,5+cs 0 l)
 | k+1=>if 5+cs (k+1) l < (bkF l k).2 then (k+1,5+cs (k+1) l) else bkF l k
theorem bkF_le (l:List Int):∀ k,(bkF l k).1≤k∧(bkF l k).2=5+cs (bkF l k).1 l∧∀ j,j≤k→(bkF l k).2≤5+cs j l
 | 0=>by
  refine ⟨Nat.le_refl _,rfl,fun j hj=>?_⟩
  have:j=0:=by omega
  subst this
  exact Nat.le_refl _
 | k+1=>by
  obtain ⟨h1,h2,h3⟩ :=bkF_le l k
  unfold bkF
  by_cases h:5+cs (k+1) l < (bkF l k).2
  ·rw [if_pos h]
   refine ⟨Nat.le_refl _,rfl,fun j hj=>?_⟩
   by_cases hjk:j=k+1
   ·subst hjk;exact Nat.le_refl _
   ·have:=h3 j (by omega);dsimp only;omega
  ·rw [if_neg h]
   refine ⟨by omega,h2,fun j hj=>?_⟩
   by_cases hjk:j=k+1
   ·subst hjk;omega
   ·exact h3 j (by omega)
end Go.Proofs.V

namespace Go.Proofs.V
open Go
def sm (f:Nat→Nat):Nat→Nat
 | 0=>0
 | k+1=>sm f k+f k
def kyF (l:List Int) (o q i:Nat):Nat×Nat:=bkF (partF o (l.length / 2 ^ q) (resF o l) i) 25
def plC (l:List Int) (o q:Nat):Nat:=6+26*o+sm (fun i=>(kyF l o q i).2) (2 ^ q)
def plK (l:List Int) (o q:Nat):List Int:=(List.range (2 ^ q)).map fun i=>((kyF l o q i).1:Int)
abbrev PSt:=Int×Int×Int×List Int
def stepB (l:List Int) (o:Nat) (st:PSt) (q:Nat):PSt:=if ptOk o q l.length=true then (if st.1 < 0∨((plC l o q:Nat):Int) < st.1 then (((plC l o q:Nat):Int),(o:Int),(q:Int),plK l o q) else st) else st
def stepO (l:List Int) (st:PSt) (o:Nat):PSt:=(List.range 5).foldl (stepB l o) st
def bestS (l:List Int):PSt:=(List.range 5).foldl (stepO l) (-1,0,0,[])
section
variable {l:List Int} (hl:l.length≤1000) (hx:∀ x ∈ l,-16777215≤x∧x≤16777215)
include hl hx
theorem part_rng (o m i:Nat):(partF o m (resF o l) i).length≤1000∧∀ x ∈ partF o m (resF o l) i,-268435456≤x∧x≤268435455:=by
 refine ⟨?_,fun x hx'=>resF_rng o l hx x (partF_mem _ _ _ _ x hx')⟩
 unfold partF
 have:=resF_len o l
 split <;> simp <;> omega
theorem ky_le (o q i:Nat):(kyF l o q i).2≤536870980005∧(kyF l o q i).1≤25:=by
 obtain ⟨p1,p2⟩ :=part_rng hl hx o (l.length / 2 ^ q) i
 obtain ⟨h1,h2,h3⟩ :=bkF_le (partF o (l.length / 2 ^ q) (resF o l) i) 25
 have h4:=cs_le h1 _ p2
 refine ⟨?_,h1⟩
 unfold kyF
 rw [h2]
 have:(partF o (l.length / 2 ^ q) (resF o l) i).length*536870980≤1000*536870980:=Nat.mul_le_mul_right _ p1
 omega
theorem sm_le (o q:Nat):∀ k,sm (fun i=>(kyF l o q i).2) k≤k*536870980005
 | 0=>by simp [sm]
 | k+1=>by
  have h1:=sm_le o q k
  have h2:=(ky_le hl hx o q k).1
  simp only [sm]
  omega
theorem allIn_l:allIn (-67108864) 67108863 l=true:=by
 unfold allIn
 rw [List.all_eq_true]
 intro x hx'
 have:=hx x hx'
 simp only [decide_eq_true_eq]
 omega
theorem spec_key (P:List Int) (hP:P.length≤1000) (hPx:∀ x ∈ P,-268435456≤x∧x≤268435455) (a1 a2 a3 a5 a6 a7 a8:Int) (x3 l1 l2:List Int) (a4:Int) :
  loopM (lp_Se_67 l a1 a2 a3 x3 a5 a6 P a7 a8 l1 l2) (0,((5+cs 0 P:Nat):Int),1)=some (((bkF P 25).1:Int),((bkF P 25).2:Int)):=by
 refine loopM_fun (b:=lp_Se_67 l a1 a2 a3 x3 a5 a6 P a7 a8 l1 l2) (fun i (s:Nat×Nat)=>((s.1:Int),(s.2:Int),((i+1:Nat):Int))) 25 (fun i=>bkF P i) (e:=(((bkF P 25).1:Int),((bkF P 25).2:Int))) (fun i hi=>?_) ?_
 ·dsimp only [lp_Se_67,m_Se_67]
  rw [if_pos (by simp;omega),spec_cost hP hPx (i+1) (by omega)]
  simp only [Option.bind_some]
  rw [w64_succ (by omega)]
  have e:bkF P (i+1)=if 5+cs (i+1) P < (bkF P i).2 then (i+1,5+cs (i+1) P) else bkF P i:=rfl
  rw [e]
  by_cases h:5+cs (i+1) P < (bkF P i).2
  ·rw [if_pos (by simp only [decide_eq_true_eq];omega),if_pos h]
  ·rw [if_neg (by simp only [decide_eq_true_eq];omega),if_neg h]
 ·dsimp only [lp_Se_67,m_Se_67]
  rw [if_neg (by simp)]
theorem spec_plan (o q:Nat) (h:ptOk o q l.length=true) (a1 a2 a3:Int) (K:List Int) :
  loopM (lp_Se_48 l a1 (o:Int) (q:Int) (resF o l) a2 a3 K) (w64 (6+w64 (26*(o:Int))),0,[])=some (((plC l o q:Nat):Int),plK l o q):=by
 obtain ⟨g1,g2,g3,g4,g5⟩ :=of_decide_eq_true h
 have hp2:2 ^ q≤2 ^ 4:=Nat.pow_le_pow_right (by decide) g3
 have hr:ptOk o q (resF o l).length=true:=by rw [resF_len];exact h
 rw [w64_id (x:=26*(o:Int)) (by omega) (by omega),w64_id (by omega) (by omega)]
 have key:=loopM_fun (b:=lp_Se_48 l a1 (o:Int) (q:Int) (resF o l) a2 a3 K) (fun i (s:Nat×List Int)=>((s.1:Int),(i:Int),s.2)) (2 ^ q) (fun i=>(6+26*o+sm (fun i=>(kyF l o q i).2) i,(List.range i).map fun i=>((kyF l o q i).1:Int))) (e:=(((plC l o q:Nat):Int),plK l o q)) (fun i hi=>?_) ?_
 ·simp only [sm,List.range_zero,List.map_nil] at key
  have e0:((6+26*o+0:Nat):Int)=6+26*(o:Int):=by omega
  rw [e0,show (((0:Nat):Int))=0 from rfl] at key
  exact key
 ·obtain ⟨p1,p2⟩ :=part_rng hl hx o (l.length / 2 ^ q) i
  have hk:=ky_le hl hx o q i
  have hs:=sm_le hl hx o q i
  have hs2:i*536870980005≤16*536870980005:=Nat.mul_le_mul_right _ (by omega)
  dsimp only [lp_Se_48,m_Se_48]
  rw [wu64_id (x:=(q:Int)) (by omega) (by omega),ck_eq (by omega)]
  simp only [Option.bind_some]
  rw [(shl1 q (by omega)).2,if_pos (by simp only [decide_eq_true_eq];omega),spec_part (resF o l) o q i (by rw [resF_len];exact hl) hr hi,resF_len]
  simp only [Option.bind_some]
  have c0:=spec_cost p1 p2 0 (by omega)
  rw [show (((0:Nat):Int))=0 from rfl] at c0
  rw [c0]
  simp only [Option.bind_some]
  rw [spec_key hl hx _ p1 p2 _ _ _ _ _ _ _ _ _ _ 0]
  simp only [Option.bind_some]
  dsimp only [m_Se_85]
  rw [ck_eq (by simp;omega)]
  simp only [Option.bind_some]
  have e3:(((6+26*o+sm (fun i=>(kyF l o q i).2) i:Nat):Int)+((kyF l o q i).2:Int))=((6+26*o+sm (fun i=>(kyF l o q i).2) (i+1):Nat):Int):=by
   simp only [sm]
   generalize sm (fun i=>(kyF l o q i).2) i=S
   generalize (kyF l o q i).2=Z
   omega
  rw [show bkF (partF o (l.length / 2 ^ q) (resF o l) i) 25=kyF l o q i from rfl,w64_succ (by omega),w64_id (by omega) (by omega),e3,List.range_succ,List.map_append]
  simp only [List.map_cons,List.map_nil]
 ·dsimp only [lp_Se_48,m_Se_48]
  rw [wu64_id (x:=(q:Int)) (by omega) (by omega),ck_eq (by omega)]
  simp only [Option.bind_some]
  rw [(shl1 q (by omega)).2,if_neg (by simp only [decide_eq_true_eq];omega)]
  rfl
theorem spec_best:m_Se l=some (Zc.mk (bestS l).2.1 (bestS l).2.2.1 (bestS l).2.2.2,(bestS l).1):=by
 dsimp only [m_Se,m_Se_0]
 have inner:∀ (o:Nat),o≤4→∀ st:PSt,loopM (lp_Se_23 l (o:Int)) (st.1,0,st.2.1,st.2.2.1,st.2.2.2)=some (stepO l st o):=by
  intro o ho st
  refine (fold_range (n:=5) (σ:=PSt) (fun s q=>(s.1,((q:Nat):Int),s.2.1,s.2.2.1,s.2.2.2)) (g:=stepB l o) (I:=fun _ _=>True) (b:=lp_Se_23 l (o:Int)) (e1:=fun s=>s) (fun q s hq _=>⟨?_,trivial⟩) (fun s _=>?_) st trivial).1
  ·dsimp only [lp_Se_23,m_Se_23]
   rw [if_pos (by simp;omega),spec_parts o q l.length (by omega)]
   simp only [Option.bind_some]
   unfold stepB
   cases h:ptOk o q l.length with
   | false=>
    simp only [Bool.false_eq_true,if_false]
    rw [w64_succ (by omega)]
   | true=>
    simp only [if_true]
    rw [spec_residue hl o ho]
    simp only [Option.bind_some]
    rw [spec_plan hl hx o q h]
    simp only [Option.bind_some]
    have k91:∀ b,m_Se_91 l s.1 (o:Int) (q:Int) ((plC l o q:Nat):Int) s.2.1 s.2.2.1 s.2.2.2 (plK l o q) b=some (.inl (if b=true then (((plC l o q:Nat):Int),((q+1:Nat):Int),(o:Int),(q:Int),plK l o q) else (s.1,((q+1:Nat):Int),s.2.1,s.2.2.1,s.2.2.2))):=by
     intro b
     dsimp only [m_Se_91]
     rw [w64_succ (by omega)]
     cases b <;> rfl
    dsimp only [m_Se_89]
    rw [k91,k91]
    by_cases h1:s.1 < 0
    ·rw [if_pos (by simpa using h1),if_pos (Or.inl h1)];rfl
    ·rw [if_neg (by simpa using h1)]
     by_cases h2:((plC l o q:Nat):Int) < s.1
     ·rw [decide_eq_true h2,if_pos (Or.inr h2)];rfl
     ·rw [decide_eq_false h2,if_neg (fun hh=>Or.elim hh h1 h2)];rfl
  ·dsimp only [lp_Se_23,m_Se_23]
   rw [if_neg (by simp)]
 have outer:=(fold_range (n:=5) (σ:=PSt) (fun s o=>(s.1,((o:Nat):Int),s.2.1,s.2.2.1,s.2.2.2)) (g:=stepO l) (I:=fun _ _=>True) (b:=lp_Se_11 l) (e1:=fun s=>s) (fun o s ho _=>⟨by
   dsimp only [lp_Se_11,m_Se_11]
   rw [if_pos (by simp;omega),inner o (by omega) s]
   simp only [Option.bind_some]
   dsimp only [m_Se_97]
   rw [w64_succ (by omega)],trivial⟩) (fun s _=>by
   dsimp only [lp_Se_11,m_Se_11]
   rw [if_neg (by simp)]) (-1,0,0,[]) trivial).1
 rw [show (((0:Nat):Int))=0 from rfl] at outer
 dsimp only at outer
 rw [outer]
 rfl
theorem impl_key (P:List Int) (hP:P.length≤1000) (hPx:∀ x ∈ P,-268435456≤x∧x≤268435455) (a1 a2 a3 a5 a6 a7 a8 a9:Int) (x3 l1 l2:List Int) :
  loopM (lp_Ia_75 l a1 a2 x3 a3 a5 P a6 a7 a8 a9 l1 l2) (0,-1,0)=some (((bkF P 25).1:Int),((bkF P 25).2:Int)):=by
 have first:lp_Ia_75 l a1 a2 x3 a3 a5 P a6 a7 a8 a9 l1 l2 (0,-1,0)=some (.inl (0,((5+cs 0 P:Nat):Int),1)):=by
  have c0:=impl_cost hP hPx 0 (by omega)
  rw [show (((0:Nat):Int))=0 from rfl] at c0
  dsimp only [lp_Ia_75,m_Ia_75]
  rw [if_pos (by decide),c0]
  simp only [Option.bind_some]
  rw [if_pos (by decide)]
  rfl
 refine (lp_step first).trans ?_
 refine loopM_fun (b:=lp_Ia_75 l a1 a2 x3 a3 a5 P a6 a7 a8 a9 l1 l2) (fun i (s:Nat×Nat)=>((s.1:Int),(s.2:Int),((i+1:Nat):Int))) 25 (fun i=>bkF P i) (e:=(((bkF P 25).1:Int),((bkF P 25).2:Int))) (fun i hi=>?_) ?_
 ·dsimp only [lp_Ia_75,m_Ia_75]
  rw [if_pos (by simp;omega),impl_cost hP hPx (i+1) (by omega)]
  simp only [Option.bind_some]
  rw [if_neg (by simp)]
  dsimp only [m_Ia_87]
  rw [w64_succ (by omega)]
  have e:bkF P (i+1)=if 5+cs (i+1) P < (bkF P i).2 then (i+1,5+cs (i+1) P) else bkF P i:=rfl
  rw [e]
  by_cases h:5+cs (i+1) P < (bkF P i).2
  ·rw [if_pos (by simp only [decide_eq_true_eq];omega),if_pos h]
  ·rw [if_neg (by simp only [decide_eq_true_eq];omega),if_neg h]
 ·dsimp only [lp_Ia_75,m_Ia_75]
  rw [if_neg (by simp)]
theorem impl_plan (o q:Nat) (h:ptOk o q l.length=true) (a1 a2 a3:Int) (K:List Int) :
  loopM (lp_Ia_56 l a1 (o:Int) (resF o l) (q:Int) a2 a3 K) (w64 (6+w64 (26*(o:Int))),((2 ^ q:Nat):Int),0,[])=some (((plC l o q:Nat):Int),plK l o q):=by
 obtain ⟨g1,g2,g3,g4,g5⟩ :=of_decide_eq_true h
 have hp2:2 ^ q≤2 ^ 4:=Nat.pow_le_pow_right (by decide) g3
 have hr:ptOk o q (resF o l).length=true:=by rw [resF_len];exact h
 rw [w64_id (x:=26*(o:Int)) (by omega) (by omega),w64_id (by omega) (by omega)]
 have key:=loopM_fun (b:=lp_Ia_56 l a1 (o:Int) (resF o l) (q:Int) a2 a3 K) (fun i (s:Nat×List Int)=>((s.1:Int),((2 ^ q:Nat):Int),(i:Int),s.2)) (2 ^ q) (fun i=>(6+26*o+sm (fun i=>(kyF l o q i).2) i,(List.range i).map fun i=>((kyF l o q i).1:Int))) (e:=(((plC l o q:Nat):Int),plK l o q)) (fun i hi=>?_) ?_
 ·simp only [sm,List.range_zero,List.map_nil] at key
  have e0:((6+26*o+0:Nat):Int)=6+26*(o:Int):=by omega
  rw [e0,show (((0:Nat):Int))=0 from rfl] at key
  exact key
 ·obtain ⟨p1,p2⟩ :=part_rng hl hx o (l.length / 2 ^ q) i
  have hk:=ky_le hl hx o q i
  have hs:=sm_le hl hx o q i
  have hs2:i*536870980005≤16*536870980005:=Nat.mul_le_mul_right _ (by omega)
  dsimp only [lp_Ia_56,m_Ia_56]
  rw [if_pos (by simp only [decide_eq_true_eq];omega),impl_part (resF o l) o q i (by rw [resF_len];exact hl) hr hi,resF_len]
  simp only [Option.bind_some]
  rw [impl_key hl hx _ p1 p2]
  simp only [Option.bind_some]
  dsimp only [m_Ia_91]
  rw [ck_eq (by simp;omega)]
  simp only [Option.bind_some]
  have e3:(((6+26*o+sm (fun i=>(kyF l o q i).2) i:Nat):Int)+((kyF l o q i).2:Int))=((6+26*o+sm (fun i=>(kyF l o q i).2) (i+1):Nat):Int):=by
   simp only [sm]
   generalize sm (fun i=>(kyF l o q i).2) i=S
   generalize (kyF l o q i).2=Z
   omega
  rw [show bkF (partF o (l.length / 2 ^ q) (resF o l) i) 25=kyF l o q i from rfl,w64_succ (by omega),w64_id (by omega) (by omega),e3,List.range_succ,List.map_append]
  simp only [List.map_cons,List.map_nil]
 ·dsimp only [lp_Ia_56,m_Ia_56]
  rw [if_neg (by simp only [decide_eq_true_eq];omega)]
  rfl
theorem impl_best:m_Ia l=some (Zc.mk (bestS l).2.1 (bestS l).2.2.1 (bestS l).2.2.2):=by
 dsimp only [m_Ia,m_Ia_0]
 rw [impl_list26 l (by omega),allIn_l hl hx,decide_eq_true (by omega)]
 simp only [Option.bind_some,Bool.true_and,if_true]
 have inner:∀ (o:Nat),o≤4→∀ st:PSt,loopM (lp_Ia_33 l (o:Int) (resF o l)) (st.1,0,st.2.1,st.2.2.1,st.2.2.2)=some (stepO l st o):=by
  intro o ho st
  refine (fold_range (n:=5) (σ:=PSt) (fun s q=>(s.1,((q:Nat):Int),s.2.1,s.2.2.1,s.2.2.2)) (g:=stepB l o) (I:=fun _ _=>True) (b:=lp_Ia_33 l (o:Int) (resF o l)) (e1:=fun s=>s) (fun q s hq _=>⟨?_,trivial⟩) (fun s _=>?_) st trivial).1
  ·dsimp only [lp_Ia_33,m_Ia_33]
   rw [if_pos (by simp;omega),impl_fits o q l.length (by omega)]
   simp only [Option.bind_some]
   unfold stepB
   cases h:ptOk o q l.length with
   | false=>
    simp only [Bool.false_eq_true,if_false]
    rw [w64_succ (by omega)]
   | true=>
    simp only [if_true]
    rw [ck_eq (by omega)]
    simp only [Option.bind_some]
    rw [(shl1 q (by omega)).2,impl_plan hl hx o q h]
    simp only [Option.bind_some]
    have k97:∀ b,m_Ia_97 l s.1 (o:Int) (resF o l) (q:Int) ((plC l o q:Nat):Int) s.2.1 s.2.2.1 s.2.2.2 (plK l o q) b=some (.inl (if b=true then (((plC l o q:Nat):Int),((q+1:Nat):Int),(o:Int),(q:Int),plK l o q) else (s.1,((q+1:Nat):Int),s.2.1,s.2.2.1,s.2.2.2))):=by
     intro b
     dsimp only [m_Ia_97]
     rw [w64_succ (by omega)]
     cases b <;> rfl
    dsimp only [m_Ia_95]
    rw [k97,k97]
    by_cases h1:s.1 < 0
    ·rw [if_pos (by simpa using h1),if_pos (Or.inl h1)];rfl
    ·rw [if_neg (by simpa using h1)]
     by_cases h2:((plC l o q:Nat):Int) < s.1
     ·rw [decide_eq_true h2,if_pos (Or.inr h2)];rfl
     ·rw [decide_eq_false h2,if_neg (fun hh=>Or.elim hh h1 h2)];rfl
  ·dsimp only [lp_Ia_33,m_Ia_33]
   rw [if_neg (by simp)]
 have outer:=(fold_range (n:=5) (σ:=PSt) (fun s o=>(s.1,((o:Nat):Int),s.2.1,s.2.2.1,s.2.2.2)) (g:=stepO l) (I:=fun _ _=>True) (b:=lp_Ia_19 l) (e1:=fun s=>s.2) (fun o s ho _=>⟨by
   dsimp only [lp_Ia_19,m_Ia_19]
   rw [if_pos (by simp;omega),impl_residue hl o (by omega) (allIn_l hl hx)]
   simp only [Option.bind_some]
   rw [inner o (by omega) s]
   simp only [Option.bind_some]
   dsimp only [m_Ia_101]
   rw [w64_succ (by omega)],trivial⟩) (fun s _=>by
   dsimp only [lp_Ia_19,m_Ia_19]
   rw [if_neg (by simp)]) (-1,0,0,[]) trivial).1
 rw [show (((0:Nat):Int))=0 from rfl] at outer
 dsimp only at outer
 rw [outer]
 rfl
omit hl hx in
theorem foldl_pres {α β:Type} {f:α→β→α} {P:α→Prop} : ∀ (L:List β) (s:α),(∀ b ∈ L,∀ s,P s→P (f s b))→P s→P (L.foldl f s)
 | [],s,_,h=>h
 | b::L,s,hf,h=>foldl_pres L (f s b) (fun c hc=>hf c (by simp [hc])) (hf b (by simp) s h)
def PlP (l:List Int) (st:PSt):Prop:=∃ o q:Nat,ptOk o q l.length=true∧st=(((plC l o q:Nat):Int),(o:Int),(q:Int),plK l o q)∧plC l o q≤plC l 0 0
omit hx in
theorem bestS_P:PlP l (bestS l):=by
 have step:∀ (o q:Nat) (st:PSt),PlP l st→PlP l (stepB l o st q):=by
  rintro o q st ⟨o',q',h1,rfl,h3⟩
  unfold stepB
  by_cases h:ptOk o q l.length=true
  ·rw [if_pos h]
   dsimp only
   by_cases h2:((plC l o' q' : Nat):Int) < 0∨((plC l o q:Nat):Int) < ((plC l o' q' : Nat):Int)
   ·rw [if_pos h2]
    exact ⟨o,q,h,rfl,by omega⟩
   ·rw [if_neg h2]
    exact ⟨o',q',h1,rfl,h3⟩
  ·rw [if_neg h]
   exact ⟨o',q',h1,rfl,h3⟩
 have h00:ptOk 0 0 l.length=true:=by
  unfold ptOk
  simp
  omega
 have first:PlP l (stepB l 0 (-1,0,0,[]) 0):=by
  unfold stepB
  rw [if_pos h00,if_pos (Or.inl (by decide))]
  exact ⟨0,0,h00,rfl,Nat.le_refl _⟩
 have o0:PlP l (stepO l (-1,0,0,[]) 0):=by
  unfold stepO
  rw [show List.range 5=0::[1,2,3,4] from rfl,List.foldl_cons]
  exact foldl_pres _ _ (fun q _ s hs=>step 0 q s hs) first
 unfold bestS
 rw [show List.range 5=0::[1,2,3,4] from rfl,List.foldl_cons]
 refine foldl_pres _ _ (fun o _ s hs=>?_) o0
 unfold stepO
 exact foldl_pres _ _ (fun q _ s hs=>step o q s hs) hs
theorem plC_00:plC l 0 0≤11+32*l.length:=by
 have e:∀ l:List Int,cs 25 l=32*l.length:=fun l=>by
  induction l with
  | nil=>rfl
  | cons x xs ih=>simp only [cs,ih,List.length_cons,ric,if_true];omega
 have h1:=(bkF_le (partF 0 (l.length / 2 ^ 0) (resF 0 l) 0) 25).2.2 25 (Nat.le_refl _)
 have h2:=partF_len 0 (l.length / 2 ^ 0) 0 (resF 0 l)
 rw [e] at h1
 simp only [Nat.pow_zero,Nat.div_one] at h1 h2
 unfold plC
 simp only [Nat.pow_zero,sm,Nat.mul_zero,Nat.add_zero,Nat.zero_add]
 unfold kyF
 simp only [Nat.pow_zero,Nat.div_one]
 omega
theorem bestS_cost:0≤(bestS l).1∧(bestS l).1≤11+32*l.length:=by
 obtain ⟨o,q,h1,h2,h3⟩ :=bestS_P hl
 have:=plC_00 hl hx
 rw [h2]
 dsimp only
 omega
theorem impl_plancost:m_If (Zc.mk (bestS l).2.1 (bestS l).2.2.1 (bestS l).2.2.2) l=some (bestS l).1:=by
 obtain ⟨o,q,h,h2,h3⟩ :=bestS_P hl
 rw [h2]
 obtain ⟨g1,g2,g3,g4,g5⟩ :=of_decide_eq_true h
 have hp2:2 ^ q≤2 ^ 4:=Nat.pow_le_pow_right (by decide) g3
 have hr:ptOk o q (resF o l).length=true:=by rw [resF_len];exact h
 have hkl:(plK l o q).length=2 ^ q:=by simp [plK]
 have hkr:allIn 0 25 (plK l o q)=true:=by
  unfold allIn
  rw [List.all_eq_true]
  intro x hx'
  simp only [plK,List.mem_map,List.mem_range] at hx'
  obtain ⟨i,hi,rfl⟩ :=hx'
  have:=(ky_le hl hx o q i).2
  simp only [decide_eq_true_eq]
  omega
 dsimp only [m_If,m_If_0]
 rw [impl_list26 l (by omega),allIn_l hl hx,decide_eq_true (by omega)]
 simp only [Option.bind_some,Bool.true_and,if_true]
 rw [impl_fits o q l.length (by omega),h]
 simp only [Option.bind_some,if_true]
 rw [ck_eq (by omega)]
 simp only [Option.bind_some]
 rw [(shl1 q (by omega)).2,hkl,if_neg (by simp)]
 have ir:=impl_range (plK l o q) 0 25 16 (by omega)
 rw [show ((16:Nat):Int)=16 from rfl,hkr,decide_eq_true (by omega)] at ir
 rw [ir]
 simp only [Option.bind_some,Bool.true_and,if_true]
 rw [impl_residue hl o g1 (allIn_l hl hx)]
 simp only [Option.bind_some]
 rw [w64_id (x:=26*(o:Int)) (by omega) (by omega),w64_id (by omega) (by omega)]
 have key:=loopM_fun (b:=lp_If_19 (resF o l) (Zc.mk (o:Int) (q:Int) (plK l o q))) (fun i (s:Nat)=>((s:Int),(i:Int))) (2 ^ q) (fun i=>6+26*o+sm (fun i=>(kyF l o q i).2) i) (e:=((plC l o q:Nat):Int)) (fun i hi=>?_) ?_
 ·simp only [sm] at key
  have e0:((6+26*o+0:Nat):Int)=6+26*(o:Int):=by omega
  rw [e0,show (((0:Nat):Int))=0 from rfl] at key
  rw [key]
  rfl
 ·obtain ⟨p1,p2⟩ :=part_rng hl hx o (l.length / 2 ^ q) i
  have hk:=ky_le hl hx o q i
  have hs:=sm_le hl hx o q i
  have hs2:i*536870980005≤16*536870980005:=Nat.mul_le_mul_right _ (by omega)
  have hki:rd (plK l o q) (i:Int)=some ((kyF l o q i).1:Int):=by
   rw [rd_eq (by omega)]
   simp [plK]
  dsimp only [lp_If_19,m_If_19]
  rw [hkl,if_pos (by simp only [decide_eq_true_eq];omega),hki]
  simp only [Option.bind_some]
  rw [impl_part (resF o l) o q i (by rw [resF_len];exact hl) hr hi,resF_len]
  simp only [Option.bind_some]
  rw [impl_cost p1 p2 _ hk.2]
  simp only [Option.bind_some]
  have e2:5+cs (kyF l o q i).1 (partF o (l.length / 2 ^ q) (resF o l) i)=(kyF l o q i).2:=((bkF_le (partF o (l.length / 2 ^ q) (resF o l) i) 25).2.1).symm
  have e3:(((6+26*o+sm (fun i=>(kyF l o q i).2) i:Nat):Int)+((kyF l o q i).2:Int))=((6+26*o+sm (fun i=>(kyF l o q i).2) (i+1):Nat):Int):=by
   simp only [sm]
   generalize sm (fun i=>(kyF l o q i).2) i=S
   generalize (kyF l o q i).2=Z
   omega
  rw [e2,w64_succ (by omega),w64_id (by omega) (by omega),e3]
 ·dsimp only [lp_If_19,m_If_19]
  rw [hkl,if_neg (by simp only [decide_eq_true_eq];omega)]
  rfl
end
end Go.Proofs.V

namespace Go.Proofs.V
open Go
def ttx (w:Nat) (x y:Int):Int:=if w=2 then (x+y) / 2 else x
def tty (w:Nat) (x y:Int):Int:=if w=0 then y else x - y
def trF (w:Nat) (a b:List Int):List Int×List Int:=(List.zipWith (ttx w) a b,List.zipWith (tty w) a b)
theorem tt_vals (x y:Int) (hx : -8388608≤x∧x≤8388607) (hy : -8388608≤y∧y≤8388607):w64 (x - y)=x - y∧shrI .i64 (w64 (x+y)) 1=(x+y) / 2:=by
 refine ⟨w64_id (by omega) (by omega),?_⟩
 rw [w64_id (by omega) (by omega)]
 unfold shrI
 rw [show (2:Int) ^ min (Int.toNat 1) IntKind.i64.bits=2 from rfl,Int.fdiv_eq_ediv_of_nonneg _ (by omega)]
section
variable {a b:List Int} (hn:a.length≤1000) (hab:a.length=b.length) (ha:∀ x ∈ a,-8388608≤x∧x≤8388607) (hb:∀ x ∈ b,-8388608≤x∧x≤8388607) (w:Nat) (hw:w≤2)
include hn hab ha hb hw
theorem spec_turn:m_Sn (w:Int) a b=some (trF w a b):=by
 dsimp only [m_Sn,m_Sn_0]
 have hX:(List.zipWith (ttx w) a b).length=a.length:=by simp;omega
 have hY:(List.zipWith (tty w) a b).length=a.length:=by simp;omega
 rw [ck_eq (by omega)]
 simp only [Option.bind_some]
 have key:loopM (lp_Sn_11 (w:Int) a b) (0,List.replicate (Int.toNat (a.length:Int)) 0,List.replicate (Int.toNat (a.length:Int)) 0)=some (List.zipWith (ttx w) a b,List.zipWith (tty w) a b):=by
  have:=loopM_fun (b:=lp_Sn_11 (w:Int) a b) (fun i (s:List Int×List Int)=>((i:Int),s.1,s.2)) a.length
   (fun i=>((List.zipWith (ttx w) a b).take i++List.replicate (a.length - i) 0,(List.zipWith (tty w) a b).take i++List.replicate (a.length - i) 0)) (e:=(List.zipWith (ttx w) a b,List.zipWith (tty w) a b)) (fun i hi=>?_) ?_
  ·simpa using this
  ·have hib:i < b.length:=by omega
   obtain ⟨v1,v2⟩ :=tt_vals a[i] b[i] (ha a[i] (by simp)) (hb b[i] (by simp))
   have fx:=fill_n (List.zipWith (ttx w) a b) i a.length (ttx w a[i] b[i]) hX hi (by simp)
   have fy:=fill_n (List.zipWith (tty w) a b) i a.length (tty w a[i] b[i]) hY hi (by simp)
   have lx:((List.zipWith (ttx w) a b).take i++List.replicate (a.length - i) (0:Int)).length=a.length:=by simp;omega
   have ly:((List.zipWith (tty w) a b).take i++List.replicate (a.length - i) (0:Int)).length=a.length:=by simp;omega
   dsimp only
   generalize (List.zipWith (ttx w) a b).take i++List.replicate (a.length - i) (0:Int)=X at fx lx
   generalize (List.zipWith (tty w) a b).take i++List.replicate (a.length - i) (0:Int)=Y at fy ly
   obtain ⟨xv,hxv⟩ :=rd_any X i (by omega)
   obtain ⟨yv,hyv⟩ :=rd_any Y i (by omega)
   have k31:∀ (q:List Int),m_Sn_31 (w:Int) a b (i:Int) (X.set (0+Int.toNat (i:Int)) a[i]) q=some (.inl (((i+1:Nat):Int),X.set (0+Int.toNat (i:Int)) (ttx w a[i] b[i]),q)):=by
    intro q
    dsimp only [m_Sn_31]
    rw [w64_succ (by omega)]
    unfold ttx
    by_cases h2:w=2
    ·obtain ⟨zv,hzv⟩ :=rd_any (X.set (0+Int.toNat (i:Int)) a[i]) i (by simp;omega)
     rw [if_pos (by simp [h2]),if_pos h2,rd_eq hi,rd_eq hib,hzv]
     simp only [Option.bind_some]
     rw [v2,List.set_set]
    ·rw [if_neg (by simp;omega),if_neg h2]
   dsimp only [lp_Sn_11,m_Sn_11]
   rw [if_pos (by simpa using hi),rd_eq hi,hxv,rd_eq hib,hyv]
   simp only [Option.bind_some]
   rw [k31,k31,v1,fx,←fy]
   unfold tty
   by_cases h0:w=0
   ·rw [if_neg (by simp [h0]),if_pos h0]
   ·rw [if_pos (by simp;omega),if_neg h0]
  ·dsimp only [lp_Sn_11,m_Sn_11]
   rw [if_neg (by simp),List.take_of_length_le (by omega),List.take_of_length_le (by omega),Nat.sub_self]
   simp
 rw [key]
 rfl
theorem impl_turn:m_Ih (w:Int) a b=some (trF w a b):=by
 dsimp only [m_Ih,m_Ih_0]
 have hX:(List.zipWith (ttx w) a b).length=a.length:=by simp;omega
 have hY:(List.zipWith (tty w) a b).length=a.length:=by simp;omega
 have hra:allIn (-67108864) 67108863 a=true:=by
  unfold allIn;rw [List.all_eq_true];intro x hx;have:=ha x hx;simp only [decide_eq_true_eq];omega
 have hrb:allIn (-67108864) 67108863 b=true:=by
  unfold allIn;rw [List.all_eq_true];intro x hx;have:=hb x hx;simp only [decide_eq_true_eq];omega
 rw [impl_list26 a (by omega),impl_list26 b (by omega),hra,hrb,decide_eq_true (by omega:a.length≤4000),decide_eq_true (by omega:b.length≤4000)]
 simp only [Option.bind_some,Bool.true_and,if_true]
 rw [if_neg (by simp [hab]),if_neg (by simp),show decide ((w:Int) > 2)=false by simp;omega]
 dsimp only [m_Ih_5]
 rw [if_neg (by simp)]
 dsimp only [m_Il,m_Il_0]
 rw [ck_eq (by simp;omega),ck_eq (by simp;omega)]
 simp only [Option.bind_some,List.nil_append]
 have key:loopM (lp_Ih_17 (w:Int) a b) (0,a,b)=some (List.zipWith (ttx w) a b,List.zipWith (tty w) a b):=by
  have:=loopM_fun (b:=lp_Ih_17 (w:Int) a b) (fun i (s:List Int×List Int)=>((i:Int),s.1,s.2)) a.length
   (fun i=>((List.zipWith (ttx w) a b).take i++a.drop i,(List.zipWith (tty w) a b).take i++b.drop i)) (e:=(List.zipWith (ttx w) a b,List.zipWith (tty w) a b)) (fun i hi=>?_) ?_
  ·simpa using this
  ·have hib:i < b.length:=by omega
   obtain ⟨v1,v2⟩ :=tt_vals a[i] b[i] (ha a[i] (by simp)) (hb b[i] (by simp))
   have fx:=upd_n (List.zipWith (ttx w) a b) a i (ttx w a[i] b[i]) (by omega) hX (by simp)
   have fy:=upd_n (List.zipWith (tty w) a b) b i (tty w a[i] b[i]) (by omega) (by omega) (by simp)
   obtain ⟨xv,hxv⟩ :=rd_any ((List.zipWith (ttx w) a b).take i++a.drop i) i (by simp;omega)
   obtain ⟨yv,hyv⟩ :=rd_any ((List.zipWith (tty w) a b).take i++b.drop i) i (by simp;omega)
   have zx:w≠2→List.zipWith (ttx w) a b=a:=fun h=>by
    apply List.ext_getElem
    ·exact hX
    ·intro j h1 h2
     simp [ttx,h]
   have zy:w=0→List.zipWith (tty w) a b=b:=fun h=>by
    apply List.ext_getElem
    ·omega
    ·intro j h1 h2
     simp [tty,h]
   dsimp only
   have k33:∀ q:List Int,m_Ih_33 (w:Int) a b (i:Int) ((List.zipWith (ttx w) a b).take i++a.drop i) q=some (.inl (((i+1:Nat):Int),(List.zipWith (ttx w) a b).take (i+1)++a.drop (i+1),q)):=by
    intro q
    dsimp only [m_Ih_33]
    rw [w64_succ (by omega)]
    by_cases h2:w=2
    ·have e2:ttx w a[i] b[i]=(a[i]+b[i]) / 2:=by unfold ttx;rw [if_pos h2]
     rw [if_pos (by simp [h2]),rd_eq hi,rd_eq hib,hxv]
     simp only [Option.bind_some]
     rw [v2,←e2,fx]
    ·rw [if_neg (by simp;omega),zx h2,List.take_append_drop,List.take_append_drop]
   dsimp only [lp_Ih_17,m_Ih_17]
   rw [if_pos (by simpa using hi)]
   by_cases h0:w=0
   ·rw [if_neg (by simp [h0]),k33,zy h0,List.take_append_drop,List.take_append_drop]
   ·have e2:tty w a[i] b[i]=a[i] - b[i]:=by unfold tty;rw [if_neg h0]
    rw [if_pos (by simp;omega),rd_eq hi,rd_eq hib,hyv]
    simp only [Option.bind_some]
    rw [k33,v1,←e2,fy]
  ·dsimp only [lp_Ih_17,m_Ih_17]
   rw [if_neg (by simp),List.take_of_length_le (by omega),List.take_of_length_le (by omega),List.drop_of_length_le (by omega),List.drop_of_length_le (by omega)]
   simp
 rw [key]
 rfl
theorem trF_facts:((trF w a b).1.length=a.length∧(trF w a b).2.length=a.length)∧(∀ x ∈ (trF w a b).1,-16777215≤x∧x≤16777215)∧∀ x ∈ (trF w a b).2,-16777215≤x∧x≤16777215:=by
 refine ⟨⟨by simp [trF];omega,by simp [trF];omega⟩,fun x hx=>?_,fun x hx=>?_⟩
 ·obtain ⟨i,hi,rfl⟩ :=List.getElem_of_mem hx
  simp only [trF,List.length_zipWith] at hi
  simp only [trF,List.getElem_zipWith]
  have h1:=ha (a[i]'(by omega)) (by simp)
  have h2:=hb (b[i]'(by omega)) (by simp)
  unfold ttx
  split <;> omega
 ·obtain ⟨i,hi,rfl⟩ :=List.getElem_of_mem hx
  simp only [trF,List.length_zipWith] at hi
  simp only [trF,List.getElem_zipWith]
  have h1:=ha (a[i]'(by omega)) (by simp)
  have h2:=hb (b[i]'(by omega)) (by simp)
  unfold tty
  split <;> omega
end
def riS (k:Nat) (x:Int) (s:BS):BS:=if k=25 then putS 32 (wr .u64 x) s else riceS k x s
def partW (k:Nat):List Int→BS→BS
 | [],s=>s
 | x::xs,s=>partW k xs (riS k x s)
def keysF (l:List Int) (o q:Nat):Nat→Nat→BS→BS
 | 0,i,s=>s
 | k+1,i,s=>keysF l o q k (i+1) (partW (kyF l o q i).1 (partF o (l.length / 2 ^ q) (resF o l) i) (putS 5 (wr .u64 ((kyF l o q i).1:Int)) s))
def ordF (l:List Int):Nat→Nat→BS→BS
 | 0,i,s=>s
 | k+1,i,s=>ordF l k (i+1) (putS 26 (wr .u64 (l.getD i 0)) s)
def kc (l:List Int) (o q:Nat):Nat→Nat→Nat
 | 0,i=>0
 | k+1,i=>(kyF l o q i).2+kc l o q k (i+1)
def plS (l:List Int) (o q:Nat) (s:BS):BS:=keysF l o q (2 ^ q) 0 (putS 3 (wr .u64 (q:Int)) (ordF l o 0 (putS 3 (wr .u64 (o:Int)) s)))
theorem kc_sm (l:List Int) (o q:Nat):∀ (k i:Nat),sm (fun i=>(kyF l o q i).2) (i+k)=sm (fun i=>(kyF l o q i).2) i+kc l o q k i
 | 0,i=>by simp [kc]
 | k+1,i=>by
  have:=kc_sm l o q k (i+1)
  rw [show i+(k+1)=i+1+k by omega,this]
  simp only [kc,sm]
  omega
theorem riS_w {k:Nat} (hk:k≤25) {x:Int} (hx : -268435456≤x∧x≤268435455) {s:BS} (h:WB s) (hn:s.2+ric k x≤17592186044416):WB (riS k x s)∧(riS k x s).2=s.2+ric k x:=by
 unfold riS ric at *
 split
 ·rename_i h25
  rw [if_pos h25] at hn
  exact ⟨putS_wb _ _ _ h (by omega),putS_n _ _ _⟩
 ·rename_i h25
  rw [if_neg h25] at hn
  exact ⟨riceS_wb h (by omega) hx.1 hx.2 (by omega),by rw [riceS_n];omega⟩
theorem partW_w {k:Nat} (hk:k≤25):∀ (P:List Int) {s:BS},(∀ x ∈ P,-268435456≤x∧x≤268435455)→WB s→s.2+cs k P≤17592186044416→WB (partW k P s)∧(partW k P s).2=s.2+cs k P
 | [],s,_,h,_=>⟨h,rfl⟩
 | x::P,s,hx,h,hn=>by
  simp only [cs] at hn
  obtain ⟨h1,h2⟩ :=riS_w hk (hx x (by simp)) h (by omega)
  obtain ⟨h3,h4⟩ :=partW_w hk P (s:=riS k x s) (fun y hy=>hx y (by simp [hy])) h1 (by omega)
  refine ⟨h3,?_⟩
  show (partW k P (riS k x s)).2=s.2+(ric k x+cs k P)
  omega
theorem ordF_w (l:List Int):∀ (k i:Nat) {s:BS},WB s→s.2+26*k≤17592186044416→WB (ordF l k i s)∧(ordF l k i s).2=s.2+26*k
 | 0,i,s,h,_=>⟨h,rfl⟩
 | k+1,i,s,h,hn=>by
  have e:=putS_n 26 (wr .u64 (l.getD i 0)) s
  obtain ⟨h3,h4⟩ :=ordF_w l k (i+1) (s:=putS 26 (wr .u64 (l.getD i 0)) s) (putS_wb _ _ _ h (by omega)) (by omega)
  refine ⟨h3,?_⟩
  show (ordF l k (i+1) _).2=_
  omega
section
variable {l:List Int} (hl:l.length≤1000) (hx:∀ x ∈ l,-16777215≤x∧x≤16777215)
include hl hx
theorem ky_eq (o q i:Nat):(kyF l o q i).2=5+cs (kyF l o q i).1 (partF o (l.length / 2 ^ q) (resF o l) i):=(bkF_le (partF o (l.length / 2 ^ q) (resF o l) i) 25).2.1
theorem keysF_w (o q:Nat):∀ (k i:Nat) {s:BS},WB s→s.2+kc l o q k i≤17592186044416→WB (keysF l o q k i s)∧(keysF l o q k i s).2=s.2+kc l o q k i
 | 0,i,s,h,_=>⟨h,rfl⟩
 | k+1,i,s,h,hn=>by
  simp only [kc] at hn
  have e:=putS_n 5 (wr .u64 ((kyF l o q i).1:Int)) s
  have e2:=ky_eq hl hx o q i
  have e3:=(ky_le hl hx o q i).2
  obtain ⟨h1,h2⟩ :=partW_w e3 (partF o (l.length / 2 ^ q) (resF o l) i) (s:=putS 5 (wr .u64 ((kyF l o q i).1:Int)) s) (part_rng hl hx o _ i).2 (putS_wb _ _ _ h (by omega)) (by omega)
  obtain ⟨h3,h4⟩ :=keysF_w o q k (i+1) (s:=_) h1 (by omega)
  refine ⟨h3,?_⟩
  show (keysF l o q k (i+1) _).2=s.2+((kyF l o q i).2+kc l o q k (i+1))
  omega
theorem plS_w {o q:Nat} {s:BS} (h:WB s) (hn:s.2+plC l o q≤17592186044416):WB (plS l o q s)∧(plS l o q s).2=s.2+plC l o q:=by
 have k0:=kc_sm l o q (2 ^ q) 0
 rw [Nat.zero_add] at k0
 have s0:sm (fun i=>(kyF l o q i).2) 0=0:=rfl
 have hp:plC l o q=6+26*o+sm (fun i=>(kyF l o q i).2) (2 ^ q):=rfl
 have e1:=putS_n 3 (wr .u64 (o:Int)) s
 have w1:=putS_wb 3 (wr .u64 (o:Int)) s h (by omega)
 obtain ⟨w2,e2⟩ :=ordF_w l o 0 w1 (by omega)
 have e3:=putS_n 3 (wr .u64 (q:Int)) (ordF l o 0 (putS 3 (wr .u64 (o:Int)) s))
 have w3:=putS_wb 3 (wr .u64 (q:Int)) _ w2 (by omega)
 obtain ⟨w4,e4⟩ :=keysF_w hl hx o q (2 ^ q) 0 w3 (by omega)
 exact ⟨w4,by show (keysF l o q (2 ^ q) 0 _).2=_;omega⟩
theorem s_partW {k:Nat} (hk:k≤25) (x0:List Int) (x27:Int) (h27:x27=k) (p:Zc×Int) (i27:Int) (P:List Int) (hP:P.length≤1000):∀ (R:List Int) (i:Nat) (s:BS),i+R.length=P.length→P.drop i=R→(∀ x ∈ R,-268435456≤x∧x≤268435455)→WB s→s.2+cs k R≤17592186044416→
  loopM (lp_Sq_43 x0 x27 p i27 P) ((i:Int),true,(s.2:Int),s.1)=some (true,((partW k R s).2:Int),(partW k R s).1)
 | [],i,s,h1,h2,h3,h4,h5=>by
  refine lp_end ?_
  dsimp only [lp_Sq_43,m_Sq_43]
  simp at h1
  rw [if_neg (by simp;omega)]
  rfl
 | x::R,i,s,h1,h2,h3,h4,h5=>by
  have hi:i < P.length:=by simp at h1;omega
  have hxx:rd P (i:Int)=some x:=by
   rw [rd_eq hi]
   rw [List.drop_eq_getElem_cons hi] at h2
   rw [(List.cons.inj h2).1]
  have h2' : P.drop (i+1)=R:=by
   rw [List.drop_eq_getElem_cons hi] at h2
   exact (List.cons.inj h2).2
  simp only [cs] at h5
  have hxr:=h3 x (by simp)
  obtain ⟨w1,w2⟩ :=riS_w hk hxr h4 (by omega)
  have hr:=ric_le hk hxr
  have step:lp_Sq_43 x0 x27 p i27 P ((i:Int),true,(s.2:Int),s.1)=some (.inl (((i+1:Nat):Int),true,((riS k x s).2:Int),(riS k x s).1)):=by
   have hrice:m_Ss (Zb.mk true s.1 (s.2:Int)) x27 x=some (sinkOf (riS k x s)):=by
    rw [h27]
    unfold riS
    by_cases h25:k=25
    ·subst h25
     rw [if_pos rfl]
     dsimp only [m_Ss,m_Ss_0]
     rw [if_pos (by rfl)]
     have:=spec_put 32 (wr .u64 x) s h4 (by omega) (by omega)
     rw [show ((32:Nat):Int)=32 from rfl] at this
     rw [show Zb.mk true s.1 (s.2:Int)=sinkOf s from rfl,this]
     rfl
    ·rw [if_neg h25]
     exact spec_rice h4 (by omega) hxr.1 hxr.2 (by omega)
   dsimp only [lp_Sq_43,m_Sq_43]
   rw [if_pos (by simpa using hi),hxx]
   simp only [Option.bind_some]
   rw [hrice]
   simp only [Option.bind_some]
   rw [w64_succ (by omega)]
  exact (lp_step step).trans (s_partW hk x0 x27 h27 p i27 P hP R (i+1) (riS k x s) (by simp at h1;omega) h2' (fun y hy=>h3 y (by simp [hy])) w1 (by omega))
theorem s_keysF {o q:Nat} (h:ptOk o q l.length=true) (c:Int):∀ (k i:Nat) (s:BS),i+k=2 ^ q→WB s→s.2+kc l o q k i≤17592186044416→
  loopM (lp_Sq_27 (resF o l) (Zc.mk (o:Int) (q:Int) (plK l o q),c)) ((i:Int),true,(s.2:Int),s.1)=some (sinkOf (keysF l o q k i s)):=by
 obtain ⟨g1,g2,g3,g4,g5⟩ :=of_decide_eq_true h
 have hp2:2 ^ q≤2 ^ 4:=Nat.pow_le_pow_right (by decide) g3
 have hr:ptOk o q (resF o l).length=true:=by rw [resF_len];exact h
 have hkl:(plK l o q).length=2 ^ q:=by simp [plK]
 intro k
 induction k with
 | zero=>
  intro i s hi hs hn
  refine lp_end ?_
  dsimp only [lp_Sq_27,m_Sq_27]
  rw [hkl,if_neg (by simp only [decide_eq_true_eq];omega)]
  rfl
 | succ k ih=>
  intro i s hi hs hn
  simp only [kc] at hn
  have hki:rd (plK l o q) (i:Int)=some ((kyF l o q i).1:Int):=by
   rw [rd_eq (by omega)]
   simp [plK]
  obtain ⟨p1,p2⟩ :=part_rng hl hx o (l.length / 2 ^ q) i
  have e2:=ky_eq hl hx o q i
  have e3:=(ky_le hl hx o q i).2
  have e:=putS_n 5 (wr .u64 ((kyF l o q i).1:Int)) s
  have w1:=putS_wb 5 (wr .u64 ((kyF l o q i).1:Int)) s hs (by omega)
  have hput:=spec_put 5 (wr .u64 ((kyF l o q i).1:Int)) s hs (by omega) (by omega)
  rw [show ((5:Nat):Int)=5 from rfl] at hput
  obtain ⟨w2,w3⟩ :=partW_w e3 (partF o (l.length / 2 ^ q) (resF o l) i) p2 w1 (by omega)
  refine (lp_step (s':=(((i+1:Nat):Int),true,((partW (kyF l o q i).1 (partF o (l.length / 2 ^ q) (resF o l) i) (putS 5 (wr .u64 ((kyF l o q i).1:Int)) s)).2:Int),(partW (kyF l o q i).1 (partF o (l.length / 2 ^ q) (resF o l) i) (putS 5 (wr .u64 ((kyF l o q i).1:Int)) s)).1)) ?_).trans (ih (i+1) _ (by omega) w2 (by omega))
  dsimp only [lp_Sq_27,m_Sq_27]
  rw [hkl,if_pos (by simp only [decide_eq_true_eq];omega),hki]
  simp only [Option.bind_some]
  rw [show Zb.mk true s.1 (s.2:Int)=sinkOf s from rfl,hput]
  simp only [Option.bind_some]
  rw [spec_part (resF o l) o q i (by rw [resF_len];exact hl) hr (by omega),resF_len]
  simp only [Option.bind_some]
  have hl0:=s_partW hl hx e3 (resF o l) ((kyF l o q i).1:Int) rfl (Zc.mk (o:Int) (q:Int) (plK l o q),c) (i:Int) (partF o (l.length / 2 ^ q) (resF o l) i) p1 (partF o (l.length / 2 ^ q) (resF o l) i) 0 (putS 5 (wr .u64 ((kyF l o q i).1:Int)) s) (by omega) rfl p2 w1 (by omega)
  rw [show (((0:Nat):Int))=0 from rfl] at hl0
  rw [hl0]
  simp only [Option.bind_some]
  dsimp only [m_Sq_55]
  rw [w64_succ (by omega)]
theorem spec_planned (s:BS) (hs:WB s) (hn:s.2+33000≤17592186044416):∃ o q:Nat,ptOk o q l.length=true∧(bestS l).1=((plC l o q:Nat):Int)∧(bestS l).2.1=o∧(bestS l).2.2.1=q∧(bestS l).2.2.2=plK l o q∧m_Sq (sinkOf s) l=some (sinkOf (plS l o q s))∧WB (plS l o q s)∧(plS l o q s).2=s.2+plC l o q∧plC l o q≤11+32*l.length:=by
 obtain ⟨o,q,h,h2,h3⟩ :=bestS_P hl
 have h00:=plC_00 hl hx
 obtain ⟨g1,g2,g3,g4,g5⟩ :=of_decide_eq_true h
 have k0:=kc_sm l o q (2 ^ q) 0
 rw [Nat.zero_add] at k0
 have s0:sm (fun i=>(kyF l o q i).2) 0=0:=rfl
 have hp:plC l o q=6+26*o+sm (fun i=>(kyF l o q i).2) (2 ^ q):=rfl
 obtain ⟨w9,e9⟩ :=plS_w hl hx hs (o:=o) (q:=q) (by omega)
 refine ⟨o,q,h,by rw [h2],by rw [h2],by rw [h2],by rw [h2],?_,w9,e9,by omega⟩
 dsimp only [m_Sq,m_Sq_0]
 rw [spec_best hl hx,h2]
 simp only [Option.bind_some]
 rw [spec_residue hl o g1]
 simp only [Option.bind_some]
 have e1:=putS_n 3 (wr .u64 (o:Int)) s
 have w1:=putS_wb 3 (wr .u64 (o:Int)) s hs (by omega)
 have p1:=spec_put 3 (wr .u64 (o:Int)) s hs (by omega) (by omega)
 rw [show ((3:Nat):Int)=3 from rfl] at p1
 rw [p1]
 simp only [Option.bind_some]
 have ol:∀ (k i:Nat) (s:BS),i+k=o→WB s→s.2+26*k≤17592186044416→loopM (lp_Sq_11 l (Zc.mk (o:Int) (q:Int) (plK l o q),((plC l o q:Nat):Int)) (resF o l)) ((i:Int),true,(s.2:Int),s.1)=some (true,((ordF l k i s).2:Int),(ordF l k i s).1):=by
  intro k
  induction k with
  | zero=>
   intro i s hi hs hn
   refine lp_end ?_
   dsimp only [lp_Sq_11,m_Sq_11]
   rw [if_neg (by simp;omega)]
   rfl
  | succ k ih=>
   intro i s hi hs hn
   have e:=putS_n 26 (wr .u64 (l.getD i 0)) s
   have p2:=spec_put 26 (wr .u64 (l.getD i 0)) s hs (by omega) (by omega)
   rw [show ((26:Nat):Int)=26 from rfl] at p2
   refine (lp_step (s':=(((i+1:Nat):Int),true,((putS 26 (wr .u64 (l.getD i 0)) s).2:Int),(putS 26 (wr .u64 (l.getD i 0)) s).1)) ?_).trans (ih (i+1) _ (by omega) (putS_wb _ _ _ hs (by omega)) (by omega))
   dsimp only [lp_Sq_11,m_Sq_11]
   rw [if_pos (by simp;omega),rd_n l i (by omega)]
   simp only [Option.bind_some]
   rw [show Zb.mk true s.1 (s.2:Int)=sinkOf s from rfl,p2]
   simp only [Option.bind_some]
   rw [w64_succ (by omega)]
 obtain ⟨w2,e2⟩ :=ordF_w l o 0 w1 (by omega)
 have ol0:=ol o 0 _ (by omega) w1 (by omega)
 rw [show (((0:Nat):Int))=0 from rfl] at ol0
 rw [ol0]
 simp only [Option.bind_some]
 dsimp only [m_Sq_21]
 have e3:=putS_n 3 (wr .u64 (q:Int)) (ordF l o 0 (putS 3 (wr .u64 (o:Int)) s))
 have w3:=putS_wb 3 (wr .u64 (q:Int)) _ w2 (by omega)
 have p3:=spec_put 3 (wr .u64 (q:Int)) (ordF l o 0 (putS 3 (wr .u64 (o:Int)) s)) w2 (by omega) (by omega)
 rw [show ((3:Nat):Int)=3 from rfl] at p3
 rw [show Zb.mk true (ordF l o 0 (putS 3 (wr .u64 (o:Int)) s)).1 ((ordF l o 0 (putS 3 (wr .u64 (o:Int)) s)).2:Int)=sinkOf (ordF l o 0 (putS 3 (wr .u64 (o:Int)) s)) from rfl,p3]
 simp only [Option.bind_some]
 have kl:=s_keysF hl hx h ((plC l o q:Nat):Int) (2 ^ q) 0 _ (by omega) w3 (by omega)
 rw [show (((0:Nat):Int))=0 from rfl] at kl
 rw [kl]
 rfl
end
end Go.Proofs.V

namespace Go.Proofs.V
open Go
theorem wu32_eq (x:Int):wr .u32 x=x % 4294967296:=by
 unfold wr IntKind.wrap
 simp [IntKind.bits,IntKind.signed]
theorem wu32_rng (x:Int):0≤wr .u32 x∧wr .u32 x < 4294967296:=by rw [wu32_eq];omega
def crc1 (r:Int):Int:=if andI .u32 r 1 == 1 then xorI .u32 (shrI .u32 r 1) 3988292384 else shrI .u32 r 1
def crc8 (r:Int):Int:=(List.range 8).foldl (fun r _=>crc1 r) r
def crcF (l:List Int):Int:=notI .u32 (l.foldl (fun r c=>crc8 (xorI .u32 r (wr .u32 c))) 4294967295)
theorem xor_rng (a b:Int):0≤xorI .u32 a b∧xorI .u32 a b < 4294967296:=wu32_rng _
theorem crcF_rng (l:List Int):0≤crcF l∧crcF l < 4294967296:=wu32_rng _
theorem shr1 (r:Int) (h:0≤r∧r < 4294967296):shrI .u32 r 1=r / 2:=by
 unfold shrI
 rw [show (2:Int) ^ min (Int.toNat 1) IntKind.u32.bits=2 from rfl,Int.fdiv_eq_ediv_of_nonneg _ (by omega)]
theorem crc1_rng (r:Int) (h:0≤r∧r < 4294967296):0≤crc1 r∧crc1 r < 4294967296:=by
 unfold crc1
 split
 ·exact xor_rng _ _
 ·rw [shr1 r h];omega
theorem and1_u32 (r:Int):andI .u32 r 1=0∨andI .u32 r 1=1:=by
 unfold andI
 have h1:(BitVec.ofInt IntKind.u32.bits r &&& BitVec.ofInt IntKind.u32.bits 1).toNat≤1:=by
  show (BitVec.ofInt 32 r &&& BitVec.ofNat 32 1).toNat≤1
  rw [BitVec.toNat_and,BitVec.toNat_ofNat]
  exact Nat.and_le_right
 have h2:∀ k:Nat,k≤1→IntKind.wrap .u32 (k:Int)=0∨IntKind.wrap .u32 (k:Int)=1:=by
  intro k hk
  have:k=0∨k=1:=by omega
  rcases this with rfl | rfl
  ·left;rfl
  ·right;rfl
 exact h2 _ h1
theorem xor_zero_u32 (x:Int) (h:0≤x∧x < 4294967296):xorI .u32 x 0=x:=by
 unfold xorI
 show IntKind.u32.wrap ((BitVec.ofInt 32 x ^^^ 0#32).toNat:Int)=x
 rw [BitVec.xor_zero]
 obtain ⟨n,rfl⟩:∃ n:Nat,x=n:=⟨x.toNat,by omega⟩
 rw [BitVec.ofInt_natCast,BitVec.toNat_ofNat,Nat.mod_eq_of_lt (by omega)]
 exact wu32_id (by omega) (by omega)
theorem crc1_impl (r:Int) (h:0≤r∧r < 4294967296):xorI .u32 (shrI .u32 r 1) (wr .u32 (3988292384*(andI .u32 r 1)))=crc1 r:=by
 unfold crc1
 rcases and1_u32 r with h1 | h1
 ·rw [h1,if_neg (by decide),show wr .u32 (3988292384*0)=0 from rfl]
  exact xor_zero_u32 _ (by rw [shr1 r h];omega)
 ·rw [h1,if_pos (by decide),show wr .u32 (3988292384*1)=3988292384 from rfl]
theorem crc8_rng (r:Int) (h:0≤r∧r < 4294967296):0≤crc8 r∧crc8 r < 4294967296:=by
 have:∀ (k:List Nat) (r:Int),0≤r∧r < 4294967296→0≤k.foldl (fun r _=>crc1 r) r∧k.foldl (fun r _=>crc1 r) r < 4294967296:=by
  intro k
  induction k with
  | nil=>intro r h;exact h
  | cons a k ih=>intro r h;exact ih _ (crc1_rng r h)
 exact this _ r h
theorem spec_crc8 (p0:List Int) (i:Int) (r:Int) (h:0≤r∧r < 4294967296):loopM (lp_Sa_25 p0 i) (r,0)=some (crc8 r):=by
 refine (fold_range (n:=8) (fun (s:Int) i=>(s,(i:Int))) (g:=fun r _=>crc1 r) (I:=fun _ s=>0≤s∧s < 4294967296) (e1:=fun s=>s) (fun i s hi hI=>⟨?_,crc1_rng s hI⟩) (fun s hI=>?_) r h).1
 ·simp only [lp_Sa_25,m_Sa_25,decide_eq_true_eq]
  rw [if_pos (by omega),w64_succ (by omega)]
  unfold crc1
  split <;> rfl
 ·simp only [lp_Sa_25,m_Sa_25]
  rfl
theorem impl_crc8 (p0:List Int) (i:Int) (r:Int) (h:0≤r∧r < 4294967296):loopM (lp_Ib_25 p0 i) (r,0)=some (crc8 r):=by
 refine (fold_range (n:=8) (fun (s:Int) i=>(s,(i:Int))) (g:=fun r _=>crc1 r) (I:=fun _ s=>0≤s∧s < 4294967296) (e1:=fun s=>s) (fun i s hi hI=>⟨?_,crc1_rng s hI⟩) (fun s hI=>?_) r h).1
 ·simp only [lp_Ib_25,m_Ib_25,decide_eq_true_eq]
  rw [if_pos (by omega),w64_succ (by omega),crc1_impl s hI]
 ·simp only [lp_Ib_25,m_Ib_25]
  rfl
theorem spec_crc (l:List Int) (hl:l.length≤2305843009213693952):m_Sa l=some (crcF l):=by
 unfold m_Sa m_Sa_0
 have key:=fold_list (l:=l) (fun (s:Int) i=>(s,(i:Int))) (g:=fun r c=>crc8 (xorI .u32 r (wr .u32 c))) (I:=fun _ s=>0≤s∧s < 4294967296) (b:=lp_Sa_9 l) (e1:=fun s=>s)
  (fun i s hi hI=>⟨by
   simp only [lp_Sa_9,m_Sa_9,decide_eq_true_eq]
   rw [if_pos (by omega),rd_eq hi]
   simp only [Option.bind_some]
   rw [spec_crc8 _ _ _ (xor_rng _ _)]
   simp only [Option.bind_some,m_Sa_43]
   rw [w64_succ (by omega)],crc8_rng _ (xor_rng _ _)⟩)
  (fun s hI=>by
   simp only [lp_Sa_9,m_Sa_9]
   rw [if_neg (by simp)]) 4294967295 (by omega)
 have k1:=key.1
 simp only [show ((0:Nat):Int)=0 from rfl] at k1
 rw [k1]
 rfl
theorem impl_crc (l:List Int) (hl:l.length≤2305843009213693952):m_Ib l=some (crcF l):=by
 unfold m_Ib m_Ib_0
 have key:=fold_list (l:=l) (fun (s:Int) i=>(s,(i:Int))) (g:=fun r c=>crc8 (xorI .u32 r (wr .u32 c))) (I:=fun _ s=>0≤s∧s < 4294967296) (b:=lp_Ib_9 l) (e1:=fun s=>s)
  (fun i s hi hI=>⟨by
   simp only [lp_Ib_9,m_Ib_9,decide_eq_true_eq]
   rw [if_pos (by omega),rd_eq hi]
   simp only [Option.bind_some]
   rw [impl_crc8 _ _ _ (xor_rng _ _)]
   simp only [Option.bind_some,m_Ib_35]
   rw [w64_succ (by omega)],crc8_rng _ (xor_rng _ _)⟩)
  (fun s hI=>by
   simp only [lp_Ib_9,m_Ib_9]
   rw [if_neg (by simp)]) 4294967295 (by omega)
 have k1:=key.1
 simp only [show ((0:Nat):Int)=0 from rfl] at k1
 rw [k1]
 rfl
end Go.Proofs.V

namespace Go.Proofs.V
open Go
section
variable {l:List Int} (hl:l.length≤1000) (hx:∀ x ∈ l,-16777215≤x∧x≤16777215)
include hl hx
theorem z_partW {k:Nat} (hk:k≤25) (a1 a3:List Int) (a2 a4 a5:Int) (x141:Int) (h141:x141=k) (L:List (List Int)) (pl:Zc) (p0:Za) (l48:List Int) (P:List Int) (hP:P.length≤1000):∀ (R:List Int) (i:Nat) (s:BS),i+R.length=P.length→P.drop i=R→(∀ x ∈ R,-268435456≤x∧x≤268435455)→WB s→s.2+cs k R≤17592186044416→
  loopM (lp_Ic_157 a1 a2 a3 x141 L a4 pl a5 P p0 l48) ((i:Int),(s.2:Int),s.1)=some (((partW k R s).2:Int),(partW k R s).1)
 | [],i,s,h1,h2,h3,h4,h5=>by
  refine lp_end ?_
  dsimp only [lp_Ic_157,m_Ic_157]
  simp at h1
  rw [if_neg (by simp;omega)]
  rfl
 | x::R,i,s,h1,h2,h3,h4,h5=>by
  have hi:i < P.length:=by simp at h1;omega
  have hxx:rd P (i:Int)=some x:=by
   rw [rd_eq hi]
   rw [List.drop_eq_getElem_cons hi] at h2
   rw [(List.cons.inj h2).1]
  have h2' : P.drop (i+1)=R:=by
   rw [List.drop_eq_getElem_cons hi] at h2
   exact (List.cons.inj h2).2
  simp only [cs] at h5
  have hxr:=h3 x (by simp)
  obtain ⟨w1,w2⟩ :=riS_w hk hxr h4 (by omega)
  have hr:=ric_le hk hxr
  have step:lp_Ic_157 a1 a2 a3 x141 L a4 pl a5 P p0 l48 ((i:Int),(s.2:Int),s.1)=some (.inl (((i+1:Nat):Int),((riS k x s).2:Int),(riS k x s).1)):=by
   dsimp only [lp_Ic_157,m_Ic_157]
   rw [if_pos (by simpa using hi),hxx]
   simp only [Option.bind_some]
   rw [w64_succ (by omega),h141,show Zd.mk s.1 (s.2:Int)=zOf s from rfl]
   unfold riS
   by_cases h25:k=25
   ·subst h25
    have:=impl_put 32 (wr .u64 x) s h4 (by omega) (by omega)
    rw [show ((32:Nat):Int)=32 from rfl] at this
    rw [if_pos (by rfl),if_pos rfl,this]
    rfl
   ·rw [if_neg (by simp;omega),if_neg h25,impl_rice h4 (by omega) hxr.1 hxr.2 (by omega)]
    rfl
  exact (lp_step step).trans (z_partW hk a1 a3 a2 a4 a5 x141 h141 L pl p0 l48 P hP R (i+1) (riS k x s) (by simp at h1;omega) h2' (fun y hy=>h3 y (by simp [hy])) w1 (by omega))
theorem z_keysF {o q:Nat} (h:ptOk o q l.length=true) (a1:List Int) (a2 a4:Int) (L:List (List Int)) (p0:Za) (l48:List Int):∀ (k i:Nat) (s:BS),i+k=2 ^ q→WB s→s.2+kc l o q k i≤17592186044416→
  loopM (lp_Ic_141 a1 a2 (resF o l) L a4 (Zc.mk (o:Int) (q:Int) (plK l o q)) p0 l48) ((i:Int),(s.2:Int),s.1)=some (((keysF l o q k i s).2:Int),(keysF l o q k i s).1):=by
 obtain ⟨g1,g2,g3,g4,g5⟩ :=of_decide_eq_true h
 have hp2:2 ^ q≤2 ^ 4:=Nat.pow_le_pow_right (by decide) g3
 have hr:ptOk o q (resF o l).length=true:=by rw [resF_len];exact h
 have hkl:(plK l o q).length=2 ^ q:=by simp [plK]
 intro k
 induction k with
 | zero=>
  intro i s hi hs hn
  refine lp_end ?_
  dsimp only [lp_Ic_141,m_Ic_141]
  rw [hkl,if_neg (by simp only [decide_eq_true_eq];omega)]
  rfl
 | succ k ih=>
  intro i s hi hs hn
  simp only [kc] at hn
  have hki:rd (plK l o q) (i:Int)=some ((kyF l o q i).1:Int):=by
   rw [rd_eq (by omega)]
   simp [plK]
  obtain ⟨p1,p2⟩ :=part_rng hl hx o (l.length / 2 ^ q) i
  have e2:=ky_eq hl hx o q i
  have e3:=(ky_le hl hx o q i).2
  have e:=putS_n 5 (wr .u64 ((kyF l o q i).1:Int)) s
  have w1:=putS_wb 5 (wr .u64 ((kyF l o q i).1:Int)) s hs (by omega)
  have hput:=impl_put 5 (wr .u64 ((kyF l o q i).1:Int)) s hs (by omega) (by omega)
  rw [show ((5:Nat):Int)=5 from rfl] at hput
  obtain ⟨w2,w3⟩ :=partW_w e3 (partF o (l.length / 2 ^ q) (resF o l) i) p2 w1 (by omega)
  refine (lp_step (s':=(((i+1:Nat):Int),((partW (kyF l o q i).1 (partF o (l.length / 2 ^ q) (resF o l) i) (putS 5 (wr .u64 ((kyF l o q i).1:Int)) s)).2:Int),(partW (kyF l o q i).1 (partF o (l.length / 2 ^ q) (resF o l) i) (putS 5 (wr .u64 ((kyF l o q i).1:Int)) s)).1)) ?_).trans (ih (i+1) _ (by omega) w2 (by omega))
  dsimp only [lp_Ic_141,m_Ic_141]
  rw [hkl,if_pos (by simp only [decide_eq_true_eq];omega),hki]
  simp only [Option.bind_some]
  rw [show Zd.mk s.1 (s.2:Int)=zOf s from rfl,hput]
  simp only [Option.bind_some]
  rw [impl_part (resF o l) o q i (by rw [resF_len];exact hl) hr (by omega),resF_len]
  simp only [Option.bind_some]
  have hl0:=z_partW hl hx e3 a1 (resF o l) a2 a4 (i:Int) ((kyF l o q i).1:Int) rfl L (Zc.mk (o:Int) (q:Int) (plK l o q)) p0 l48 (partF o (l.length / 2 ^ q) (resF o l) i) p1 (partF o (l.length / 2 ^ q) (resF o l) i) 0 (putS 5 (wr .u64 ((kyF l o q i).1:Int)) s) (by omega) rfl p2 w1 (by omega)
  rw [show (((0:Nat):Int))=0 from rfl] at hl0
  rw [hl0]
  simp only [Option.bind_some]
  dsimp only [m_Ic_173]
  rw [w64_succ (by omega)]
omit hx in
theorem resF_pre (o i:Nat) (h:i < o) (hi:i < l.length):(resF o l).getD i 0=l.getD i 0:=by
 rw [List.getD_eq_getElem?_getD,List.getElem?_eq_getElem (by rw [resF_len];exact hi)]
 show (resF o l)[i]'(by rw [resF_len];exact hi)=_
 rw [resF_get,if_neg (by omega)]
def plnS (l:List Int) (s:BS):BS:=plS l (bestS l).2.1.toNat (bestS l).2.2.1.toNat s
theorem spec_pln (s:BS) (hs:WB s) (hn:s.2+33000≤17592186044416):m_Sq (sinkOf s) l=some (sinkOf (plnS l s))∧WB (plnS l s)∧((plnS l s).2:Int)=s.2+(bestS l).1:=by
 obtain ⟨o,q,h,h1,h2,h3,h4,h5,h6,h7,h8⟩ :=spec_planned hl hx s hs hn
 unfold plnS
 rw [h2,h3,h1,Int.toNat_natCast,Int.toNat_natCast]
 exact ⟨h5,h6,by omega⟩
theorem impl_pln (s:BS) (hs:WB s) (hn:s.2+33000≤17592186044416) (a1:List Int) (a2:Int) (L:List (List Int)) (p0:Za) (l48:List Int) (i:Nat) (hi:i < L.length) (hL:L[i]=l) (hL2:L.length≤1000) :
  lp_Ic_102 a1 a2 L p0 l48 ((i:Int),(s.2:Int),s.1)=some (.inl (((i+1:Nat):Int),((plnS l s).2:Int),(plnS l s).1)):=by
 obtain ⟨o,q,h,h1,h2,h3,h4,h5,h6,h7,h8⟩ :=spec_planned hl hx s hs hn
 obtain ⟨g1,g2,g3,g4,g5⟩ :=of_decide_eq_true h
 have k0:=kc_sm l o q (2 ^ q) 0
 rw [Nat.zero_add] at k0
 have s0:sm (fun i=>(kyF l o q i).2) 0=0:=rfl
 have hp:plC l o q=6+26*o+sm (fun i=>(kyF l o q i).2) (2 ^ q):=rfl
 unfold plnS
 rw [h2,h3,Int.toNat_natCast,Int.toNat_natCast]
 dsimp only [lp_Ic_102,m_Ic_102]
 rw [if_pos (by simpa using hi),rd_eq hi,hL]
 simp only [Option.bind_some]
 rw [impl_best hl hx,h2,h3,h4]
 simp only [Option.bind_some]
 rw [impl_residue hl o g1 (allIn_l hl hx)]
 simp only [Option.bind_some]
 have e1:=putS_n 3 (wr .u64 (o:Int)) s
 have w1:=putS_wb 3 (wr .u64 (o:Int)) s hs (by omega)
 have p1:=impl_put 3 (wr .u64 (o:Int)) s hs (by omega) (by omega)
 rw [show ((3:Nat):Int)=3 from rfl] at p1
 rw [show Zd.mk s.1 (s.2:Int)=zOf s from rfl,p1]
 simp only [Option.bind_some]
 have ol:∀ (k j:Nat) (s:BS),j+k=o→WB s→s.2+26*k≤17592186044416→loopM (lp_Ic_123 a1 a2 L (i:Int) (Zc.mk (o:Int) (q:Int) (plK l o q)) p0 l48 (resF o l)) ((j:Int),(s.2:Int),s.1)=some (((ordF l k j s).2:Int),(ordF l k j s).1):=by
  intro k
  induction k with
  | zero=>
   intro j s hj hs hn
   refine lp_end ?_
   dsimp only [lp_Ic_123,m_Ic_123]
   rw [if_neg (by simp;omega)]
   rfl
  | succ k ih=>
   intro j s hj hs hn
   have e:=putS_n 26 (wr .u64 (l.getD j 0)) s
   have p2:=impl_put 26 (wr .u64 (l.getD j 0)) s hs (by omega) (by omega)
   rw [show ((26:Nat):Int)=26 from rfl] at p2
   refine (lp_step (s':=(((j+1:Nat):Int),((putS 26 (wr .u64 (l.getD j 0)) s).2:Int),(putS 26 (wr .u64 (l.getD j 0)) s).1)) ?_).trans (ih (j+1) _ (by omega) (putS_wb _ _ _ hs (by omega)) (by omega))
   dsimp only [lp_Ic_123,m_Ic_123]
   rw [if_pos (by simp;omega),rd_n (resF o l) j (by rw [resF_len];omega),resF_pre hl o j (by omega) (by omega)]
   simp only [Option.bind_some]
   rw [show Zd.mk s.1 (s.2:Int)=zOf s from rfl,p2]
   simp only [Option.bind_some]
   rw [w64_succ (by omega)]
 obtain ⟨w2,e2⟩ :=ordF_w l o 0 w1 (by omega)
 have ol0:=ol o 0 _ (by omega) w1 (by omega)
 rw [show (((0:Nat):Int))=0 from rfl] at ol0
 rw [ol0]
 simp only [Option.bind_some]
 dsimp only [m_Ic_135]
 have e3:=putS_n 3 (wr .u64 (q:Int)) (ordF l o 0 (putS 3 (wr .u64 (o:Int)) s))
 have w3:=putS_wb 3 (wr .u64 (q:Int)) _ w2 (by omega)
 have p3:=impl_put 3 (wr .u64 (q:Int)) (ordF l o 0 (putS 3 (wr .u64 (o:Int)) s)) w2 (by omega) (by omega)
 rw [show ((3:Nat):Int)=3 from rfl] at p3
 rw [show Zd.mk (ordF l o 0 (putS 3 (wr .u64 (o:Int)) s)).1 ((ordF l o 0 (putS 3 (wr .u64 (o:Int)) s)).2:Int)=zOf (ordF l o 0 (putS 3 (wr .u64 (o:Int)) s)) from rfl,p3]
 simp only [Option.bind_some]
 have kl:=z_keysF hl hx h a1 a2 (i:Int) L p0 l48 (2 ^ q) 0 _ (by omega) w3 (by omega)
 rw [show (((0:Nat):Int))=0 from rfl] at kl
 rw [kl]
 simp only [Option.bind_some]
 dsimp only [m_Ic_174]
 rw [w64_succ (by omega)]
 rfl
end
def listsW:List (List Int)→BS→BS
 | [],s=>s
 | l::ls,s=>listsW ls (plnS l s)
def costL:List (List Int)→Int
 | []=>0
 | l::ls=>(bestS l).1+costL ls
def OkL (ls:List (List Int)):Prop:=∀ l ∈ ls,l.length≤600∧∀ x ∈ l,-16777215≤x∧x≤16777215
def frS (way:Nat) (ls:List (List Int)):BS:=listsW ls (putS 2 (wr .u64 (way:Int)) ([],0))
def frB (way:Nat) (ls:List (List Int)):List Int:=(frS way ls).1++[wr .u8 (shrI .u32 (crcF (frS way ls).1) 8),wr .u8 (crcF (frS way ls).1)]
theorem wb0:WB ([],0):=⟨rfl,by simp,by simp⟩
theorem listsW_w:∀ (ls:List (List Int)) (s:BS),OkL ls→WB s→s.2+33000*ls.length≤1000000→WB (listsW ls s)∧((listsW ls s).2:Int)=s.2+costL ls∧0≤costL ls∧costL ls≤33000*ls.length
 | [],s,_,h,_=>⟨h,by simp [listsW,costL],by simp [costL],by simp [costL]⟩
 | l::ls,s,ho,h,hn=>by
  have h1:=ho l (by simp)
  simp only [List.length_cons] at hn
  obtain ⟨p1,p2,p3⟩ :=spec_pln (by omega) h1.2 s h (by omega)
  have hc:=bestS_cost (l:=l) (by omega) h1.2
  obtain ⟨q1,q2,q3,q4⟩ :=listsW_w ls (plnS l s) (fun x hx=>ho x (by simp [hx])) p2 (by omega)
  refine ⟨q1,?_,?_,?_⟩
  ·show ((listsW ls (plnS l s)).2:Int)=s.2+((bestS l).1+costL ls)
   omega
  ·show 0≤(bestS l).1+costL ls
   omega
  ·show (bestS l).1+costL ls≤_
   simp only [List.length_cons]
   omega
theorem s_lists:∀ (R:List (List Int)) (L:List (List Int)) (i:Nat) (s:BS),i+R.length=L.length→L.drop i=R→L.length≤10→OkL R→WB s→s.2+33000*R.length≤1000000→
  loopM lp_Sf_50 (L,(L.length:Int),(i:Int),true,(s.2:Int),s.1)=some (true,((listsW R s).2:Int),(listsW R s).1)
 | [],L,i,s,h1,h2,h3,h4,h5,h6=>by
  refine lp_end ?_
  dsimp only [lp_Sf_50,m_Sf_50]
  simp at h1
  rw [if_neg (by simp;omega)]
  rfl
 | l::R,L,i,s,h1,h2,h3,h4,h5,h6=>by
  have hi:i < L.length:=by simp at h1;omega
  have hxx:rd L (i:Int)=some l:=by
   rw [rd_eq hi]
   rw [List.drop_eq_getElem_cons hi] at h2
   rw [(List.cons.inj h2).1]
  have h2' : L.drop (i+1)=R:=by
   rw [List.drop_eq_getElem_cons hi] at h2
   exact (List.cons.inj h2).2
  have ho:=h4 l (by simp)
  simp only [List.length_cons] at h6
  obtain ⟨p1,p2,p3⟩ :=spec_pln (by omega) ho.2 s h5 (by omega)
  have hc:=bestS_cost (l:=l) (by omega) ho.2
  refine (lp_step (s':=(L,(L.length:Int),((i+1:Nat):Int),true,((plnS l s).2:Int),(plnS l s).1)) ?_).trans (s_lists R L (i+1) (plnS l s) (by simp at h1;omega) h2' h3 (fun x hx=>h4 x (by simp [hx])) p2 (by omega))
  dsimp only [lp_Sf_50,m_Sf_50]
  rw [if_pos (by simpa using hi),hxx]
  simp only [Option.bind_some]
  rw [show Zb.mk true s.1 (s.2:Int)=sinkOf s from rfl,p1]
  simp only [Option.bind_some]
  rw [w64_succ (by omega)]
theorem z_lists (a1:List Int) (a2:Int) (p0:Za) (l48:List Int):∀ (R:List (List Int)) (L:List (List Int)) (i:Nat) (s:BS),i+R.length=L.length→L.drop i=R→L.length≤10→OkL R→WB s→s.2+33000*R.length≤1000000→
  loopM (lp_Ic_102 a1 a2 L p0 l48) ((i:Int),(s.2:Int),s.1)=some (((listsW R s).2:Int),(listsW R s).1)
 | [],L,i,s,h1,h2,h3,h4,h5,h6=>by
  refine lp_end ?_
  dsimp only [lp_Ic_102,m_Ic_102]
  simp at h1
  rw [if_neg (by simp;omega)]
  rfl
 | l::R,L,i,s,h1,h2,h3,h4,h5,h6=>by
  have hi:i < L.length:=by simp at h1;omega
  have hLi:L[i]=l:=by
   rw [List.drop_eq_getElem_cons hi] at h2
   exact (List.cons.inj h2).1
  have h2' : L.drop (i+1)=R:=by
   rw [List.drop_eq_getElem_cons hi] at h2
   exact (List.cons.inj h2).2
  have ho:=h4 l (by simp)
  simp only [List.length_cons] at h6
  obtain ⟨p1,p2,p3⟩ :=spec_pln (by omega) ho.2 s h5 (by omega)
  have hc:=bestS_cost (l:=l) (by omega) ho.2
  exact (lp_step (impl_pln (by omega) ho.2 s h5 (by omega) a1 a2 L p0 l48 i hi hLi (by omega))).trans (z_lists a1 a2 p0 l48 R L (i+1) (plnS l s) (by simp at h1;omega) h2' h3 (fun x hx=>h4 x (by simp [hx])) p2 (by omega))
theorem spec_fillS (s:BS) (h:WB s) (hn:s.2≤1000000):∃ n:Nat,m_Sp (sinkOf s)=some (Zb.mk true s.1 n):=by
 have key:∀ (d n:Nat) (b:List Int),(8 - n % 8) % 8=d→n≤2000000→∃ m:Nat,loopM lp_Sp_2 (true,(n:Int),b)=some (Zb.mk true b m):=by
  intro d
  induction d with
  | zero=>
   intro n b hd hn
   refine ⟨n,lp_end ?_⟩
   dsimp only [lp_Sp_2,m_Sp_2]
   rw [mod8d,if_neg (by simp;omega)]
  | succ d ih=>
   intro n b hd hn
   obtain ⟨m,hm⟩ :=ih (n+1) b (by omega) (by omega)
   refine ⟨m,(lp_step ?_).trans hm⟩
   dsimp only [lp_Sp_2,m_Sp_2]
   rw [mod8d,if_pos (by simp;omega)]
   dsimp only [m_So,m_So_0]
   rw [mod8d,if_neg (by simp;omega)]
   dsimp only [m_So_6]
   rw [if_neg (by decide),w64_succ (by omega)]
   rfl
 obtain ⟨m,hm⟩ :=key _ s.2 s.1 rfl (by omega)
 refine ⟨m,?_⟩
 dsimp only [m_Sp,m_Sp_0]
 rw [hm]
 rfl
theorem frS_w (way:Nat) (ls:List (List Int)) (h:OkL ls) (hl:ls.length≤2):WB (putS 2 (wr .u64 (way:Int)) ([],0))∧(putS 2 (wr .u64 (way:Int)) ([],0)).2=2∧WB (frS way ls)∧((frS way ls).2:Int)=2+costL ls:=by
 have e:=putS_n 2 (wr .u64 (way:Int)) ([],0)
 have w:=putS_wb 2 (wr .u64 (way:Int)) ([],0) wb0 (by simp)
 obtain ⟨h1,h2,h3,h4⟩ :=listsW_w ls (putS 2 (wr .u64 (way:Int)) ([],0)) h w (by rw [e];simp only;omega)
 refine ⟨w,by rw [e],h1,?_⟩
 unfold frS
 rw [h2,e]
 simp only
 omega
theorem spec_62 (way:Nat) (ls:List (List Int)) (h:OkL ls) (hl:ls.length≤2):m_Sf_62 true ((frS way ls).2:Int) (frS way ls).1=some (frB way ls):=by
 obtain ⟨w0,e0,w1,e1⟩ :=frS_w way ls h hl
 have hc:=listsW_w ls _ h w0 (by omega)
 have hlen:=w1.1
 dsimp only [m_Sf_62]
 obtain ⟨n,hf⟩ :=spec_fillS (frS way ls) w1 (by omega)
 rw [show Zb.mk true (frS way ls).1 ((frS way ls).2:Int)=sinkOf (frS way ls) from rfl,hf]
 simp only [Option.bind_some]
 rw [spec_crc _ (by omega)]
 simp only [Option.bind_some]
 rw [ck_eq (by simp;omega)]
 rfl
def cW (a b:List Int) (w:Nat):Int:=(bestS (trF w a b).1).1+(bestS (trF w a b).2).1
def stepW (a b:List Int) (s:Nat×Int) (w:Nat):Nat×Int:=if s.2 < 0∨cW a b w < s.2 then (w,cW a b w) else s
def wayF (a b:List Int):Nat×Int:=(List.range 3).foldl (stepW a b) (0,-1)
def frOut (ls:List (List Int)):List Int:=match ls with
 | [a,b]=>frB (wayF a b).1 [(trF (wayF a b).1 a b).1,(trF (wayF a b).1 a b).2]
 | _=>frB 0 ls
section
variable {a b:List Int} (hn:a.length≤600) (hab:a.length=b.length) (ha:∀ x ∈ a,-8388608≤x∧x≤8388607) (hb:∀ x ∈ b,-8388608≤x∧x≤8388607)
include hn hab ha hb
theorem cW_rng (w:Nat) (hw:w≤2):0≤cW a b w∧cW a b w≤22+64*a.length:=by
 obtain ⟨⟨l1,l2⟩,r1,r2⟩ :=trF_facts (by omega) hab ha hb w hw
 have h1:=bestS_cost (l:=(trF w a b).1) (by omega) r1
 have h2:=bestS_cost (l:=(trF w a b).2) (by omega) r2
 unfold cW
 omega
theorem wayF_facts:(wayF a b).1≤2∧(wayF a b).2=cW a b (wayF a b).1:=by
 unfold wayF
 rw [show List.range 3=[0,1,2] from rfl]
 have step:∀ (s:Nat×Int) (w:Nat),w≤2→(s.1≤2∧s.2=cW a b s.1)→((stepW a b s w).1≤2∧(stepW a b s w).2=cW a b (stepW a b s w).1):=by
  intro s w hw hs
  unfold stepW
  split
  ·exact ⟨hw,rfl⟩
  ·exact hs
 have first:stepW a b (0,-1) 0=(0,cW a b 0):=by
  unfold stepW
  rw [if_pos (Or.inl (by decide))]
 simp only [List.foldl]
 rw [first]
 exact step _ 2 (by omega) (step _ 1 (by omega) ⟨Nat.zero_le _,rfl⟩)
theorem okl_tr (w:Nat) (hw:w≤2):OkL [(trF w a b).1,(trF w a b).2]:=by
 obtain ⟨⟨l1,l2⟩,r1,r2⟩ :=trF_facts (by omega) hab ha hb w hw
 intro l hl
 simp only [List.mem_cons,List.not_mem_nil,or_false] at hl
 rcases hl with rfl | rfl
 ·exact ⟨by omega,r1⟩
 ·exact ⟨by omega,r2⟩
theorem spec_frame2:m_Sf [a,b]=some (frOut [a,b]):=by
 dsimp only [m_Sf,m_Sf_0]
 rw [if_pos (by rfl)]
 have key:=(fold_range (n:=3) (σ:=Nat×Int) (fun s w=>((s.1:Int),s.2,((w:Nat):Int))) (g:=stepW a b) (I:=fun _ _=>True) (b:=lp_Sf_15 [a,b]) (e1:=fun s=>(s.1:Int)) (fun w s hw _=>⟨by
  obtain ⟨⟨l1,l2⟩,r1,r2⟩ :=trF_facts (by omega) hab ha hb w (by omega)
  have hcr:=cW_rng hn hab ha hb w (by omega)
  have k31:∀ (x4 x5:Zc×Int) (q:Bool),x4.2+x5.2=cW a b w→m_Sf_31 [a,b] (s.1:Int) s.2 (w:Int) x4 x5 q=some (.inl (if q=true then ((w:Int),cW a b w,((w+1:Nat):Int)) else ((s.1:Int),s.2,((w+1:Nat):Int)))):=by
   intro x4 x5 q hx
   dsimp only [m_Sf_31]
   rw [w64_succ (by omega),hx,w64_id (by omega) (by omega)]
   cases q <;> rfl
  dsimp only [lp_Sf_15,m_Sf_15]
  rw [if_pos (by simp;omega)]
  rw [show rd [a,b] 0=some a from rfl,show rd [a,b] 1=some b from rfl]
  simp only [Option.bind_some]
  rw [spec_turn (by omega) hab ha hb w (by omega)]
  simp only [Option.bind_some]
  rw [spec_best (by omega) r1,spec_best (by omega) r2]
  simp only [Option.bind_some]
  rw [k31 _ _ _ rfl,k31 _ _ _ rfl]
  have hcw:w64 ((bestS (trF w a b).1).1+(bestS (trF w a b).2).1)=cW a b w:=w64_id (by unfold cW at hcr;omega) (by unfold cW at hcr;omega)
  rw [hcw]
  unfold stepW
  by_cases h1:s.2 < 0
  ·rw [if_pos (by simpa using h1),if_pos (Or.inl h1)];rfl
  ·rw [if_neg (by simpa using h1)]
   by_cases h2:cW a b w < s.2
   ·rw [decide_eq_true h2,if_pos (Or.inr h2)];rfl
   ·rw [decide_eq_false h2,if_neg (fun hh=>Or.elim hh h1 h2)];rfl,trivial⟩) (fun s _=>by
  dsimp only [lp_Sf_15,m_Sf_15]
  rw [if_neg (by simp)]) (0,-1) trivial).1
 rw [show (((0:Nat):Int))=0 from rfl] at key
 dsimp only at key
 rw [show loopM (lp_Sf_15 [a,b]) (0,-1,0)=_ from key]
 simp only [Option.bind_some]
 obtain ⟨hw,hwc⟩ :=wayF_facts hn hab ha hb
 rw [show (List.range 3).foldl (stepW a b) (0,-1)=wayF a b from rfl]
 dsimp only [m_Sf_37]
 rw [show rd [a,b] 0=some a from rfl,show rd [a,b] 1=some b from rfl]
 simp only [Option.bind_some]
 rw [spec_turn (by omega) hab ha hb _ hw]
 simp only [Option.bind_some]
 have ho:=okl_tr hn hab ha hb (wayF a b).1 hw
 obtain ⟨w0,e0,w1,e1⟩ :=frS_w (wayF a b).1 _ ho (by simp)
 have p1:=spec_put 2 (wr .u64 ((wayF a b).1:Int)) ([],0) wb0 (by omega) (by simp)
 rw [show ((2:Nat):Int)=2 from rfl,show sinkOf ([],0)=Zb.mk true [] 0 from rfl] at p1
 rw [p1]
 simp only [Option.bind_some]
 have sl:=s_lists [(trF (wayF a b).1 a b).1,(trF (wayF a b).1 a b).2] [(trF (wayF a b).1 a b).1,(trF (wayF a b).1 a b).2] 0 _ (by simp) rfl (by simp) ho w0 (by rw [e0];simp)
 rw [show (((0:Nat):Int))=0 from rfl] at sl
 have e2:(([(trF (wayF a b).1 a b).1,(trF (wayF a b).1 a b).2]:List (List Int)).length:Int)=2:=rfl
 rw [e2] at sl
 rw [sl]
 simp only [Option.bind_some]
 exact spec_62 (wayF a b).1 _ ho (by simp)
end
theorem spec_frame1 (a:List Int) (ha:OkL [a]):m_Sf [a]=some (frOut [a]):=by
 dsimp only [m_Sf,m_Sf_0]
 rw [if_neg (by simp)]
 obtain ⟨w0,e0,w1,e1⟩ :=frS_w 0 _ ha (by simp)
 have p1:=spec_put 2 (wr .u64 ((0:Nat):Int)) ([],0) wb0 (by omega) (by simp)
 rw [show ((2:Nat):Int)=2 from rfl,show sinkOf ([],0)=Zb.mk true [] 0 from rfl,show ((0:Nat):Int)=0 from rfl] at p1
 rw [p1]
 simp only [Option.bind_some]
 have sl:=s_lists [a] [a] 0 _ (by simp) rfl (by simp) ha w0 (by rw [e0];simp)
 rw [show (((0:Nat):Int))=0 from rfl] at sl
 rw [sl]
 simp only [Option.bind_some]
 exact spec_62 0 _ ha (by simp)
end Go.Proofs.V

namespace Go.Proofs.V
open Go
def chB (s:Za) (c:List Int):Bool:=decide (c.length=(s.channels.getD 0 []).length)&&(decide (c.length≤4000)&&inOk s.bits.toNat c)
def goodS (s:Za):Bool:=decide (1≤s.rate∧s.rate≤1000000∧2≤s.bits∧s.bits≤24∧1≤s.frame∧s.frame≤512∧1≤s.channels.length∧s.channels.length≤2)&&s.channels.all (chB s)
def SmS (s:Za):Prop:=s.channels.length≤1048576∧∀ y ∈ s.channels,y.length≤1048576
theorem goodS_no {s:Za} (h : ¬ (1≤s.rate∧s.rate≤1000000∧2≤s.bits∧s.bits≤24∧1≤s.frame∧s.frame≤512∧1≤s.channels.length∧s.channels.length≤2)):goodS s=false:=by
 unfold goodS
 rw [decide_eq_false h]
 rfl
theorem impl_good (s:Za) (hs:SmS s):m_Ie s=some (goodS s):=by
 dsimp only [m_Ie,m_Ie_0]
 by_cases h1:s.rate < 1
 ·rw [if_pos (by simpa using h1),goodS_no (by omega)]
 rw [if_neg (by simpa using h1)]
 by_cases h2:s.rate > 1000000
 ·rw [if_pos (by simpa using h2),goodS_no (by omega)]
 rw [if_neg (by simpa using h2)]
 by_cases h3:s.bits < 2
 ·rw [if_pos (by simpa using h3),goodS_no (by omega)]
 rw [if_neg (by simpa using h3)]
 by_cases h4:s.bits > 24
 ·rw [if_pos (by simpa using h4),goodS_no (by omega)]
 rw [if_neg (by simpa using h4)]
 by_cases h5:s.frame < 1
 ·rw [if_pos (by simpa using h5),goodS_no (by omega)]
 rw [if_neg (by simpa using h5)]
 by_cases h6:s.frame > 512
 ·rw [if_pos (by simpa using h6),goodS_no (by omega)]
 rw [if_neg (by simpa using h6)]
 by_cases h7:s.channels.length < 1
 ·rw [if_pos (by simp;omega),goodS_no (by omega)]
 rw [if_neg (by simp;omega)]
 by_cases h8:s.channels.length > 2
 ·rw [if_pos (by simp;omega),goodS_no (by omega)]
 rw [if_neg (by simp;omega)]
 have hbits:s.bits=((s.bits.toNat:Nat):Int):=by omega
 have hr0:rd s.channels 0=some (s.channels.getD 0 []):=rd_d (i:=0) [] (by omega)
 rw [all_list (l:=s.channels) (q:=chB s) (b:=lp_Ie_17 s) (by omega) (fun i hi=>by
  have hlen:=hs.2 s.channels[i] (by simp)
  have hlen0:(s.channels.getD 0 []).length≤1048576:=hs.2 _ (by rw [List.getD_eq_getElem?_getD,List.getElem?_eq_getElem (by omega)];simp)
  dsimp only [lp_Ie_17,m_Ie_17]
  rw [if_pos (by simpa using hi),rd_eq hi]
  simp only [Option.bind_some]
  rw [hr0]
  simp only [Option.bind_some]
  rw [w64_succ (by omega)]
  unfold chB
  by_cases hl:s.channels[i].length=(s.channels.getD 0 []).length
  ·rw [if_neg (by rw [hl];simp),decide_eq_true hl,Bool.true_and,ck_eq (by rw [w64_id (by omega) (by omega)];omega)]
   simp only [Option.bind_some]
   by_cases h4000:s.channels[i].length≤4000
   ·have:=impl_in s.bits.toNat (by omega) s.channels[i] h4000
    rw [←hbits] at this
    rw [this,decide_eq_true h4000,Bool.true_and]
    rfl
   ·have:∀ lo hi,m_Ir s.channels[i] lo hi 4000=some false:=fun lo hi=>by
     have:=impl_range2 s.channels[i] lo hi 4000 h4000
     rw [show ((4000:Nat):Int)=4000 from rfl] at this
     exact this
    rw [this,decide_eq_false h4000,Bool.false_and]
    rfl
  ·rw [if_pos (by rw [bne_iff_ne];omega),decide_eq_false hl,Bool.false_and,if_neg (by simp)]) (by
  dsimp only [lp_Ie_17,m_Ie_17]
  rw [if_neg (by simp)])]
 unfold goodS
 rw [decide_eq_true (by omega),Bool.true_and]
 cases s.channels.all (chB s) <;> rfl
theorem spec_good (s:Za) (hs:SmS s):m_Sd s=some (goodS s):=by
 dsimp only [m_Sd,m_Sd_0]
 by_cases h7:s.channels.length < 1
 ·rw [if_pos (by simp;omega),goodS_no (by omega)]
 rw [if_neg (by simp;omega)]
 have hr0:rd s.channels 0=some (s.channels.getD 0 []):=rd_d (i:=0) [] (by omega)
 rw [hr0]
 simp only [Option.bind_some]
 have hlen0:(s.channels.getD 0 []).length≤1048576:=hs.2 _ (by rw [List.getD_eq_getElem?_getD,List.getElem?_eq_getElem (by omega)];simp)
 dsimp only [m_Sh,m_Sh_0]
 by_cases h1:s.rate < 1
 ·rw [if_pos (by simpa using h1),goodS_no (by omega)];rfl
 rw [if_neg (by simpa using h1)]
 by_cases h2:s.rate > 1000000
 ·rw [if_pos (by simpa using h2),goodS_no (by omega)];rfl
 rw [if_neg (by simpa using h2)]
 by_cases h3:s.bits < 2
 ·rw [if_pos (by simpa using h3),goodS_no (by omega)];rfl
 rw [if_neg (by simpa using h3)]
 by_cases h4:s.bits > 24
 ·rw [if_pos (by simpa using h4),goodS_no (by omega)];rfl
 rw [if_neg (by simpa using h4)]
 by_cases h5:s.frame < 1
 ·rw [if_pos (by simpa using h5),goodS_no (by omega)];rfl
 rw [if_neg (by simpa using h5)]
 by_cases h6:s.frame > 512
 ·rw [if_pos (by simpa using h6),goodS_no (by omega)];rfl
 rw [if_neg (by simpa using h6),if_pos (by simp;omega)]
 by_cases h8:s.channels.length≤2
 ·rw [if_pos (by simp;omega)]
  simp only [Option.bind_some]
  have hbits:s.bits=((s.bits.toNat:Nat):Int):=by omega
  by_cases h9:(s.channels.getD 0 []).length≤4000
  ·rw [if_pos (by simp only [decide_eq_true_eq];omega)]
   rw [all_list (l:=s.channels) (q:=chB s) (b:=lp_Sd_15 s) (by omega) (fun i hi=>by
    have hlen:=hs.2 s.channels[i] (by simp)
    dsimp only [lp_Sd_15,m_Sd_15]
    rw [if_pos (by simpa using hi),rd_eq hi]
    simp only [Option.bind_some]
    rw [hr0]
    simp only [Option.bind_some]
    rw [w64_succ (by omega)]
    unfold chB
    by_cases hl:s.channels[i].length=(s.channels.getD 0 []).length
    ·rw [if_neg (by rw [hl];simp),decide_eq_true hl,Bool.true_and]
     have:=spec_in s.bits.toNat (by omega) s.channels[i] (by omega)
     rw [←hbits] at this
     rw [this,decide_eq_true (by omega:s.channels[i].length≤4000),Bool.true_and]
     rfl
    ·rw [if_pos (by rw [bne_iff_ne];omega),decide_eq_false hl,Bool.false_and,if_neg (by simp)]) (by
    dsimp only [lp_Sd_15,m_Sd_15]
    rw [if_neg (by simp)])]
   unfold goodS
   rw [decide_eq_true (by omega),Bool.true_and]
   cases s.channels.all (chB s) <;> rfl
  ·rw [if_neg (by simp only [decide_eq_true_eq];omega)]
   have:goodS s=false:=by
    unfold goodS
    have h0:s.channels.all (chB s)=false:=by
     rw [List.all_eq_false]
     refine ⟨s.channels.getD 0 [],by rw [List.getD_eq_getElem?_getD,List.getElem?_eq_getElem (by omega)];simp,?_⟩
     unfold chB
     simp only [decide_eq_false h9,Bool.false_and,Bool.and_false,Bool.false_eq_true,not_false_eq_true]
    rw [h0,Bool.and_false]
   rw [this]
 ·rw [if_neg (by simp;omega),goodS_no (by omega)];rfl
theorem good_facts {s:Za} (h:goodS s=true):(1≤s.rate∧s.rate≤1000000∧2≤s.bits∧s.bits≤24∧1≤s.frame∧s.frame≤512∧1≤s.channels.length∧s.channels.length≤2)∧∀ c ∈ s.channels,c.length=(s.channels.getD 0 []).length∧c.length≤4000∧∀ x ∈ c,-8388608≤x∧x≤8388607:=by
 unfold goodS at h
 rw [Bool.and_eq_true] at h
 have h1:=of_decide_eq_true h.1
 refine ⟨h1,fun c hc=>?_⟩
 have h2:=List.all_eq_true.1 h.2 c hc
 unfold chB at h2
 rw [Bool.and_eq_true,Bool.and_eq_true] at h2
 refine ⟨of_decide_eq_true h2.1,of_decide_eq_true h2.2.1,fun x hx=>?_⟩
 have h3:=List.all_eq_true.1 (show allIn _ _ c=true from h2.2.2) x hx
 have h4:=of_decide_eq_true h3
 have h5:2 ^ (s.bits.toNat - 1)≤2 ^ 23:=Nat.pow_le_pow_right (by decide) (by omega)
 omega
def hd4:List Int:=[83,78,68,49]
def sh (s:BS):BS:=(hd4++s.1,s.2+32)
theorem sh_grow (s:BS):grow (sh s)=hd4++grow s:=by
 unfold grow sh
 simp only
 by_cases h:s.2 % 8=0
 ·rw [if_pos (by omega),if_pos h,List.append_assoc]
 ·rw [if_neg (by omega),if_neg h]
theorem sh_bit (v:Bool) (s:BS):bitS v (sh s)=sh (bitS v s):=by
 have h1:(sh s).2 / 8=s.2 / 8+4:=by simp only [sh];omega
 have h2:(sh s).2 % 8=s.2 % 8:=by simp only [sh];omega
 unfold bitS
 rw [sh_grow,h1,h2]
 cases v with
 | false=>simp [sh]
 | true=>
  have e1:(hd4++grow s).getD (s.2 / 8+4) 0=(grow s).getD (s.2 / 8) 0:=by
   simp [List.getD_eq_getElem?_getD,List.getElem?_append,hd4]
  have e2:∀ x,(hd4++grow s).set (s.2 / 8+4) x=hd4++(grow s).set (s.2 / 8) x:=fun x=>by simp [hd4]
  simp only [if_true,e1,e2,sh]
theorem sh_put:∀ (k:Nat) (v:Int) (s:BS),putS k v (sh s)=sh (putS k v s)
 | 0,v,s=>rfl
 | k+1,v,s=>by simp only [putS,sh_bit,sh_put k]
def sl (c:List Int) (at_ e:Nat):List Int:=(c.take e).drop at_
def encF (chs:List (List Int)) (F n:Nat):Nat→Nat→List Int→List Int
 | 0,at_,out=>out
 | k+1,at_,out=>if at_ < n then encF chs F n k (at_+F) (out++frOut (chs.map fun c=>sl c at_ (min (at_+F) n))) else out
def headS (s:Za) (t:BS):BS:=putS 12 (wr .u64 ((s.channels.getD 0 []).length:Int)) (putS 1 (wr .u64 (w64 ((s.channels.length:Int) - 1))) (putS 10 (wr .u64 s.frame) (putS 5 (wr .u64 s.bits) (putS 20 (wr .u64 s.rate) t))))
def encS (s:Za):List Int:=if goodS s=true then encF s.channels s.frame.toNat (s.channels.getD 0 []).length 4001 0 (hd4++(headS s ([],0)).1) else []
theorem four_bytes (t:Za):loopM (lp_Ic_17 t) (0,0,[83,78,68,49],[])=some (32,[83,78,68,49]):=by
 have b0:WB (([]:List Int),0):=wb0
 have e1:putS 8 (wr .u64 83) ([],0)=([83],8):=by kernel_rfl
 have e2:putS 8 (wr .u64 78) ([83],8)=([83,78],16):=by kernel_rfl
 have e3:putS 8 (wr .u64 68) ([83,78],16)=([83,78,68],24):=by kernel_rfl
 have e4:putS 8 (wr .u64 49) ([83,78,68],24)=([83,78,68,49],32):=by kernel_rfl
 have w1:WB (([83]:List Int),8):=by rw [←e1];exact putS_wb _ _ _ b0 (by simp)
 have w2:WB (([83,78]:List Int),16):=by rw [←e2];exact putS_wb _ _ _ w1 (by simp)
 have w3:WB (([83,78,68]:List Int),24):=by rw [←e3];exact putS_wb _ _ _ w2 (by simp)
 have w4:WB (([83,78,68,49]:List Int),32):=by rw [←e4];exact putS_wb _ _ _ w3 (by simp)
 have p1:m_Ij (Zd.mk [] 0) 8 (wr .u64 83)=some (Zd.mk [83] 8):=by
  have:=impl_put 8 (wr .u64 83) ([],0) b0 (by omega) (by simp)
  rw [e1] at this
  exact this
 have p2:m_Ij (Zd.mk [83] 8) 8 (wr .u64 78)=some (Zd.mk [83,78] 16):=by
  have:=impl_put 8 (wr .u64 78) ([83],8) w1 (by omega) (by simp)
  rw [e2] at this
  exact this
 have p3:m_Ij (Zd.mk [83,78] 16) 8 (wr .u64 68)=some (Zd.mk [83,78,68] 24):=by
  have:=impl_put 8 (wr .u64 68) ([83,78],16) w2 (by omega) (by simp)
  rw [e3] at this
  exact this
 have p4:m_Ij (Zd.mk [83,78,68] 24) 8 (wr .u64 49)=some (Zd.mk [83,78,68,49] 32):=by
  have:=impl_put 8 (wr .u64 49) ([83,78,68],24) w3 (by omega) (by simp)
  rw [e4] at this
  exact this
 have s0:lp_Ic_17 t (0,0,[83,78,68,49],[])=some (.inl (1,8,[83,78,68,49],[83])):=by
  simp only [lp_Ic_17,m_Ic_17]
  rw [if_pos (by decide),show rd ([83,78,68,49]:List Int) 0=some 83 from rfl]
  simp only [Option.bind_some]
  rw [p1]
  rfl
 have s1:lp_Ic_17 t (1,8,[83,78,68,49],[83])=some (.inl (2,16,[83,78,68,49],[83,78])):=by
  simp only [lp_Ic_17,m_Ic_17]
  rw [if_pos (by decide),show rd ([83,78,68,49]:List Int) 1=some 78 from rfl]
  simp only [Option.bind_some]
  rw [p2]
  rfl
 have s2:lp_Ic_17 t (2,16,[83,78,68,49],[83,78])=some (.inl (3,24,[83,78,68,49],[83,78,68])):=by
  simp only [lp_Ic_17,m_Ic_17]
  rw [if_pos (by decide),show rd ([83,78,68,49]:List Int) 2=some 68 from rfl]
  simp only [Option.bind_some]
  rw [p3]
  rfl
 have s3:lp_Ic_17 t (3,24,[83,78,68,49],[83,78,68])=some (.inl (4,32,[83,78,68,49],[83,78,68,49])):=by
  simp only [lp_Ic_17,m_Ic_17]
  rw [if_pos (by decide),show rd ([83,78,68,49]:List Int) 3=some 49 from rfl]
  simp only [Option.bind_some]
  rw [p4]
  rfl
 have s4:lp_Ic_17 t (4,32,[83,78,68,49],[83,78,68,49])=some (.inr (32,[83,78,68,49])):=by
  simp only [lp_Ic_17,m_Ic_17]
  rw [if_neg (by decide)]
 exact (lp_step s0).trans ((lp_step s1).trans ((lp_step s2).trans ((lp_step s3).trans (lp_end s4))))
end Go.Proofs.V

namespace Go.Proofs.V
open Go
theorem frB_len (way:Nat) (ls:List (List Int)) (h:OkL ls) (hl:ls.length≤2):((frB way ls).length:Int)=(2+costL ls+7) / 8+2:=by
 obtain ⟨w0,e0,w1,e1⟩ :=frS_w way ls h hl
 have:=w1.1
 unfold frB
 simp only [List.length_append,List.length_cons,List.length_nil]
 omega
theorem z_93 (a1:List Int) (at_ F:Nat) (p0:Za) (hF:p0.frame=F) (out:List Int) (ho:out.length≤1000000) (hat:at_≤100000∧F≤100000) (way:Nat) (ls:List (List Int)) (h:OkL ls) (hl:ls.length≤2) :
  m_Ic_93 a1 (at_:Int) p0 out (way:Int) ls=some (.inl (((at_+F:Nat):Int),out++frB way ls)):=by
 obtain ⟨w0,e0,w1,e1⟩ :=frS_w way ls h hl
 have hc:=listsW_w ls _ h w0 (by omega)
 have hlen:=w1.1
 dsimp only [m_Ic_93]
 have p1:=impl_put 2 (wr .u64 (way:Int)) ([],0) wb0 (by omega) (by simp)
 rw [show ((2:Nat):Int)=2 from rfl,show zOf ([],0)=Zd.mk [] 0 from rfl] at p1
 rw [p1]
 simp only [Option.bind_some]
 have zl:=z_lists a1 (at_:Int) p0 out ls ls 0 _ (by omega) rfl (by omega) h w0 (by omega)
 rw [show (((0:Nat):Int))=0 from rfl] at zl
 rw [zl]
 simp only [Option.bind_some]
 rw [show listsW ls (putS 2 (wr .u64 (way:Int)) ([],0))=frS way ls from rfl]
 dsimp only [m_Ic_175]
 rw [impl_crc _ (by omega)]
 simp only [Option.bind_some]
 rw [ck_eq (by omega)]
 simp only [Option.bind_some]
 rw [ck_eq (by simp;omega)]
 simp only [Option.bind_some]
 rw [hF,w64_id (by omega) (by omega),List.append_assoc]
 rfl
theorem sl_len (c:List Int) (at_ e:Nat) (h:at_≤e) (he:e≤c.length):(sl c at_ e).length=e - at_:=by unfold sl;simp;omega
theorem sl_mem (c:List Int) (at_ e:Nat):∀ x ∈ sl c at_ e,x ∈ c:=fun x hx=>List.mem_of_mem_take (List.mem_of_mem_drop hx)
section
variable {s:Za} (hg:goodS s=true) {F n:Nat} (hF:s.frame=F) (hn:(s.channels.getD 0 []).length=n)
include hg hF hn
theorem bounds:1≤F∧F≤512∧n≤4000∧(s.channels.length=1∨s.channels.length=2):=by
 obtain ⟨h1,h2⟩ :=good_facts hg
 have h0:s.channels.getD 0 [] ∈ s.channels:=by rw [List.getD_eq_getElem?_getD,List.getElem?_eq_getElem (by omega)];simp
 have:=(h2 _ h0).2.1
 omega
theorem slices {at_ e:Nat} (h1:at_≤e) (h2:e≤n) (h3:e - at_≤600):∀ c ∈ s.channels,(sl c at_ e).length=e - at_∧(∀ x ∈ sl c at_ e,-8388608≤x∧x≤8388607):=by
 intro c hc
 obtain ⟨g1,g2⟩ :=good_facts hg
 obtain ⟨k1,k2,k3⟩ :=g2 c hc
 exact ⟨sl_len c at_ e h1 (by omega),fun x hx=>k3 x (sl_mem c at_ e x hx)⟩
theorem frOut_len {at_ e:Nat} (h1:at_ < e) (h2:e≤n) (h3:e - at_≤600):(frOut (s.channels.map fun c=>sl c at_ e)).length≤13*(e - at_)∧
  m_Sf (s.channels.map fun c=>sl c at_ e)=some (frOut (s.channels.map fun c=>sl c at_ e)):=by
 have hb:=bounds hg hF hn
 have hs:=slices hg hF hn (Nat.le_of_lt h1) h2 h3
 revert hs hb
 generalize s.channels=chs
 intro hb hs
 rcases hb.2.2.2 with h | h
 ·match chs,h with
  | [c],_=>
   obtain ⟨l1,l2⟩ :=hs c (by simp)
   have ho:OkL [sl c at_ e]:=fun l hl=>by
    simp only [List.mem_cons,List.not_mem_nil,or_false] at hl
    subst hl
    exact ⟨by omega,fun x hx=>by have:=l2 x hx;omega⟩
   have hcost:=bestS_cost (l:=sl c at_ e) (by omega) (fun x hx=>by have:=l2 x hx;omega)
   have hlen:=frB_len 0 _ ho (by simp)
   simp only [List.map_cons,List.map_nil]
   refine ⟨?_,spec_frame1 _ ho⟩
   show (frB 0 [sl c at_ e]).length≤_
   simp only [costL] at hlen
   omega
 ·match chs,h with
  | [c,c2],_=>
   obtain ⟨l1,l2⟩ :=hs c (by simp)
   obtain ⟨m1,m2⟩ :=hs c2 (by simp)
   have hlen2:(sl c at_ e).length=(sl c2 at_ e).length:=by omega
   have hn6:(sl c at_ e).length≤600:=by omega
   obtain ⟨w1,w2⟩ :=wayF_facts hn6 hlen2 l2 m2
   have ho:=okl_tr hn6 hlen2 l2 m2 _ w1
   have hcost:=cW_rng hn6 hlen2 l2 m2 _ w1
   have hlen:=frB_len (wayF (sl c at_ e) (sl c2 at_ e)).1 _ ho (by simp)
   simp only [List.map_cons,List.map_nil]
   refine ⟨?_,spec_frame2 hn6 hlen2 l2 m2⟩
   show (frB _ _).length≤_
   simp only [costL] at hlen
   unfold cW at hcost
   omega
theorem s_chs (x0:List Int) (at_ e:Nat) (h1:at_≤e) (h2:e≤n) (out:List Int):∀ (R:List (List Int)) (i:Nat) (acc:List (List Int)),i+R.length=s.channels.length→s.channels.drop i=R→acc.length=i→
  loopM (lp_Sb_54 x0 (at_:Int) (e:Int) s out) ((i:Int),acc)=some (acc++R.map fun c=>sl c at_ e)
 | [],i,acc,h3,h4,h5=>by
  refine lp_end ?_
  dsimp only [lp_Sb_54,m_Sb_54]
  simp at h3
  rw [if_neg (by simp;omega)]
  simp
 | c::R,i,acc,h3,h4,h5=>by
  have hb:=bounds hg hF hn
  have hi:i < s.channels.length:=by simp at h3;omega
  have hc:s.channels[i]=c:=by
   rw [List.drop_eq_getElem_cons hi] at h4
   exact (List.cons.inj h4).1
  have h4' : s.channels.drop (i+1)=R:=by
   rw [List.drop_eq_getElem_cons hi] at h4
   exact (List.cons.inj h4).2
  have hlen:=(good_facts hg).2 c (by rw [←hc];simp)
  refine (lp_step (s':=(((i+1:Nat):Int),acc++[sl c at_ e])) ?_).trans ?_
  ·dsimp only [lp_Sb_54,m_Sb_54]
   rw [if_pos (by simpa using hi),rd_eq hi,hc]
   simp only [Option.bind_some]
   rw [ck_eq (by omega)]
   simp only [Option.bind_some]
   rw [Int.toNat_natCast,ck_eq (by omega)]
   simp only [Option.bind_some]
   rw [ck_eq (by simp;omega)]
   simp only [Option.bind_some]
   rw [w64_succ (by omega),Int.toNat_natCast]
   rfl
  ·rw [s_chs x0 at_ e h1 h2 out R (i+1) (acc++[sl c at_ e]) (by simp at h3;omega) h4' (by simp;omega)]
   simp
theorem s_frames (x0:List Int) (hx0:x0.length=n):∀ (k at_:Nat) (out:List Int),n < at_+k→at_≤5000→out.length≤10+13*min at_ n→
  loopM (lp_Sb_31 x0 s) ((at_:Int),out)=some (encF s.channels F n k at_ out)∧(encF s.channels F n k at_ out).length≤10+13*n:=by
 have hb:=bounds hg hF hn
 intro k
 induction k with
 | zero=>
  intro at_ out hk ha ho
  refine ⟨lp_end ?_,by unfold encF;omega⟩
  dsimp only [lp_Sb_31,m_Sb_31]
  rw [hx0,if_neg (by simp;omega)]
  rfl
 | succ k ih=>
  intro at_ out hk ha ho
  unfold encF
  by_cases hat:at_ < n
  ·rw [if_pos hat]
   obtain ⟨f1,f2⟩ :=frOut_len hg hF hn (at_:=at_) (e:=min (at_+F) n) (by omega) (by omega) (by omega)
   have ih':=ih (at_+F) (out++frOut (s.channels.map fun c=>sl c at_ (min (at_+F) n))) (by omega) (by omega) (by simp only [List.length_append];omega)
   refine ⟨(lp_step ?_).trans ih'.1,ih'.2⟩
   have k47:m_Sb_47 x0 (at_:Int) s out ((min (at_+F) n:Nat):Int)=some (.inl (((at_+F:Nat):Int),out++frOut (s.channels.map fun c=>sl c at_ (min (at_+F) n)))):=by
    dsimp only [m_Sb_47]
    have sc:=s_chs hg hF hn x0 at_ (min (at_+F) n) (by omega) (by omega) out s.channels 0 [] (by omega) rfl rfl
    rw [show (((0:Nat):Int))=0 from rfl,List.nil_append] at sc
    rw [sc]
    simp only [Option.bind_some]
    dsimp only [m_Sb_66]
    rw [f2]
    simp only [Option.bind_some]
    rw [ck_eq (by omega)]
    simp only [Option.bind_some]
    rw [hF,w64_id (by omega) (by omega)]
    rfl
   dsimp only [lp_Sb_31,m_Sb_31]
   rw [hx0,if_pos (by simpa using hat),hF,w64_id (by omega) (by omega),←k47]
   by_cases hm:(at_:Int)+F > (n:Int)
   ·rw [if_pos (by simpa using hm)]
    congr 1
    omega
   ·rw [if_neg (by simpa using hm)]
    congr 1
    omega
  ·rw [if_neg hat]
   refine ⟨lp_end ?_,by omega⟩
   dsimp only [lp_Sb_31,m_Sb_31]
   rw [hx0,if_neg (by simp;omega)]
theorem z_step (x0:List Int) (hx0:x0.length=n) (at_:Nat) (hat:at_ < n) (ha:at_≤5000) (out:List Int) (ho:out.length≤100000):lp_Ic_48 x0 s ((at_:Int),out)=some (.inl (((at_+F:Nat):Int),out++frOut (s.channels.map fun c=>sl c at_ (min (at_+F) n)))):=by
 have hb:=bounds hg hF hn
 have hs:=slices hg hF hn (at_:=at_) (e:=min (at_+F) n) (by omega) (by omega) (by omega)
 have hlen:∀ c ∈ s.channels,c.length=n:=fun c hc=>by rw [((good_facts hg).2 c hc).1,hn]
 have he:mnI ((at_:Int)+F) (n:Int)=((min (at_+F) n:Nat):Int):=by
  unfold mnI
  split <;> omega
 have hem:min (at_+F) n≤n∧at_≤min (at_+F) n∧min (at_+F) n - at_≤600:=by omega
 dsimp only [lp_Ic_48,m_Ic_48]
 rw [hx0,if_pos (by simpa using hat),hF,w64_id (x:=(at_:Int)+F) (by omega) (by omega),he]
 generalize min (at_+F) n=e at hs hem ⊢
 obtain ⟨rate,bits,frame,chs⟩ :=s
 dsimp only at hb hs hlen hF ⊢
 rcases hb.2.2.2 with h | h
 ·match chs,h with
  | [c],_=>
   obtain ⟨l1,l2⟩ :=hs c (by simp)
   have hcl:=hlen c (by simp)
   have ho1:OkL [sl c at_ e]:=fun l hl=>by
    simp only [List.mem_cons,List.not_mem_nil,or_false] at hl
    subst hl
    exact ⟨by omega,fun x hx=>by have:=l2 x hx;omega⟩
   rw [show rd [c] 0=some c from rfl]
   simp only [Option.bind_some]
   rw [ck_eq (by omega)]
   simp only [Option.bind_some]
   rw [Int.toNat_natCast,ck_eq (by omega)]
   simp only [Option.bind_some]
   rw [if_neg (by simp),Int.toNat_natCast]
   have z:=z_93 x0 at_ F (Za.mk rate bits frame [c]) hF out (by omega) (by omega) 0 [sl c at_ e] ho1 (by simp)
   rw [show (((0:Nat):Int))=0 from rfl] at z
   exact z
 ·match chs,h with
  | [c,c2],_=>
   obtain ⟨l1,l2⟩ :=hs c (by simp)
   obtain ⟨m1,m2⟩ :=hs c2 (by simp)
   have hcl:=hlen c (by simp)
   have hcl2:=hlen c2 (by simp)
   have hlen2:(sl c at_ e).length=(sl c2 at_ e).length:=by omega
   have hn6:(sl c at_ e).length≤600:=by omega
   obtain ⟨w1,w2⟩ :=wayF_facts hn6 hlen2 l2 m2
   have hok:=okl_tr hn6 hlen2 l2 m2 _ w1
   rw [show rd [c,c2] 0=some c from rfl]
   simp only [Option.bind_some]
   rw [ck_eq (by omega)]
   simp only [Option.bind_some]
   rw [Int.toNat_natCast,ck_eq (by omega)]
   simp only [Option.bind_some]
   rw [if_pos (by rfl),Int.toNat_natCast]
   have key:=(fold_range (n:=3) (σ:=Nat×Int) (fun t w=>(((e:Nat):Int),(t.1:Int),t.2,((w:Nat):Int),(if t.2 < 0 then [sl c at_ e] else [(trF t.1 (sl c at_ e) (sl c2 at_ e)).1,(trF t.1 (sl c at_ e) (sl c2 at_ e)).2]:List (List Int)))) (g:=stepW (sl c at_ e) (sl c2 at_ e)) (I:=fun _ _=>True) (b:=lp_Ic_72 x0 (at_:Int) (Za.mk rate bits frame [c,c2]) out) (e1:=fun t=>((t.1:Int),(if t.2 < 0 then [sl c at_ e] else [(trF t.1 (sl c at_ e) (sl c2 at_ e)).1,(trF t.1 (sl c at_ e) (sl c2 at_ e)).2]:List (List Int)))) (fun w t hw _=>⟨by
    obtain ⟨⟨q1,q2⟩,r1,r2⟩ :=trF_facts (by omega) hlen2 l2 m2 w (by omega)
    have hcr:=cW_rng hn6 hlen2 l2 m2 w (by omega)
    dsimp only [lp_Ic_72,m_Ic_72]
    rw [if_pos (by simp;omega),show rd [c,c2] 0=some c from rfl]
    simp only [Option.bind_some]
    rw [ck_eq (by omega)]
    simp only [Option.bind_some]
    rw [Int.toNat_natCast,ck_eq (by omega),show rd [c,c2] 1=some c2 from rfl]
    simp only [Option.bind_some]
    rw [ck_eq (by omega)]
    simp only [Option.bind_some]
    rw [Int.toNat_natCast,show (c.take e).drop at_=sl c at_ e from rfl,show (c2.take e).drop at_=sl c2 at_ e from rfl,impl_turn (by omega) hlen2 l2 m2 w (by omega)]
    simp only [Option.bind_some]
    rw [impl_best (by omega) r1]
    simp only [Option.bind_some]
    rw [impl_plancost (by omega) r1]
    simp only [Option.bind_some]
    rw [impl_best (by omega) r2]
    simp only [Option.bind_some]
    rw [impl_plancost (by omega) r2]
    simp only [Option.bind_some]
    have hcw:w64 ((bestS (trF w (sl c at_ e) (sl c2 at_ e)).1).1+(bestS (trF w (sl c at_ e) (sl c2 at_ e)).2).1)=cW (sl c at_ e) (sl c2 at_ e) w:=w64_id (by unfold cW at hcr;omega) (by unfold cW at hcr;omega)
    rw [hcw]
    have k88:∀ (L4:List (List Int)) (q:Bool),m_Ic_88 x0 (at_:Int) (e:Int) (t.1:Int) t.2 (w:Int) (Za.mk rate bits frame [c,c2]) out L4 (trF w (sl c at_ e) (sl c2 at_ e)) (cW (sl c at_ e) (sl c2 at_ e) w) q=some (.inl (if q=true then ((e:Int),(w:Int),cW (sl c at_ e) (sl c2 at_ e) w,((w+1:Nat):Int),[(trF w (sl c at_ e) (sl c2 at_ e)).1,(trF w (sl c at_ e) (sl c2 at_ e)).2]) else ((e:Int),(t.1:Int),t.2,((w+1:Nat):Int),L4))):=by
     intro L4 q
     dsimp only [m_Ic_88]
     rw [w64_succ (by omega)]
     cases q <;> rfl
    rw [k88,k88]
    unfold stepW
    by_cases h1:t.2 < 0
    ·rw [if_pos (by simpa using h1),if_pos (Or.inl h1)]
     simp only [if_true]
     rw [if_neg (by omega)]
    ·rw [if_neg (by simpa using h1)]
     by_cases h2:cW (sl c at_ e) (sl c2 at_ e) w < t.2
     ·rw [decide_eq_true h2,if_pos (Or.inr h2)]
      simp only [if_true]
      rw [if_neg (by omega)]
     ·rw [decide_eq_false h2,if_neg (fun hh=>Or.elim hh h1 h2)]
      simp only [Bool.false_eq_true,if_false],trivial⟩) (fun t _=>by
    dsimp only [lp_Ic_72,m_Ic_72]
    rw [if_neg (by simp)]) (0,-1) trivial).1
   rw [show (((0:Nat):Int))=0 from rfl] at key
   dsimp only at key
   rw [if_pos (by decide),show (List.range 3).foldl (stepW (sl c at_ e) (sl c2 at_ e)) (0,-1)=wayF (sl c at_ e) (sl c2 at_ e) from rfl] at key
   have hcost:=cW_rng hn6 hlen2 l2 m2 _ w1
   rw [if_neg (by rw [w2];omega)] at key
   rw [show (c.take e).drop at_=sl c at_ e from rfl]
   rw [show loopM (lp_Ic_72 x0 (at_:Int) (Za.mk rate bits frame [c,c2]) out) ((e:Int),0,-1,0,[sl c at_ e])=_ from key]
   simp only [Option.bind_some]
   exact z_93 x0 at_ F (Za.mk rate bits frame [c,c2]) hF out (by omega) (by omega) _ _ hok (by simp)
theorem z_frames (x0:List Int) (hx0:x0.length=n):∀ (k at_:Nat) (out:List Int),n < at_+k→at_≤5000→out.length≤10+13*min at_ n→
  loopM (lp_Ic_48 x0 s) ((at_:Int),out)=some (encF s.channels F n k at_ out):=by
 have hb:=bounds hg hF hn
 intro k
 induction k with
 | zero=>
  intro at_ out hk ha ho
  refine lp_end ?_
  dsimp only [lp_Ic_48,m_Ic_48]
  rw [hx0,if_neg (by simp;omega)]
  rfl
 | succ k ih=>
  intro at_ out hk ha ho
  unfold encF
  by_cases hat:at_ < n
  ·rw [if_pos hat]
   obtain ⟨f1,f2⟩ :=frOut_len hg hF hn (at_:=at_) (e:=min (at_+F) n) (by omega) (by omega) (by omega)
   exact (lp_step (z_step hg hF hn x0 hx0 at_ hat ha out (by omega))).trans (ih (at_+F) _ (by omega) (by omega) (by simp only [List.length_append];omega))
  ·rw [if_neg hat]
   refine lp_end ?_
   dsimp only [lp_Ic_48,m_Ic_48]
   rw [hx0,if_neg (by simp;omega)]
end
theorem head_w (s:Za) (t:BS) (h:WB t) (hn:t.2≤100):WB (headS s t)∧(headS s t).2=t.2+48∧
  WB (putS 20 (wr .u64 s.rate) t)∧(putS 20 (wr .u64 s.rate) t).2=t.2+20∧
  WB (putS 5 (wr .u64 s.bits) (putS 20 (wr .u64 s.rate) t))∧(putS 5 (wr .u64 s.bits) (putS 20 (wr .u64 s.rate) t)).2=t.2+25∧
  WB (putS 10 (wr .u64 s.frame) (putS 5 (wr .u64 s.bits) (putS 20 (wr .u64 s.rate) t)))∧(putS 10 (wr .u64 s.frame) (putS 5 (wr .u64 s.bits) (putS 20 (wr .u64 s.rate) t))).2=t.2+35∧
  WB (putS 1 (wr .u64 (w64 ((s.channels.length:Int) - 1))) (putS 10 (wr .u64 s.frame) (putS 5 (wr .u64 s.bits) (putS 20 (wr .u64 s.rate) t))))∧(putS 1 (wr .u64 (w64 ((s.channels.length:Int) - 1))) (putS 10 (wr .u64 s.frame) (putS 5 (wr .u64 s.bits) (putS 20 (wr .u64 s.rate) t)))).2=t.2+36:=by
 have e1:=putS_n 20 (wr .u64 s.rate) t
 have w1:=putS_wb 20 (wr .u64 s.rate) t h (by omega)
 have e2:=putS_n 5 (wr .u64 s.bits) (putS 20 (wr .u64 s.rate) t)
 have w2:=putS_wb 5 (wr .u64 s.bits) _ w1 (by omega)
 have e3:=putS_n 10 (wr .u64 s.frame) (putS 5 (wr .u64 s.bits) (putS 20 (wr .u64 s.rate) t))
 have w3:=putS_wb 10 (wr .u64 s.frame) _ w2 (by omega)
 have e4:=putS_n 1 (wr .u64 (w64 ((s.channels.length:Int) - 1))) (putS 10 (wr .u64 s.frame) (putS 5 (wr .u64 s.bits) (putS 20 (wr .u64 s.rate) t)))
 have w4:=putS_wb 1 (wr .u64 (w64 ((s.channels.length:Int) - 1))) _ w3 (by omega)
 have e5:=putS_n 12 (wr .u64 ((s.channels.getD 0 []).length:Int)) (putS 1 (wr .u64 (w64 ((s.channels.length:Int) - 1))) (putS 10 (wr .u64 s.frame) (putS 5 (wr .u64 s.bits) (putS 20 (wr .u64 s.rate) t))))
 have w5:=putS_wb 12 (wr .u64 ((s.channels.getD 0 []).length:Int)) _ w4 (by omega)
 exact ⟨w5,by unfold headS;omega,w1,by omega,w2,by omega,w3,by omega,w4,by omega⟩
theorem core_EncodeSound (s:Za) (hs:SmS s):m_Sb s=some (encS s)∧m_Ic s=some (encS s)∧(encS s).length≤1048576:=by
 dsimp only [m_Sb,m_Sb_0,m_Ic,m_Ic_0]
 rw [spec_good s hs,impl_good s hs]
 simp only [Option.bind_some]
 unfold encS
 cases hg:goodS s with
 | false=>exact ⟨rfl,rfl,by simp⟩
 | true=>
  simp only [if_true]
  have gf:=(good_facts hg).1
  have hF:s.frame=((s.frame.toNat:Nat):Int):=by omega
  have hb:=bounds hg hF rfl
  have hr0:rd s.channels 0=some (s.channels.getD 0 []):=rd_d (i:=0) [] (by omega)
  rw [hr0]
  simp only [Option.bind_some]
  have t20:((20:Nat):Int)=20:=rfl
  have t5:((5:Nat):Int)=5:=rfl
  have t10:((10:Nat):Int)=10:=rfl
  have t1:((1:Nat):Int)=1:=rfl
  have t12:((12:Nat):Int)=12:=rfl
  obtain ⟨w5,n5,w1,n1,w2,n2,w3,n3,w4,n4⟩ :=head_w s ([],0) wb0 (by simp)
  have hl5:=w5.1
  have hol:(hd4++(headS s ([],0)).1).length=10:=by
   simp only [List.length_append]
   rw [hl5,n5]
   rfl
  have sf:=s_frames hg hF rfl (s.channels.getD 0 []) rfl 4001 0 (hd4++(headS s ([],0)).1) (by omega) (by omega) (by omega)
  have zf:=z_frames hg hF rfl (s.channels.getD 0 []) rfl 4001 0 (hd4++(headS s ([],0)).1) (by omega) (by omega) (by omega)
  rw [show (((0:Nat):Int))=0 from rfl] at sf zf
  refine ⟨?_,?_,by omega⟩
  ·have p1:=spec_put 20 (wr .u64 s.rate) ([],0) wb0 (by omega) (by simp)
   have p2:=spec_put 5 (wr .u64 s.bits) _ w1 (by omega) (by omega)
   have p3:=spec_put 10 (wr .u64 s.frame) _ w2 (by omega) (by omega)
   have p4:=spec_put 1 (wr .u64 (w64 ((s.channels.length:Int) - 1))) _ w3 (by omega) (by omega)
   have p5:=spec_put 12 (wr .u64 ((s.channels.getD 0 []).length:Int)) _ w4 (by omega) (by omega)
   rw [t20,show sinkOf ([],0)=Zb.mk true [] 0 from rfl] at p1
   rw [t5] at p2
   rw [t10] at p3
   rw [t1] at p4
   rw [t12] at p5
   rw [p1]
   simp only [Option.bind_some]
   rw [p2]
   simp only [Option.bind_some]
   rw [p3]
   simp only [Option.bind_some]
   rw [p4]
   simp only [Option.bind_some]
   rw [p5]
   simp only [Option.bind_some]
   have hhl:(headS s ([],0)).1.length≤100:=by rw [hl5,n5];decide
   rw [show putS 12 (wr .u64 ((s.channels.getD 0 []).length:Int)) (putS 1 (wr .u64 (w64 ((s.channels.length:Int) - 1))) (putS 10 (wr .u64 s.frame) (putS 5 (wr .u64 s.bits) (putS 20 (wr .u64 s.rate) ([],0)))))=headS s ([],0) from rfl]
   rw [ck_eq (show ([83,78,68,49]:List Int).length+(headS s ([],0)).1.length≤140737488355328 by simp only [List.length_cons,List.length_nil];omega)]
   simp only [Option.bind_some]
   rw [show loopM (lp_Sb_31 (s.channels.getD 0 []) s) (0,[83,78,68,49]++(headS s ([],0)).1)=_ from sf.1]
   simp only [Option.bind_some]
   dsimp only [m_Sb_68]
   rw [if_neg (by simp only [decide_eq_true_eq];omega)]
  ·rw [four_bytes]
   simp only [Option.bind_some]
   dsimp only [m_Ic_29]
   rw [hr0]
   simp only [Option.bind_some]
   have hsh:([83,78,68,49],32)=sh ([],0):=rfl
   have wsh:WB (sh ([],0)):=⟨rfl,by decide,by decide⟩
   obtain ⟨v5,m5,v1,m1,v2,m2,v3,m3,v4,m4⟩ :=head_w s (sh ([],0)) wsh (by decide)
   have sh2:(sh ([],0)).2=32:=rfl
   have p1:=impl_put 20 (wr .u64 s.rate) (sh ([],0)) wsh (by omega) (by decide)
   have p2:=impl_put 5 (wr .u64 s.bits) _ v1 (by omega) (by omega)
   have p3:=impl_put 10 (wr .u64 s.frame) _ v2 (by omega) (by omega)
   have p4:=impl_put 1 (wr .u64 (w64 ((s.channels.length:Int) - 1))) _ v3 (by omega) (by omega)
   have p5:=impl_put 12 (wr .u64 ((s.channels.getD 0 []).length:Int)) _ v4 (by omega) (by omega)
   rw [t20,show zOf (sh ([],0))=Zd.mk [83,78,68,49] 32 from rfl] at p1
   rw [t5] at p2
   rw [t10] at p3
   rw [t1] at p4
   rw [t12] at p5
   rw [p1]
   simp only [Option.bind_some]
   rw [p2]
   simp only [Option.bind_some]
   rw [p3]
   simp only [Option.bind_some]
   rw [p4]
   simp only [Option.bind_some]
   rw [p5]
   simp only [Option.bind_some]
   have hhd:headS s (sh ([],0))=sh (headS s ([],0)):=by unfold headS;simp only [sh_put]
   rw [show putS 12 (wr .u64 ((s.channels.getD 0 []).length:Int)) (putS 1 (wr .u64 (w64 ((s.channels.length:Int) - 1))) (putS 10 (wr .u64 s.frame) (putS 5 (wr .u64 s.bits) (putS 20 (wr .u64 s.rate) (sh ([],0))))))=headS s (sh ([],0)) from rfl,hhd,show (sh (headS s ([],0))).1=hd4++(headS s ([],0)).1 from rfl,zf]
   rfl
end Go.Proofs.V

namespace Go.Proofs.V
open Go
def wfS_Sound (x:Za):Prop:=inK .i64 x.rate∧inK .i64 x.bits∧inK .i64 x.frame∧(x.channels.length≤maxLen∧∀ y0 ∈ x.channels,(y0.length≤maxLen∧∀ y1 ∈ y0,inK .i64 y1))∧True
theorem sz_IntS (x:(List Int)) (hx:(x.length≤maxLen∧∀ y0 ∈ x,inK .i64 y0)) (left:Int) (h0:0≤left) (h1:left≤1048576):∃ v,m_Lj x left=some v∧(v < 0∨0≤v∧v≤left∧x.length≤1048576):=by
 have hm:x.length≤9223372036854775807:=hx.1
 simp only [m_Lj,m_Lj_0]
 rw [w64_id (by omega) (by omega)]
 try simp only [decide_eq_true_eq]
 by_cases h:left - (x.length:Int) < 0
 ·exact ⟨-1,if_pos h,.inl (by omega)⟩
 ·exact ⟨_,if_neg h,.inr ⟨by omega,by omega,by omega⟩⟩
theorem sz_IntSS (x:(List (List Int))) (hx:(x.length≤maxLen∧∀ y0 ∈ x,(y0.length≤maxLen∧∀ y1 ∈ y0,inK .i64 y1))) (left:Int) (h0:0≤left) (h1:left≤1048576):∃ v,m_Lk x left=some v∧(v < 0∨0≤v∧v≤left∧(x.length≤1048576∧∀ y0 ∈ x,y0.length≤1048576)):=by
 have hm:x.length≤9223372036854775807:=hx.1
 simp only [m_Lk,m_Lk_0,m_Lk_35]
 rw [w64_id (by omega) (by omega)]
 try simp only [decide_eq_true_eq]
 by_cases h:left - (x.length:Int) < 0
 ·exact ⟨-1,if_pos h,.inl (by omega)⟩
 rw [if_neg h]
 have key:=sz_list (l:=x) (b:=lp_Lk_17 x) (Sm:=fun y=>y.length≤1048576) (fun left i hi h0 h1=>?_) (fun left=>?_) (left - x.length) (by omega) (by omega)
 ·obtain ⟨e,he,hr⟩ :=key
  rw [he]
  rcases hr with rfl | ⟨s,rfl,h3,h4,h5⟩
  ·exact ⟨-1,rfl,.inl (by omega)⟩
  ·exact ⟨s,rfl,.inr ⟨h3,by omega,by omega,h5⟩⟩
 ·simp only [lp_Lk_17,m_Lk_17]
  rw [if_pos (by simp <;> omega),rd_eq hi]
  simp only [Option.bind_some]
  obtain ⟨v,hv,hc⟩ :=sz_IntS x[i] (hx.2 _ (List.getElem_mem hi)) left h0 h1
  rw [hv]
  simp only [Option.bind_some]
  rcases hc with hc | hc
  ·left;rw [if_pos (by simpa using hc)]
  ·right;rw [if_neg (by simp <;> omega),w64_succ (by omega)]
   exact ⟨_,rfl,hc.1,hc.2.1,hc.2.2⟩
 ·simp only [lp_Lk_17,m_Lk_17]
  rw [if_neg (by simp)]
def Sm_S_Sound (x:Za):Prop:=(x.channels.length≤1048576∧∀ y0 ∈ x.channels,y0.length≤1048576)
theorem sz_Sound (x:Za) (hx:wfS_Sound x) (left:Int) (h0:0≤left) (h1:left≤1048576):∃ v,m_Ll x left=some v∧(v < 0∨0≤v∧v≤left∧Sm_S_Sound x):=by
 simp only [m_Ll,m_Ll_0]
 obtain ⟨v1,e1,c1⟩ :=sz_IntSS x.channels (hx.2.2.2.1) left (by omega) (by omega)
 rw [e1]
 simp only [Option.bind_some,decide_eq_true_eq]
 rcases c1 with c1 | ⟨d1,f1,g1⟩
 ·exact ⟨-1,by rw [if_pos c1],.inl (by omega)⟩
 rw [if_neg (by omega)]
 exact ⟨_,rfl,.inr ⟨by omega,by omega,g1⟩⟩
theorem to_IntS (x:(List Int)) (hx:x.length≤1048576):m_Lm x=some x:=by
 have hl:x.length≤1048576:=hx
 simp only [m_Lm,m_Lm_0,m_Lm_19]
 rw [ck_eq (by omega)]
 simp only [Option.bind_some]
 suffices key:∀ z,loopM (lp_Lm_9 x) (0,List.replicate (Int.toNat (x.length:Int)) z)=some x by
  rw [key]
  rfl
 intro z
 refine to_list (l:=x) (fun i out hi ho=>?_) (fun out=>?_) z
 ·simp only [lp_Lm_9,m_Lm_9]
  rw [if_pos (by simp <;> omega),rd_eq hi]
  simp only [Option.bind_some]
  rw [rd_eq (by omega)]
  simp only [Option.bind_some]
  rw [w64_succ (by omega)]
 ·simp only [lp_Lm_9,m_Lm_9]
  rw [if_neg (by simp)]
theorem to_IntSS (x:(List (List Int))) (hx:(x.length≤1048576∧∀ y0 ∈ x,y0.length≤1048576)):m_Ln x=some x:=by
 have hl:x.length≤1048576:=hx.1
 simp only [m_Ln,m_Ln_0,m_Ln_19]
 rw [ck_eq (by omega)]
 simp only [Option.bind_some]
 suffices key:∀ z,loopM (lp_Ln_9 x) (0,List.replicate (Int.toNat (x.length:Int)) z)=some x by
  rw [key]
  rfl
 intro z
 refine to_list (l:=x) (fun i out hi ho=>?_) (fun out=>?_) z
 ·simp only [lp_Ln_9,m_Ln_9]
  rw [if_pos (by simp <;> omega),rd_eq hi]
  simp only [Option.bind_some]
  rw [to_IntS x[i] (hx.2 _ (List.getElem_mem hi))]
  simp only [Option.bind_some]
  rw [rd_eq (by omega)]
  simp only [Option.bind_some]
  rw [w64_succ (by omega)]
 ·simp only [lp_Ln_9,m_Ln_9]
  rw [if_neg (by simp)]
theorem to_Sound (x:Za) (hx:Sm_S_Sound x):m_Lo x=some x:=by
 simp only [m_Lo,m_Lo_0]
 rw [to_IntSS x.channels hx]
 simp only [Option.bind_some]
theorem eq_ByteS (x:(List Int)) (hx:x.length≤1048576):m_La x x=some true:=by
 have hl:x.length≤1048576:=hx
 simp only [m_La,m_La_0,m_La_31]
 rw [if_neg (by simp)]
 suffices key:loopM (lp_La_15 x x) 0=some (.inr ()) by
  rw [key]
  rfl
 refine eq_list (n:=x.length) (fun i hi=>?_) ?_
 ·simp only [lp_La_15,m_La_15]
  rw [if_pos (by simp <;> omega),rd_eq hi]
  simp only [Option.bind_some]
  rw [if_neg (by simp),w64_succ (by omega)]
 ·simp only [lp_La_15,m_La_15]
  rw [if_neg (by simp)]
theorem eq_IntS (x:(List Int)) (hx:x.length≤1048576):m_Lb x x=some true:=by
 have hl:x.length≤1048576:=hx
 simp only [m_Lb,m_Lb_0,m_Lb_31]
 rw [if_neg (by simp)]
 suffices key:loopM (lp_Lb_15 x x) 0=some (.inr ()) by
  rw [key]
  rfl
 refine eq_list (n:=x.length) (fun i hi=>?_) ?_
 ·simp only [lp_Lb_15,m_Lb_15]
  rw [if_pos (by simp <;> omega),rd_eq hi]
  simp only [Option.bind_some]
  rw [if_neg (by simp),w64_succ (by omega)]
 ·simp only [lp_Lb_15,m_Lb_15]
  rw [if_neg (by simp)]
theorem eq_IntSS (x:(List (List Int))) (hx:(x.length≤1048576∧∀ y0 ∈ x,y0.length≤1048576)):m_Lc x x=some true:=by
 have hl:x.length≤1048576:=hx.1
 simp only [m_Lc,m_Lc_0,m_Lc_31]
 rw [if_neg (by simp)]
 suffices key:loopM (lp_Lc_15 x x) 0=some (.inr ()) by
  rw [key]
  rfl
 refine eq_list (n:=x.length) (fun i hi=>?_) ?_
 ·simp only [lp_Lc_15,m_Lc_15]
  rw [if_pos (by simp <;> omega),rd_eq hi]
  simp only [Option.bind_some]
  rw [eq_IntS x[i] (hx.2 _ (List.getElem_mem hi))]
  simp only [Option.bind_some,if_true]
  rw [w64_succ (by omega)]
 ·simp only [lp_Lc_15,m_Lc_15]
  rw [if_neg (by simp)]
theorem eq_Sound (x:Za) (hx:Sm_S_Sound x):m_Ld x x=some true:=by
 simp only [m_Ld,m_Ld_0]
 rw [if_neg (by simp)]
 rw [if_neg (by simp)]
 rw [if_neg (by simp)]
 rw [eq_IntSS x.channels hx]
 simp only [Option.bind_some,if_true]
theorem mark_IntS (x:(List Int)) (k:Nat) (hx:x.length≤1048576) (hk:k+1048576≤4611686018427387904):∃ (x' : (List Int)) (k' : Nat),m_Lg x k=some ((k' : Int),x')∧x'.length=x.length∧k≤k'∧k'≤k+1048576:=by
 have hl:x.length≤1048576:=hx
 have hlc:x.length*1≤1048576:=by omega
 have key:=mark_list0 (Sm:=fun y=>True) 1 (b:=lp_Lg_7) (fun l i k hi hl hk hs=>?_) (fun l k=>?_) x k hl (by omega) (fun _ _=>trivial)
 ·obtain ⟨l1,k1,e1,e2,e3,e4⟩ :=key
  refine ⟨l1,k1,?_,e2,e3,by omega⟩
  ·simp only [m_Lg,m_Lg_0]
   rw [e1]
   rfl
 ·refine ⟨(k:Int),k+1,?_,by omega,by omega⟩
  ·simp only [lp_Lg_7,m_Lg_7]
   rw [if_pos (by simp <;> omega),rd_eq hi]
   simp only [Option.bind_some]
   rw [w64_succ (by omega),w64_succ (by omega)]
   simp
 ·simp only [lp_Lg_7,m_Lg_7]
  rw [if_neg (by simp)]
theorem mark_IntSS (x:(List (List Int))) (k:Nat) (hx:(x.length≤1048576∧∀ y0 ∈ x,y0.length≤1048576)) (hk:k+1099511627776≤4611686018427387904):∃ (x' : (List (List Int))) (k' : Nat),m_Lh x k=some ((k' : Int),x')∧x'.length=x.length∧k≤k'∧k'≤k+1099511627776:=by
 have hl:x.length≤1048576:=hx.1
 have hlc:x.length*1048576≤1099511627776:=by omega
 have key:=mark_list0 (Sm:=fun y=>y.length≤1048576) 1048576 (b:=lp_Lh_7) (fun l i k hi hl hk hs=>?_) (fun l k=>?_) x k hl (by omega) hx.2
 ·obtain ⟨l1,k1,e1,e2,e3,e4⟩ :=key
  refine ⟨l1,k1,?_,e2,e3,by omega⟩
  ·simp only [m_Lh,m_Lh_0]
   rw [e1]
   rfl
 ·obtain ⟨y,k2,f1,f2,f3,f4⟩ :=mark_IntS l[i] k hs (by omega)
  refine ⟨y,k2,?_,f3,f4⟩
  ·simp only [lp_Lh_7,m_Lh_7]
   rw [if_pos (by simp <;> omega),rd_eq hi]
   simp only [Option.bind_some]
   rw [f1]
   simp only [Option.bind_some]
   rw [ck_eq f2]
   simp only [Option.bind_some]
   rw [w64_succ (by omega)]
   simp
 ·simp only [lp_Lh_7,m_Lh_7]
  rw [if_neg (by simp)]
theorem mark_Sound (x:Za) (k:Nat) (hx:Sm_S_Sound x) (hk:k+1099511627776≤4611686018427387904):∃ (l_channels:(List (List Int))) (k' : Nat),m_Li x k=some ((k' : Int),(⟨x.rate,x.bits,x.frame,l_channels⟩:Za))∧l_channels.length=x.channels.length∧k≤k'∧k'≤k+1099511627776:=by
 obtain ⟨y0,k0,a0,b0,c0,d0⟩ :=mark_IntSS x.channels k hx (by omega)
 refine ⟨y0,k0,?_,b0,by omega,by omega⟩
 ·simp only [m_Li,m_Li_0]
  rw [a0]
  simp only [Option.bind_some]
  rw [ck_eq b0]
  simp only [Option.bind_some]
  try rfl
theorem mark_ByteS (x:(List Int)) (k:Nat) (hx:x.length≤1048576) (hk:k+1048576≤4611686018427387904):∃ (x' : (List Int)) (k' : Nat),m_Lf x k=some ((k' : Int),x')∧x'.length=x.length∧k≤k'∧k'≤k+1048576∧m_Le x' k=some (k' : Int):=by
 have hl:x.length≤1048576:=hx
 have hlc:x.length*1≤1048576:=by omega
 have key:=mark_list (Sm:=fun y=>True) 1 (b:=lp_Lf_7) (bh:=lp_Le_7) (fun l i k hi hl hk hs=>?_) (fun l k=>?_) (fun l k=>?_) x k hl (by omega) (fun _ _=>trivial)
 ·obtain ⟨l1,k1,e1,e2,e3,e4,e5⟩ :=key
  refine ⟨l1,k1,?_,e2,e3,by omega,?_⟩
  ·simp only [m_Lf,m_Lf_0]
   rw [e1]
   rfl
  ·simp only [m_Le,m_Le_0]
   rw [e5]
   rfl
 ·refine ⟨(wr .u8 (k:Int)),k+1,?_,by omega,by omega,fun l' h' hl' hx'=>?_⟩
  ·simp only [lp_Lf_7,m_Lf_7]
   rw [if_pos (by simp <;> omega),rd_eq hi]
   simp only [Option.bind_some]
   rw [w64_succ (by omega),w64_succ (by omega)]
   simp
  ·simp only [lp_Le_7,m_Le_7]
   rw [if_pos (by simp <;> omega),rd_eq h',hx']
   simp only [Option.bind_some]
   rw [if_neg (by simp),w64_succ (by omega),w64_succ (by omega)]
 ·simp only [lp_Lf_7,m_Lf_7]
  rw [if_neg (by simp)]
 ·simp only [lp_Le_7,m_Le_7]
  rw [if_neg (by simp)]
theorem plain_FnExactEncodeSound (p0:Za) (hp0:wfS_Sound p0) (core:(Sm_S_Sound p0)→∃ w:(List Int),m_Sb p0=some w∧m_Ic p0=some w∧w.length≤1048576):m_laws_FnExactEncodeSound p0=some true:=by
 simp only [m_laws_FnExactEncodeSound,m_laws_FnExactEncodeSound_0,decide_eq_true_eq]
 obtain ⟨v1,e1,c1⟩ :=sz_Sound p0 hp0 1048576 (by omega) (by omega)
 rw [e1]
 simp only [Option.bind_some,decide_eq_true_eq]
 rcases c1 with c1 | c1
 ·rw [if_pos (by simpa using c1)]
 rw [if_neg (by simp <;> omega)]
 have sm_p0:Sm_S_Sound p0:=c1.2.2
 rw [to_Sound p0 sm_p0]
 simp only [Option.bind_some]
 obtain ⟨w,hsp,him,sm0⟩ :=core sm_p0
 rw [hsp]
 simp only [Option.bind_some]
 rw [him]
 simp only [Option.bind_some]
 rw [eq_ByteS w sm0]
 simp only [Option.bind_some,if_true]
 rw [eq_Sound p0 sm_p0]
 simp only [Option.bind_some,if_true]
 obtain ⟨y1_0,k1,a1,b1_0,c1x,d1⟩ :=mark_Sound p0 1 sm_p0 (by omega)
 replace a1:m_Li p0 1=_:=a1
 rw [a1]
 simp only [Option.bind_some]
 rw [ck_eq (by first | assumption | rfl)]
 simp only [Option.bind_some]
 rw [if_neg (by simp <;> omega)]
 obtain ⟨y2,k2,a2,b2,c2x,d2,f2⟩ :=mark_ByteS w 1 sm0 (by omega)
 replace a2:m_Lf w 1=_:=a2
 rw [a2]
 simp only [Option.bind_some]
 replace f2:m_Le _ 1=_:=f2
 rw [ck_eq (by first | assumption | rfl)]
 simp only [Option.bind_some]
 rw [f2]
 simp only [Option.bind_some]
 rw [if_neg (by simp <;> omega)]
 rw [if_neg (by simp)]
end Go.Proofs.V

namespace Go.Proofs.V
open Go
theorem final_FnExactEncodeSound (x0:Za) (w0:wfS_Sound x0):m_laws_FnExactEncodeSound x0=some true:=
 plain_FnExactEncodeSound x0 w0 fun h=>by
  obtain ⟨h1,h2,h3⟩ :=core_EncodeSound x0 h
  exact ⟨encS x0,h1,h2,h3⟩
end Go.Proofs.V

namespace Go.Proofs.V
open Go
def c_Lj_7:VC:=
 .ite (.s 10) (.seq (.r 3 [oN 4 (-1)]) (.ret)) (.skip)
def c_Lj_12:VC:=
 .seq (.r 4 [M 11 1,
  M 4 11]) (.ret)
def c_Lj_4:VC:=
 .seq (.seq (.r 2 [M 9 1,
  {op:=.bin 10 .lss (.s 9) (.k (.int .i64 0))}]) c_Lj_7) c_Lj_12
def c_Lj_2:VC:=
 .seq (.r 1 [M 5 1,
  M 6 0,
  {op:=.len 7 (.s 6)},
  {op:=.bin 8 .sub (.s 5) (.s 7)},
  M 1 8]) c_Lj_4
def c_Lj_0:VC:=
 .seq (.r 0 [oN 4 0]) c_Lj_2
def vf_Lj:VF:={ pm:=[.ro [.ro [.sc]],.ro [.sc]],rm:=[.v [.sc]],nslots:=12,res:=[4],rc:=[],code:=.kp [0,1] c_Lj_0 }
def c_Lk_7:VC:=
 .ite (.s 11) (.seq (.r 3 [oN 4 (-1)]) (.ret)) (.skip)
def c_Lk_20:VC:=
 .ite (.s 15) (.skip) (.exit 0)
def c_Lk_29:VC:=
 .ite (.s 25) (.seq (.r 9 [oN 4 (-1)]) (.ret)) (.skip)
def c_Lk_27:VC:=
 .seq (.r 8 [M 24 1,
  {op:=.bin 25 .lss (.s 24) (.k (.int .i64 0))}]) c_Lk_29
def c_Lk_34:VC:=
 .r 6 [M 16 5,
  {op:=.bin 17 .add (.s 16) (.k (.int .i64 1))},
  M 5 17]
def c_Lk_23:VC:=
 .seq (.blk 1 (.seq (.r 7 [M 18 0,
  M 19 5,
  oX 20 18 19 1,
  oL 21 20 1,
  M 22 1,
  {op:=.call 23 59 [(.s 21),(.s 22)]},
  M 1 23]) c_Lk_27)) c_Lk_34
def c_Lk_17:VC:=
 .seq (.seq (.r 5 [M 12 5,
  M 13 0,
  {op:=.len 14 (.s 13)},
  {op:=.bin 15 .lss (.s 12) (.s 14)}]) c_Lk_20) c_Lk_23
def c_Lk_15:VC:=
 .blk 0 (.loop [0,1,5] c_Lk_17)
def c_Lk_35:VC:=
 .seq (.r 10 [M 26 1,
  M 4 26]) (.ret)
def c_Lk_12:VC:=
 .seq (.seq (.r 4 [oN 5 0]) c_Lk_15) (.kp [1] c_Lk_35)
def c_Lk_4:VC:=
 .seq (.seq (.r 2 [M 10 1,
  {op:=.bin 11 .lss (.s 10) (.k (.int .i64 0))}]) c_Lk_7) c_Lk_12
def c_Lk_2:VC:=
 .seq (.r 1 [M 6 1,
  M 7 0,
  {op:=.len 8 (.s 7)},
  {op:=.bin 9 .sub (.s 6) (.s 8)},
  M 1 9]) c_Lk_4
def c_Lk_0:VC:=
 .seq (.r 0 [oN 4 0]) c_Lk_2
def vf_Lk:VF:={ pm:=[.ro [.ro [.ro [.sc]]],.ro [.sc]],rm:=[.v [.sc]],nslots:=27,res:=[4],rc:=[],code:=.kp [0,1] c_Lk_0 }
def c_Ll_7:VC:=
 .ite (.s 10) (.seq (.r 3 [oN 4 (-1)]) (.ret)) (.skip)
def c_Ll_12:VC:=
 .seq (.r 4 [M 11 1,
  M 4 11]) (.ret)
def c_Ll_4:VC:=
 .seq (.seq (.r 2 [M 9 1,
  {op:=.bin 10 .lss (.s 9) (.k (.int .i64 0))}]) c_Ll_7) c_Ll_12
def c_Ll_2:VC:=
 .seq (.r 1 [oF 5 2 3,
  oL 6 5 1,
  M 7 1,
  {op:=.call 8 24 [(.s 6),(.s 7)]},
  M 1 8]) c_Ll_4
def c_Ll_0:VC:=
 .seq (.r 0 [{op:=.box 2 (.s 0)},
  oN 4 0]) c_Ll_2
def vf_Ll:VF:={ pm:=[.ro [.sc,.sc,.sc,.ro [.ro [.sc]]],.ro [.sc]],rm:=[.v [.sc]],nslots:=12,res:=[4],rc:=[],code:=.kp [0,1] c_Ll_0 }
def c_Lm_12:VC:=
 .ite (.s 11) (.skip) (.exit 0)
def c_Lm_18:VC:=
 .r 4 [M 12 4,
  {op:=.bin 13 .add (.s 12) (.k (.int .i64 1))},
  M 4 13]
def c_Lm_15:VC:=
 .seq (.blk 1 (.r 5 [M 14 3,
  M 15 4,
  M 16 0,
  M 17 4,
  oX 18 16 17 1,
  oL 19 18 1,
  oX 20 14 15 1,
  oS 20 19 1])) c_Lm_18
def c_Lm_9:VC:=
 .seq (.seq (.r 3 [M 8 4,
  M 9 0,
  {op:=.len 10 (.s 9)},
  {op:=.bin 11 .lss (.s 8) (.s 10)}]) c_Lm_12) c_Lm_15
def c_Lm_7:VC:=
 .blk 0 (.loop [0,3,4] c_Lm_9)
def c_Lm_19:VC:=
 .seq (.r 6 [M 21 3,
  M 2 21]) (.ret)
def c_Lm_4:VC:=
 .seq (.seq (.r 2 [oN 4 0]) c_Lm_7) (.kp [3] c_Lm_19)
def c_Lm_2:VC:=
 .seq (.r 1 [M 5 0,
  {op:=.len 6 (.s 5)},
  {op:=.mk 7 (.s 6) [.sc] [(.int .i64 0)] 17592186044416},
  M 3 7]) c_Lm_4
def c_Lm_0:VC:=
 .seq (.r 0 [{op:=.nil 2 [.sc]}]) c_Lm_2
def vf_Lm:VF:={ pm:=[.ro [.ro [.sc]]],rm:=[.v [.own [.sc]]],nslots:=22,res:=[2],rc:=[],code:=.kp [0] c_Lm_0 }
def c_Ln_12:VC:=
 .ite (.s 11) (.skip) (.exit 0)
def c_Ln_18:VC:=
 .r 4 [M 12 4,
  {op:=.bin 13 .add (.s 12) (.k (.int .i64 1))},
  M 4 13]
def c_Ln_15:VC:=
 .seq (.blk 1 (.r 5 [M 14 3,
  M 15 4,
  M 16 0,
  M 17 4,
  oX 18 16 17 1,
  oL 19 18 1,
  {op:=.call 20 67 [(.s 19)]},
  oX 21 14 15 1,
  oS 21 20 1])) c_Ln_18
def c_Ln_9:VC:=
 .seq (.seq (.r 3 [M 8 4,
  M 9 0,
  {op:=.len 10 (.s 9)},
  {op:=.bin 11 .lss (.s 8) (.s 10)}]) c_Ln_12) c_Ln_15
def c_Ln_7:VC:=
 .blk 0 (.loop [0,3,4] c_Ln_9)
def c_Ln_19:VC:=
 .seq (.r 6 [M 22 3,
  M 2 22]) (.ret)
def c_Ln_4:VC:=
 .seq (.seq (.r 2 [oN 4 0]) c_Ln_7) (.kp [3] c_Ln_19)
def c_Ln_2:VC:=
 .seq (.r 1 [M 5 0,
  {op:=.len 6 (.s 5)},
  {op:=.mk 7 (.s 6) [.own [.sc]] [(.slice none 0 0)] 5864062014805},
  M 3 7]) c_Ln_4
def c_Ln_0:VC:=
 .seq (.r 0 [{op:=.nil 2 [.own [.sc]]}]) c_Ln_2
def vf_Ln:VF:={ pm:=[.ro [.ro [.ro [.sc]]]],rm:=[.v [.own [.own [.sc]]]],nslots:=23,res:=[2],rc:=[],code:=.kp [0] c_Ln_0 }
def c_Lo_12:VC:=
 .seq (.r 6 [{op:=.ld 17 (.s 3) 4 true},
  oS 2 17 4]) (.ret)
def c_Lo_10:VC:=
 .seq (.r 5 [oF 13 1 3,
  oL 14 13 1,
  {op:=.call 15 28 [(.s 14)]},
  oF 16 3 3,
  oS 16 15 1]) c_Lo_12
def c_Lo_8:VC:=
 .seq (.r 4 [oF 10 1 2,
  oL 11 10 1,
  oF 12 3 2,
  oS 12 11 1]) c_Lo_10
def c_Lo_6:VC:=
 .seq (.r 3 [oF 7 1 1,
  oL 8 7 1,
  oF 9 3 1,
  oS 9 8 1]) c_Lo_8
def c_Lo_4:VC:=
 .seq (.r 2 [oF 4 1 0,
  oL 5 4 1,
  oF 6 3 0,
  oS 6 5 1]) c_Lo_6
def c_Lo_2:VC:=
 .seq (.r 1 [{op:=.alloc 3 [.k (.int .i64 0),.k (.int .i64 0),.k (.int .i64 0),.o [.own [.sc]]]}]) c_Lo_4
def c_Lo_0:VC:=
 .seq (.r 0 [{op:=.box 1 (.s 0)},
  {op:=.alloc 2 [.k (.int .i64 0),.k (.int .i64 0),.k (.int .i64 0),.o [.own [.sc]]]}]) c_Lo_2
def vf_Lo:VF:={ pm:=[.ro [.sc,.sc,.sc,.ro [.ro [.sc]]]],rm:=[.v [.sc,.sc,.sc,.own [.own [.sc]]]],nslots:=18,res:=[2],rc:=[some (4,true)],code:=.kp [0] c_Lo_0 }
def c_Sh_5:VC:=
 .ite (.s 34) (.seq (.r 2 [oK 6 false]) (.ret)) (.skip)
def c_Sh_10:VC:=
 .seq (.r 3 [M 35 1,
  {op:=.bin 36 .geq (.s 35) (.k (.int .i64 1))},
  M 37 36,
  ⟨none,[],some (37,true),.mv 38 (.s 1)⟩,
  ⟨none,[],some (37,true),.bin 39 .leq (.s 38) (.k (.int .i64 2))⟩,
  {op:=.pick 40 (.s 37) (.s 39) (.k (.bool false))},
  M 41 40,
  ⟨none,[],some (41,true),.mv 42 (.s 2)⟩,
  ⟨none,[],some (41,true),.bin 43 .leq (.s 42) (.k (.int .i64 4000))⟩,
  {op:=.pick 44 (.s 41) (.s 43) (.k (.bool false))},
  M 6 44]) (.ret)
def c_Sh_2:VC:=
 .seq (.seq (.r 1 [oF 7 3 0,
  oL 8 7 1,
  {op:=.bin 9 .lss (.s 8) (.k (.int .i64 1))},
  M 10 9,
  ⟨none,[],some (10,false),.fadr 11 (.s 3) 0⟩,
  ⟨none,[],some (10,false),.ld 12 (.s 11) 1 false⟩,
  ⟨none,[],some (10,false),.bin 13 .gtr (.s 12) (.k (.int .i64 1000000))⟩,
  {op:=.pick 14 (.s 10) (.k (.bool true)) (.s 13)},
  M 15 14,
  ⟨none,[],some (15,false),.fadr 16 (.s 3) 1⟩,
  ⟨none,[],some (15,false),.ld 17 (.s 16) 1 false⟩,
  ⟨none,[],some (15,false),.bin 18 .lss (.s 17) (.k (.int .i64 2))⟩,
  {op:=.pick 19 (.s 15) (.k (.bool true)) (.s 18)},
  M 20 19,
  ⟨none,[],some (20,false),.fadr 21 (.s 3) 1⟩,
  ⟨none,[],some (20,false),.ld 22 (.s 21) 1 false⟩,
  ⟨none,[],some (20,false),.bin 23 .gtr (.s 22) (.k (.int .i64 24))⟩,
  {op:=.pick 24 (.s 20) (.k (.bool true)) (.s 23)},
  M 25 24,
  ⟨none,[],some (25,false),.fadr 26 (.s 3) 2⟩,
  ⟨none,[],some (25,false),.ld 27 (.s 26) 1 false⟩,
  ⟨none,[],some (25,false),.bin 28 .lss (.s 27) (.k (.int .i64 1))⟩,
  {op:=.pick 29 (.s 25) (.k (.bool true)) (.s 28)},
  M 30 29,
  ⟨none,[],some (30,false),.fadr 31 (.s 3) 2⟩,
  ⟨none,[],some (30,false),.ld 32 (.s 31) 1 false⟩,
  ⟨none,[],some (30,false),.bin 33 .gtr (.s 32) (.k (.int .i64 512))⟩,
  {op:=.pick 34 (.s 30) (.k (.bool true)) (.s 33)}]) c_Sh_5) c_Sh_10
def c_Sh_0:VC:=
 .seq (.r 0 [{op:=.box 3 (.s 0)},
  oK 6 false]) c_Sh_2
def vf_Sh:VF:={ pm:=[.ro [.sc,.sc,.sc,.ro [.ro [.sc]]],.ro [.sc],.ro [.sc]],rm:=[.v [.sc]],nslots:=45,res:=[6],rc:=[],code:=.kp [0,1,2] c_Sh_0 }
def c_Si_21:VC:=
 .ite (.s 26) (.seq (.r 6 [oK 4 false]) (.ret)) (.skip)
def c_Si_19:VC:=
 .seq (.r 5 [M 18 7,
  M 19 5,
  {op:=.un 20 .neg (.s 19)},
  {op:=.bin 21 .lss (.s 18) (.s 20)},
  M 22 21,
  ⟨none,[],some (22,false),.mv 23 (.s 7)⟩,
  ⟨none,[],some (22,false),.mv 24 (.s 5)⟩,
  ⟨none,[],some (22,false),.bin 25 .geq (.s 23) (.s 24)⟩,
  {op:=.pick 26 (.s 22) (.k (.bool true)) (.s 25)}]) c_Si_21
def c_Si_26:VC:=
 .r 7 [{op:=.bin 27 .add (.s 14) (.k (.int .i64 1))},
  M 14 27]
def c_Si_15:VC:=
 .seq (.blk 1 (.seq (.r 4 [oX 16 12 14 1,
  oL 17 16 1,
  M 7 17]) c_Si_19)) c_Si_26
def c_Si_11:VC:=
 .seq (.ite (.s 15) (.skip) (.exit 0)) c_Si_15
def c_Si_9:VC:=
 .seq (.r 3 [{op:=.bin 15 .lss (.s 14) (.s 13)}]) c_Si_11
def c_Si_7:VC:=
 .blk 0 (.loop [5,12,13,14] c_Si_9)
def c_Si_27:VC:=
 .seq (.r 8 [oK 4 true]) (.ret)
def c_Si_4:VC:=
 .seq (.seq (.r 2 [M 12 1,
  {op:=.len 13 (.s 12)},
  oN 14 0]) c_Si_7) (.kp [] c_Si_27)
def c_Si_2:VC:=
 .seq (.r 1 [M 8 0,
  {op:=.bin 9 .sub (.s 8) (.k (.int .i64 1))},
  {op:=.conv 10 .u64 (.s 9)},
  {op:=.bin 11 .shl (.k (.int .i64 1)) (.s 10)},
  M 5 11]) c_Si_4
def c_Si_0:VC:=
 .seq (.r 0 [oK 4 false]) c_Si_2
def vf_Si:VF:={ pm:=[.ro [.sc],.ro [.ro [.sc]]],rm:=[.v [.sc]],nslots:=28,res:=[4],rc:=[],code:=.kp [0,1] c_Si_0 }
def c_Sd_5:VC:=
 .ite (.s 21) (.seq (.r 2 [oK 2 false]) (.ret)) (.skip)
def c_Sd_27:VC:=
 .ite (.s 43) (.seq (.r 7 [oK 2 false]) (.ret)) (.skip)
def c_Sd_25:VC:=
 .seq (.r 6 [M 29 4,
  {op:=.len 30 (.s 29)},
  oF 31 1 3,
  oL 32 31 1,
  {op:=.iadr 33 (.s 32) (.k (.int .i64 0)) 1},
  oL 34 33 1,
  {op:=.len 35 (.s 34)},
  {op:=.bin 36 .neq (.s 30) (.s 35)},
  M 37 36,
  ⟨none,[],some (37,false),.fadr 38 (.s 1) 1⟩,
  ⟨none,[],some (37,false),.ld 39 (.s 38) 1 false⟩,
  ⟨none,[],some (37,false),.mv 40 (.s 4)⟩,
  ⟨none,[],some (37,false),.call 41 60 [(.s 39),(.s 40)]⟩,
  ⟨none,[],some (37,false),.un 42 .not (.s 41)⟩,
  {op:=.pick 43 (.s 37) (.k (.bool true)) (.s 42)}]) c_Sd_27
def c_Sd_32:VC:=
 .r 8 [{op:=.bin 44 .add (.s 25) (.k (.int .i64 1))},
  M 25 44]
def c_Sd_21:VC:=
 .seq (.blk 1 (.seq (.r 5 [oX 27 23 25 1,
  oL 28 27 1,
  M 4 28]) c_Sd_25)) c_Sd_32
def c_Sd_17:VC:=
 .seq (.ite (.s 26) (.skip) (.exit 0)) c_Sd_21
def c_Sd_15:VC:=
 .seq (.r 4 [{op:=.bin 26 .lss (.s 25) (.s 24)}]) c_Sd_17
def c_Sd_13:VC:=
 .blk 0 (.loop [1,23,24,25] c_Sd_15)
def c_Sd_33:VC:=
 .seq (.r 9 [oK 2 true]) (.ret)
def c_Sd_10:VC:=
 .seq (.seq (.r 3 [oF 22 1 3,
  oL 23 22 1,
  {op:=.len 24 (.s 23)},
  oN 25 0]) c_Sd_13) (.kp [] c_Sd_33)
def c_Sd_2:VC:=
 .seq (.seq (.d 1 [(0,oG 5 1 3),
  (1,oV 6 5 1),
  (2,{op:=.len 7 (.s 6)}),
  (3,{op:=.bin 8 .lss (.s 7) (.k (.int .i64 1))}),
  (4,M 9 8),
  (5,⟨none,[],some (9,false),.ldv 10 (.s 1) 4 true⟩),
  (6,⟨none,[],some (9,false),.fadv 11 (.s 1) 3⟩),
  (7,⟨none,[],some (9,false),.ldv 12 (.s 11) 1 false⟩),
  (8,⟨none,[],some (9,false),.len 13 (.s 12)⟩),
  (9,⟨none,[],some (9,false),.fadv 14 (.s 1) 3⟩),
  (10,⟨none,[],some (9,false),.ldv 15 (.s 14) 1 false⟩),
  (11,⟨none,[],some (9,false),.iadr 16 (.s 15) (.k (.int .i64 0)) 1⟩),
  (12,⟨none,[],some (9,false),.ldv 17 (.s 16) 1 false⟩),
  (13,⟨none,[],some (9,false),.len 18 (.s 17)⟩),
  (14,⟨none,[],some (9,false),.call 19 42 [(.s 10),(.s 13),(.s 18)]⟩),
  (15,⟨none,[],some (9,false),.un 20 .not (.s 19)⟩),
  (16,{op:=.pick 21 (.s 9) (.k (.bool true)) (.s 20)})]) c_Sd_5) c_Sd_10
def c_Sd_0:VC:=
 .seq (.r 0 [{op:=.box 1 (.s 0)},
  oK 2 false]) c_Sd_2
def vf_Sd:VF:={ pm:=[.ro [.sc,.sc,.sc,.ro [.ro [.sc]]]],rm:=[.v [.sc]],nslots:=45,res:=[2],rc:=[],code:=.kp [0] c_Sd_0 }
def c_So_3:VC:=
 .ite (.s 10) (.r 1 [M 11 0,
  M 12 0,
  {op:=.nck 13 (.s 12)},
  oF 14 13 1,
  oL 15 14 1,
  {op:=.lits 16 [.sc] [(.k (.int .u8 0))]},
  {op:=.app 17 (.s 15) (.s 16) [.sc] 140737488355328},
  {op:=.nck 18 (.s 11)},
  oF 19 18 1,
  oS 19 17 1]) (.skip)
def c_So_15:VC:=
 .ite (.s 31) (.r 5 [M 32 4,
  {op:=.bin 33 .sub (.k (.int .u64 7)) (.s 32)},
  M 4 33]) (.skip)
def c_So_18:VC:=
 .d 6 [(0,M 34 0),
  (1,{op:=.nckv 35 (.s 34)}),
  (2,oG 36 35 1),
  (3,oV 37 36 1),
  (4,M 38 0),
  (5,{op:=.nckv 39 (.s 38)}),
  (6,oG 40 39 2),
  (7,oV 41 40 1),
  (8,{op:=.bin 42 .quo (.s 41) (.k (.int .i64 8))}),
  (9,oX 43 37 42 1),
  (10,oL 44 43 1),
  (11,M 45 4),
  (12,{op:=.bin 46 .shl (.k (.int .u8 1)) (.s 45)}),
  (13,{op:=.bin 47 .or (.s 44) (.s 46)}),
  (14,oX 48 37 42 1),
  (15,oS 48 47 1)]
def c_So_12:VC:=
 .seq (.seq (.r 4 [M 28 0,
  {op:=.nck 29 (.s 28)},
  oF 30 29 0,
  oL 31 30 1]) c_So_15) (.kp [0,4] c_So_18)
def c_So_9:VC:=
 .ite (.s 21) (.seq (.r 3 [M 22 0,
  {op:=.nck 23 (.s 22)},
  oF 24 23 2,
  oL 25 24 1,
  {op:=.bin 26 .rem (.s 25) (.k (.int .i64 8))},
  {op:=.conv 27 .u64 (.s 26)},
  M 4 27]) c_So_12) (.skip)
def c_So_20:VC:=
 .r 7 [M 49 0,
  {op:=.nck 50 (.s 49)},
  oF 51 50 2,
  oL 52 51 1,
  {op:=.bin 53 .add (.s 52) (.k (.int .i64 1))},
  {op:=.nck 54 (.s 49)},
  oF 55 54 2,
  oS 55 53 1]
def c_So_6:VC:=
 .seq (.seq (.r 2 [M 20 1,
  {op:=.bin 21 .eql (.s 20) (.k (.int .u64 1))}]) c_So_9) c_So_20
def c_So_0:VC:=
 .seq (.seq (.r 0 [M 5 0,
  {op:=.nck 6 (.s 5)},
  oF 7 6 2,
  oL 8 7 1,
  {op:=.bin 9 .rem (.s 8) (.k (.int .i64 8))},
  {op:=.bin 10 .eql (.s 9) (.k (.int .i64 0))}]) c_So_3) (.kp [0,1] c_So_6)
def vf_So:VF:={ pm:=[.mb [.sc,.own [.sc],.sc],.ro [.sc]],rm:=[],nslots:=56,res:=[],rc:=[],code:=.kp [0,1] c_So_0 }
def c_Sr_7:VC:=
 .ite (.s 10) (.skip) (.exit 0)
def c_Sr_17:VC:=
 .ite (.s 18) (.r 5 [M 19 1,
  {op:=.bin 20 .sub (.s 19) (.k (.int .i64 1))},
  M 21 6,
  {op:=.bin 22 .sub (.s 20) (.s 21)},
  {op:=.conv 23 .u64 (.s 22)},
  M 7 23]) (.skip)
def c_Sr_20:VC:=
 .r 6 [M 24 0,
  M 25 2,
  M 26 7,
  {op:=.bin 27 .shr (.s 25) (.s 26)},
  {op:=.bin 28 .and (.s 27) (.k (.int .u64 1))},
  {op:=.call 29 61 [(.s 24),(.s 28)]}]
def c_Sr_14:VC:=
 .seq (.seq (.r 4 [M 15 0,
  {op:=.nck 16 (.s 15)},
  oF 17 16 0,
  oL 18 17 1]) c_Sr_17) (.kp [0,1,2,6,7] c_Sr_20)
def c_Sr_21:VC:=
 .r 2 [M 11 6,
  {op:=.bin 12 .add (.s 11) (.k (.int .i64 1))},
  M 6 12]
def c_Sr_10:VC:=
 .seq (.blk 1 (.seq (.r 3 [M 13 6,
  {op:=.conv 14 .u64 (.s 13)},
  M 7 14]) c_Sr_14)) c_Sr_21
def c_Sr_4:VC:=
 .seq (.seq (.r 1 [M 8 6,
  M 9 1,
  {op:=.bin 10 .lss (.s 8) (.s 9)}]) c_Sr_7) c_Sr_10
def c_Sr_2:VC:=
 .blk 0 (.loop [0,1,2,6] c_Sr_4)
def c_Sr_0:VC:=
 .seq (.r 0 [oN 6 0]) c_Sr_2
def vf_Sr:VF:={ pm:=[.mb [.sc,.own [.sc],.sc],.ro [.sc],.ro [.sc]],rm:=[],nslots:=30,res:=[],rc:=[],code:=.kp [0,1,2] c_Sr_0 }
def c_Sn_28:VC:=
 .ite (.s 37) (.d 9 [(0,M 38 9),
  (1,M 39 10),
  (2,M 40 1),
  (3,M 41 10),
  (4,oX 42 40 41 1),
  (5,oV 43 42 1),
  (6,M 44 2),
  (7,M 45 10),
  (8,oX 46 44 45 1),
  (9,oV 47 46 1),
  (10,{op:=.bin 48 .sub (.s 43) (.s 47)}),
  (11,oX 49 38 39 1),
  (12,oS 49 48 1)]) (.skip)
def c_Sn_33:VC:=
 .ite (.s 51) (.d 11 [(0,M 52 8),
  (1,M 53 10),
  (2,M 54 1),
  (3,M 55 10),
  (4,oX 56 54 55 1),
  (5,oV 57 56 1),
  (6,M 58 2),
  (7,M 59 10),
  (8,oX 60 58 59 1),
  (9,oV 61 60 1),
  (10,{op:=.bin 62 .add (.s 57) (.s 61)}),
  (11,{op:=.bin 63 .shr (.s 62) (.k (.int .u64 1))}),
  (12,oX 64 52 53 1),
  (13,oS 64 63 1)]) (.skip)
def c_Sn_31:VC:=
 .seq (.r 10 [M 50 0,
  {op:=.bin 51 .eql (.s 50) (.k (.int .i64 2))}]) c_Sn_33
def c_Sn_25:VC:=
 .seq (.seq (.r 8 [M 36 0,
  {op:=.bin 37 .gtr (.s 36) (.k (.int .i64 0))}]) c_Sn_28) (.kp [0,1,2,8,9,10,18,19] c_Sn_31)
def c_Sn_23:VC:=
 .seq (.r 7 [M 29 9,
  M 30 10,
  M 31 2,
  M 32 10,
  oX 33 31 32 1,
  oL 34 33 1,
  oX 35 29 30 1,
  oS 35 34 1]) c_Sn_25
def c_Sn_21:VC:=
 .seq (.r 6 [M 22 8,
  M 23 10,
  M 24 1,
  M 25 10,
  oX 26 24 25 1,
  oL 27 26 1,
  oX 28 22 23 1,
  oS 28 27 1]) c_Sn_23
def c_Sn_36:VC:=
 .r 12 [{op:=.bin 65 .add (.s 19) (.k (.int .i64 1))},
  M 19 65]
def c_Sn_17:VC:=
 .seq (.blk 1 (.seq (.r 5 [M 21 19,
  M 10 21]) c_Sn_21)) c_Sn_36
def c_Sn_13:VC:=
 .seq (.ite (.s 20) (.skip) (.exit 0)) c_Sn_17
def c_Sn_11:VC:=
 .seq (.r 4 [{op:=.bin 20 .lss (.s 19) (.s 18)}]) c_Sn_13
def c_Sn_9:VC:=
 .blk 0 (.loop [0,1,2,8,9,18,19] c_Sn_11)
def c_Sn_37:VC:=
 .seq (.r 13 [M 66 8,
  M 67 9,
  M 6 66,
  M 7 67]) (.ret)
def c_Sn_6:VC:=
 .seq (.seq (.r 3 [M 17 1,
  {op:=.len 18 (.s 17)},
  oN 19 0]) c_Sn_9) (.kp [8,9] c_Sn_37)
def c_Sn_4:VC:=
 .seq (.r 2 [M 14 1,
  {op:=.len 15 (.s 14)},
  {op:=.mk 16 (.s 15) [.sc] [(.int .i64 0)] 17592186044416},
  M 9 16]) c_Sn_6
def c_Sn_2:VC:=
 .seq (.r 1 [M 11 1,
  {op:=.len 12 (.s 11)},
  {op:=.mk 13 (.s 12) [.sc] [(.int .i64 0)] 17592186044416},
  M 8 13]) c_Sn_4
def c_Sn_0:VC:=
 .seq (.r 0 [{op:=.nil 6 [.sc]},
  {op:=.nil 7 [.sc]}]) c_Sn_2
def vf_Sn:VF:={ pm:=[.ro [.sc],.ro [.ro [.sc]],.ro [.ro [.sc]]],rm:=[.v [.own [.sc]],.v [.own [.sc]]],nslots:=68,res:=[6,7],rc:=[],code:=.kp [0,1,2] c_Sn_0 }
def c_Sl_5:VC:=
 .ite (.s 25) (.seq (.r 2 [oK 6 false]) (.ret)) (.skip)
def c_Sl_10:VC:=
 .seq (.r 3 [M 26 2,
  M 27 1,
  {op:=.conv 28 .u64 (.s 27)},
  {op:=.bin 29 .shl (.k (.int .i64 1)) (.s 28)},
  {op:=.bin 30 .rem (.s 26) (.s 29)},
  {op:=.bin 31 .eql (.s 30) (.k (.int .i64 0))},
  M 32 31,
  ⟨none,[],some (32,true),.mv 33 (.s 2)⟩,
  ⟨none,[],some (32,true),.mv 34 (.s 1)⟩,
  ⟨none,[],some (32,true),.conv 35 .u64 (.s 34)⟩,
  ⟨none,[],some (32,true),.bin 36 .shr (.s 33) (.s 35)⟩,
  ⟨none,[],some (32,true),.mv 37 (.s 0)⟩,
  ⟨none,[],some (32,true),.bin 38 .geq (.s 36) (.s 37)⟩,
  {op:=.pick 39 (.s 32) (.s 38) (.k (.bool false))},
  M 6 39]) (.ret)
def c_Sl_2:VC:=
 .seq (.seq (.r 1 [M 7 0,
  {op:=.bin 8 .lss (.s 7) (.k (.int .i64 0))},
  M 9 8,
  ⟨none,[],some (9,false),.mv 10 (.s 0)⟩,
  ⟨none,[],some (9,false),.bin 11 .gtr (.s 10) (.k (.int .i64 4))⟩,
  {op:=.pick 12 (.s 9) (.k (.bool true)) (.s 11)},
  M 13 12,
  ⟨none,[],some (13,false),.mv 14 (.s 0)⟩,
  ⟨none,[],some (13,false),.mv 15 (.s 2)⟩,
  ⟨none,[],some (13,false),.bin 16 .gtr (.s 14) (.s 15)⟩,
  {op:=.pick 17 (.s 13) (.k (.bool true)) (.s 16)},
  M 18 17,
  ⟨none,[],some (18,false),.mv 19 (.s 1)⟩,
  ⟨none,[],some (18,false),.bin 20 .lss (.s 19) (.k (.int .i64 0))⟩,
  {op:=.pick 21 (.s 18) (.k (.bool true)) (.s 20)},
  M 22 21,
  ⟨none,[],some (22,false),.mv 23 (.s 1)⟩,
  ⟨none,[],some (22,false),.bin 24 .gtr (.s 23) (.k (.int .i64 4))⟩,
  {op:=.pick 25 (.s 22) (.k (.bool true)) (.s 24)}]) c_Sl_5) c_Sl_10
def c_Sl_0:VC:=
 .seq (.r 0 [oK 6 false]) c_Sl_2
def vf_Sl:VF:={ pm:=[.ro [.sc],.ro [.sc],.ro [.sc]],rm:=[.v [.sc]],nslots:=40,res:=[6],rc:=[],code:=.kp [0,1,2] c_Sl_0 }
def c_Sg_26:VC:=
 .ite (.s 50) (.seq (.d 9 [(0,M 52 1),
  (1,M 53 2),
  (2,{op:=.bin 54 .sub (.s 53) (.k (.int .i64 1))}),
  (3,oX 55 52 54 1),
  (4,oV 56 55 1),
  (5,{op:=.bin 57 .mul (.k (.int .i64 4)) (.s 56)}),
  (6,M 58 1),
  (7,M 59 2),
  (8,{op:=.bin 60 .sub (.s 59) (.k (.int .i64 2))}),
  (9,oX 61 58 60 1),
  (10,oV 62 61 1),
  (11,{op:=.bin 63 .mul (.k (.int .i64 6)) (.s 62)}),
  (12,{op:=.bin 64 .sub (.s 57) (.s 63)}),
  (13,M 65 1),
  (14,M 66 2),
  (15,{op:=.bin 67 .sub (.s 66) (.k (.int .i64 3))}),
  (16,oX 68 65 67 1),
  (17,oV 69 68 1),
  (18,{op:=.bin 70 .mul (.k (.int .i64 4)) (.s 69)}),
  (19,{op:=.bin 71 .add (.s 64) (.s 70)}),
  (20,M 72 1),
  (21,M 73 2),
  (22,{op:=.bin 74 .sub (.s 73) (.k (.int .i64 4))}),
  (23,oX 75 72 74 1),
  (24,oV 76 75 1),
  (25,{op:=.bin 77 .sub (.s 71) (.s 76)}),
  (26,M 6 77)]) (.ret)) (.skip)
def c_Sg_20:VC:=
 .ite (.s 29) (.seq (.d 7 [(0,M 31 1),
  (1,M 32 2),
  (2,{op:=.bin 33 .sub (.s 32) (.k (.int .i64 1))}),
  (3,oX 34 31 33 1),
  (4,oV 35 34 1),
  (5,{op:=.bin 36 .mul (.k (.int .i64 3)) (.s 35)}),
  (6,M 37 1),
  (7,M 38 2),
  (8,{op:=.bin 39 .sub (.s 38) (.k (.int .i64 2))}),
  (9,oX 40 37 39 1),
  (10,oV 41 40 1),
  (11,{op:=.bin 42 .mul (.k (.int .i64 3)) (.s 41)}),
  (12,{op:=.bin 43 .sub (.s 36) (.s 42)}),
  (13,M 44 1),
  (14,M 45 2),
  (15,{op:=.bin 46 .sub (.s 45) (.k (.int .i64 3))}),
  (16,oX 47 44 46 1),
  (17,oV 48 47 1),
  (18,{op:=.bin 49 .add (.s 43) (.s 48)}),
  (19,M 6 49)]) (.ret)) (.seq (.r 8 [{op:=.bin 51 .eql (.s 7) (.k (.int .i64 4))},
  M 50 51]) c_Sg_26)
def c_Sg_14:VC:=
 .ite (.s 15) (.seq (.d 5 [(0,M 17 1),
  (1,M 18 2),
  (2,{op:=.bin 19 .sub (.s 18) (.k (.int .i64 1))}),
  (3,oX 20 17 19 1),
  (4,oV 21 20 1),
  (5,{op:=.bin 22 .mul (.k (.int .i64 2)) (.s 21)}),
  (6,M 23 1),
  (7,M 24 2),
  (8,{op:=.bin 25 .sub (.s 24) (.k (.int .i64 2))}),
  (9,oX 26 23 25 1),
  (10,oV 27 26 1),
  (11,{op:=.bin 28 .sub (.s 22) (.s 27)}),
  (12,M 6 28)]) (.ret)) (.seq (.r 6 [{op:=.bin 30 .eql (.s 7) (.k (.int .i64 3))},
  M 29 30]) c_Sg_20)
def c_Sg_8:VC:=
 .ite (.s 8) (.seq (.r 3 [M 10 1,
  M 11 2,
  {op:=.bin 12 .sub (.s 11) (.k (.int .i64 1))},
  oX 13 10 12 1,
  oL 14 13 1,
  M 6 14]) (.ret)) (.seq (.r 4 [{op:=.bin 16 .eql (.s 7) (.k (.int .i64 2))},
  M 15 16]) c_Sg_14)
def c_Sg_5:VC:=
 .blk 0 (.seq (.r 2 [{op:=.bin 9 .eql (.s 7) (.k (.int .i64 1))},
  M 8 9]) c_Sg_8)
def c_Sg_31:VC:=
 .seq (.r 10 [oN 6 0]) (.ret)
def c_Sg_2:VC:=
 .seq (.seq (.r 1 [M 7 0]) c_Sg_5) c_Sg_31
def c_Sg_0:VC:=
 .seq (.r 0 [oN 6 0]) c_Sg_2
def vf_Sg:VF:={ pm:=[.ro [.sc],.ro [.ro [.sc]],.ro [.sc]],rm:=[.v [.sc]],nslots:=78,res:=[6],rc:=[],code:=.kp [0,1,2] c_Sg_0 }
def c_Sm_23:VC:=
 .ite (.s 24) (.d 7 [(0,M 25 5),
  (1,M 26 6),
  (2,oX 27 25 26 1),
  (3,oL 28 27 1),
  (4,M 29 0),
  (5,M 30 1),
  (6,M 31 6),
  (7,{op:=.call 32 95 [(.s 29),(.s 30),(.s 31)]}),
  (8,{op:=.bin 33 .sub (.s 28) (.s 32)}),
  (9,oX 34 25 26 1),
  (10,oS 34 33 1)]) (.skip)
def c_Sm_21:VC:=
 .seq (.r 6 [M 22 6,
  M 23 0,
  {op:=.bin 24 .geq (.s 22) (.s 23)}]) c_Sm_23
def c_Sm_19:VC:=
 .seq (.r 5 [M 15 5,
  M 16 6,
  M 17 1,
  M 18 6,
  oX 19 17 18 1,
  oL 20 19 1,
  oX 21 15 16 1,
  oS 21 20 1]) c_Sm_21
def c_Sm_26:VC:=
 .r 8 [{op:=.bin 35 .add (.s 12) (.k (.int .i64 1))},
  M 12 35]
def c_Sm_15:VC:=
 .seq (.blk 1 (.seq (.r 4 [M 14 12,
  M 6 14]) c_Sm_19)) c_Sm_26
def c_Sm_11:VC:=
 .seq (.ite (.s 13) (.skip) (.exit 0)) c_Sm_15
def c_Sm_9:VC:=
 .seq (.r 3 [{op:=.bin 13 .lss (.s 12) (.s 11)}]) c_Sm_11
def c_Sm_7:VC:=
 .blk 0 (.loop [0,1,5,11,12] c_Sm_9)
def c_Sm_27:VC:=
 .seq (.r 9 [M 36 5,
  M 4 36]) (.ret)
def c_Sm_4:VC:=
 .seq (.seq (.r 2 [M 10 1,
  {op:=.len 11 (.s 10)},
  oN 12 0]) c_Sm_7) (.kp [5] c_Sm_27)
def c_Sm_2:VC:=
 .seq (.r 1 [M 7 1,
  {op:=.len 8 (.s 7)},
  {op:=.mk 9 (.s 8) [.sc] [(.int .i64 0)] 17592186044416},
  M 5 9]) c_Sm_4
def c_Sm_0:VC:=
 .seq (.r 0 [{op:=.nil 4 [.sc]}]) c_Sm_2
def vf_Sm:VF:={ pm:=[.ro [.sc],.ro [.ro [.sc]]],rm:=[.v [.own [.sc]]],nslots:=37,res:=[4],rc:=[],code:=.kp [0,1] c_Sm_0 }
def c_Sk_7:VC:=
 .ite (.s 16) (.seq (.r 3 [M 17 0,
  M 18 1,
  M 19 9,
  {op:=.slc 20 (.s 17) (some (.s 18)) (some (.s 19)) 1},
  M 8 20]) (.ret)) (.skip)
def c_Sk_12:VC:=
 .seq (.r 4 [M 21 0,
  M 22 9,
  M 23 3,
  {op:=.bin 24 .mul (.s 22) (.s 23)},
  M 25 9,
  M 26 3,
  {op:=.bin 27 .mul (.s 25) (.s 26)},
  M 28 9,
  {op:=.bin 29 .add (.s 27) (.s 28)},
  {op:=.slc 30 (.s 21) (some (.s 24)) (some (.s 29)) 1},
  M 8 30]) (.ret)
def c_Sk_4:VC:=
 .seq (.seq (.r 2 [M 15 3,
  {op:=.bin 16 .eql (.s 15) (.k (.int .i64 0))}]) c_Sk_7) c_Sk_12
def c_Sk_2:VC:=
 .seq (.r 1 [M 10 0,
  {op:=.len 11 (.s 10)},
  M 12 2,
  {op:=.conv 13 .u64 (.s 12)},
  {op:=.bin 14 .shr (.s 11) (.s 13)},
  M 9 14]) c_Sk_4
def c_Sk_0:VC:=
 .seq (.r 0 [{op:=.nil 8 [.sc]}]) c_Sk_2
def vf_Sk:VF:={ pm:=[.ro [.ro [.sc]],.ro [.sc],.ro [.sc],.ro [.sc]],rm:=[.v [.ro [.sc]]],nslots:=31,res:=[8],rc:=[],code:=.kp [0,1,2,3] c_Sk_0 }
def c_Sc_5:VC:=
 .ite (.s 4) (.seq (.r 2 [M 5 0,
  {op:=.bin 6 .add (.s 5) (.k (.int .i64 1))},
  {op:=.un 7 .neg (.s 6)},
  {op:=.conv 8 .u64 (.s 7)},
  {op:=.bin 9 .mul (.k (.int .u64 2)) (.s 8)},
  {op:=.bin 10 .add (.s 9) (.k (.int .u64 1))},
  M 2 10]) (.ret)) (.skip)
def c_Sc_10:VC:=
 .seq (.r 3 [M 11 0,
  {op:=.conv 12 .u64 (.s 11)},
  {op:=.bin 13 .mul (.k (.int .u64 2)) (.s 12)},
  M 2 13]) (.ret)
def c_Sc_2:VC:=
 .seq (.seq (.r 1 [M 3 0,
  {op:=.bin 4 .lss (.s 3) (.k (.int .i64 0))}]) c_Sc_5) c_Sc_10
def c_Sc_0:VC:=
 .seq (.r 0 [{op:=.mv 2 (.k (.int .u64 0))}]) c_Sc_2
def vf_Sc:VF:={ pm:=[.ro [.sc]],rm:=[.v [.sc]],nslots:=14,res:=[2],rc:=[],code:=.kp [0] c_Sc_0 }
def c_Sj_21:VC:=
 .ite (.s 15) (.r 6 [M 16 5,
  {op:=.bin 17 .add (.s 16) (.k (.int .i64 32))},
  M 5 17]) (.r 7 [M 18 5,
  M 19 7,
  {op:=.call 20 99 [(.s 19)]},
  M 21 0,
  {op:=.conv 22 .u64 (.s 21)},
  {op:=.bin 23 .shr (.s 20) (.s 22)},
  {op:=.conv 24 .i64 (.s 23)},
  {op:=.bin 25 .add (.s 24) (.k (.int .i64 1))},
  M 26 0,
  {op:=.bin 27 .add (.s 25) (.s 26)},
  {op:=.bin 28 .add (.s 18) (.s 27)},
  M 5 28])
def c_Sj_19:VC:=
 .seq (.r 5 [M 14 0,
  {op:=.bin 15 .eql (.s 14) (.k (.int .i64 25))}]) c_Sj_21
def c_Sj_24:VC:=
 .r 8 [{op:=.bin 29 .add (.s 10) (.k (.int .i64 1))},
  M 10 29]
def c_Sj_15:VC:=
 .seq (.blk 1 (.seq (.r 4 [oX 12 8 10 1,
  oL 13 12 1,
  M 7 13]) c_Sj_19)) c_Sj_24
def c_Sj_11:VC:=
 .seq (.ite (.s 11) (.skip) (.exit 0)) c_Sj_15
def c_Sj_9:VC:=
 .seq (.r 3 [{op:=.bin 11 .lss (.s 10) (.s 9)}]) c_Sj_11
def c_Sj_7:VC:=
 .blk 0 (.loop [0,5,8,9,10] c_Sj_9)
def c_Sj_25:VC:=
 .seq (.r 9 [M 30 5,
  M 4 30]) (.ret)
def c_Sj_4:VC:=
 .seq (.seq (.r 2 [M 8 1,
  {op:=.len 9 (.s 8)},
  oN 10 0]) c_Sj_7) (.kp [5] c_Sj_25)
def c_Sj_2:VC:=
 .seq (.r 1 [oN 5 5]) c_Sj_4
def c_Sj_0:VC:=
 .seq (.r 0 [oN 4 0]) c_Sj_2
def vf_Sj:VF:={ pm:=[.ro [.sc],.ro [.ro [.sc]]],rm:=[.v [.sc]],nslots:=31,res:=[4],rc:=[],code:=.kp [0,1] c_Sj_0 }
def c_Se_14:VC:=
 .ite (.s 19) (.skip) (.exit 0)
def c_Se_26:VC:=
 .ite (.s 23) (.skip) (.exit 2)
def c_Se_34:VC:=
 .ite (.s 31) (.exit 3) (.skip)
def c_Se_51:VC:=
 .ite (.s 45) (.skip) (.exit 4)
def c_Se_70:VC:=
 .ite (.s 56) (.skip) (.exit 6)
def c_Se_82:VC:=
 .r 25 [M 66 15,
  M 13 66]
def c_Se_79:VC:=
 .ite (.s 64) (.seq (.r 24 [M 65 16,
  M 14 65]) c_Se_82) (.skip)
def c_Se_77:VC:=
 .seq (.r 23 [M 62 16,
  M 63 14,
  {op:=.bin 64 .lss (.s 62) (.s 63)}]) c_Se_79
def c_Se_84:VC:=
 .r 21 [M 57 15,
  {op:=.bin 58 .add (.s 57) (.k (.int .i64 1))},
  M 15 58]
def c_Se_73:VC:=
 .seq (.blk 7 (.seq (.r 22 [M 59 15,
  M 60 12,
  {op:=.call 61 90 [(.s 59),(.s 60)]},
  M 16 61]) c_Se_77)) c_Se_84
def c_Se_67:VC:=
 .seq (.seq (.r 20 [M 55 15,
  {op:=.bin 56 .leq (.s 55) (.k (.int .i64 25))}]) c_Se_70) c_Se_73
def c_Se_65:VC:=
 .blk 6 (.loop [0,2,4,5,6,7,8,9,10,11,12,13,14,15] c_Se_67)
def c_Se_87:VC:=
 .r 27 [oF 70 9 2,
  oL 71 70 1,
  M 72 13,
  {op:=.lits 73 [.sc] [(.s 72)]},
  {op:=.app 74 (.s 71) (.s 73) [.sc] 17592186044416},
  oF 75 9 2,
  oS 75 74 1]
def c_Se_85:VC:=
 .seq (.r 26 [M 67 10,
  M 68 14,
  {op:=.bin 69 .add (.s 67) (.s 68)},
  M 10 69]) c_Se_87
def c_Se_62:VC:=
 .seq (.seq (.r 19 [oN 15 1]) c_Se_65) (.kp [0,2,4,5,6,7,8,9,10,11,13,14] c_Se_85)
def c_Se_60:VC:=
 .seq (.r 18 [M 53 12,
  {op:=.call 54 90 [(.k (.int .i64 0)),(.s 53)]},
  M 14 54]) c_Se_62
def c_Se_58:VC:=
 .seq (.r 17 [oN 13 0]) c_Se_60
def c_Se_88:VC:=
 .r 15 [M 46 11,
  {op:=.bin 47 .add (.s 46) (.k (.int .i64 1))},
  M 11 47]
def c_Se_54:VC:=
 .seq (.blk 5 (.seq (.r 16 [M 48 8,
  M 49 6,
  M 50 7,
  M 51 11,
  ⟨none,[.fz 8 0],none,.call 52 89 [(.s 48),(.s 49),(.s 50),(.s 51)]⟩,
  M 12 52]) c_Se_58)) c_Se_88
def c_Se_48:VC:=
 .seq (.seq (.r 14 [M 41 11,
  M 42 7,
  {op:=.conv 43 .u64 (.s 42)},
  {op:=.bin 44 .shl (.k (.int .i64 1)) (.s 43)},
  {op:=.bin 45 .lss (.s 41) (.s 44)}]) c_Se_51) c_Se_54
def c_Se_46:VC:=
 .blk 4 (.pre [.fz 8 0] (.loop [0,2,4,5,6,7,8,9,10,11] c_Se_48))
def c_Se_94:VC:=
 .r 30 [{op:=.ld 84 (.s 9) 3 true},
  oS 4 84 3]
def c_Se_91:VC:=
 .ite (.s 82) (.seq (.r 29 [M 83 10,
  M 5 83]) c_Se_94) (.skip)
def c_Se_89:VC:=
 .seq (.r 28 [M 76 5,
  {op:=.bin 77 .lss (.s 76) (.k (.int .i64 0))},
  M 78 77,
  ⟨none,[],some (78,false),.mv 79 (.s 10)⟩,
  ⟨none,[],some (78,false),.mv 80 (.s 5)⟩,
  ⟨none,[],some (78,false),.bin 81 .lss (.s 79) (.s 80)⟩,
  {op:=.pick 82 (.s 78) (.k (.bool true)) (.s 81)}]) (.kp [0,2,4,5,6,7,9,10,82] c_Se_91)
def c_Se_43:VC:=
 .seq (.seq (.r 13 [oN 11 0]) c_Se_46) (.kp [0,2,4,5,6,7,9,10] c_Se_89)
def c_Se_41:VC:=
 .seq (.r 12 [M 38 6,
  {op:=.bin 39 .mul (.k (.int .i64 26)) (.s 38)},
  {op:=.bin 40 .add (.k (.int .i64 6)) (.s 39)},
  M 10 40]) c_Se_43
def c_Se_39:VC:=
 .seq (.r 11 [M 35 6,
  M 36 7,
  {op:=.bld 37 [.k (.int .i64 0),.k (.int .i64 0),.o [.sc]] [(0,1,(.s 35)),(1,1,(.s 36))]},
  {op:=.alloc 9 [.k (.int .i64 0),.k (.int .i64 0),.o [.sc]]},
  oS 9 37 3]) c_Se_41
def c_Se_37:VC:=
 .seq (.r 10 [M 32 6,
  M 33 0,
  {op:=.call 34 88 [(.s 32),(.s 33)]},
  M 8 34]) c_Se_39
def c_Se_96:VC:=
 .r 8 [M 24 7,
  {op:=.bin 25 .add (.s 24) (.k (.int .i64 1))},
  M 7 25]
def c_Se_29:VC:=
 .seq (.blk 3 (.seq (.seq (.r 9 [M 26 6,
  M 27 7,
  M 28 0,
  {op:=.len 29 (.s 28)},
  {op:=.call 30 87 [(.s 26),(.s 27),(.s 29)]},
  {op:=.un 31 .not (.s 30)}]) c_Se_34) c_Se_37)) c_Se_96
def c_Se_23:VC:=
 .seq (.seq (.r 7 [M 22 7,
  {op:=.bin 23 .leq (.s 22) (.k (.int .i64 4))}]) c_Se_26) c_Se_29
def c_Se_21:VC:=
 .blk 2 (.loop [0,2,4,5,6,7] c_Se_23)
def c_Se_97:VC:=
 .r 5 [M 20 6,
  {op:=.bin 21 .add (.s 20) (.k (.int .i64 1))},
  M 6 21]
def c_Se_17:VC:=
 .seq (.blk 1 (.seq (.r 6 [oN 7 0]) c_Se_21)) (.kp [0,2,4,5,6] c_Se_97)
def c_Se_11:VC:=
 .seq (.seq (.r 4 [M 18 6,
  {op:=.bin 19 .leq (.s 18) (.k (.int .i64 4))}]) c_Se_14) c_Se_17
def c_Se_9:VC:=
 .blk 0 (.loop [0,2,4,5,6] c_Se_11)
def c_Se_98:VC:=
 .seq (.r 31 [{op:=.ld 85 (.s 4) 3 true},
  M 86 5,
  oS 2 85 3,
  M 3 86]) (.ret)
def c_Se_6:VC:=
 .seq (.seq (.r 3 [oN 6 0]) c_Se_9) (.kp [2,4,5] c_Se_98)
def c_Se_4:VC:=
 .seq (.r 2 [oN 5 (-1)]) c_Se_6
def c_Se_2:VC:=
 .seq (.r 1 [{op:=.bld 17 [.k (.int .i64 0),.k (.int .i64 0),.o [.sc]] []},
  {op:=.alloc 4 [.k (.int .i64 0),.k (.int .i64 0),.o [.sc]]},
  oS 4 17 3]) c_Se_4
def c_Se_0:VC:=
 .seq (.r 0 [{op:=.alloc 2 [.k (.int .i64 0),.k (.int .i64 0),.o [.sc]]},
  oN 3 0]) c_Se_2
def vf_Se:VF:={ pm:=[.ro [.ro [.sc]]],rm:=[.v [.sc,.sc,.own [.sc]],.v [.sc]],nslots:=87,res:=[2,3],rc:=[some (3,true),none],code:=.kp [0] c_Se_0 }
def c_Ss_3:VC:=
 .ite (.s 9) (.seq (.r 1 [M 10 0,
  M 11 2,
  {op:=.conv 12 .u64 (.s 11)},
  {op:=.call 13 26 [(.s 10),(.k (.int .i64 32)),(.s 12)]}]) (.ret)) (.skip)
def c_Ss_18:VC:=
 .ite (.s 21) (.skip) (.exit 0)
def c_Ss_24:VC:=
 .r 5 [M 22 7,
  {op:=.bin 23 .sub (.s 22) (.k (.int .u64 1))},
  M 7 23]
def c_Ss_21:VC:=
 .seq (.blk 1 (.r 6 [M 24 0,
  {op:=.call 25 61 [(.s 24),(.k (.int .u64 0))]}])) c_Ss_24
def c_Ss_15:VC:=
 .seq (.seq (.r 4 [M 20 7,
  {op:=.bin 21 .gtr (.s 20) (.k (.int .u64 0))}]) c_Ss_18) c_Ss_21
def c_Ss_13:VC:=
 .blk 0 (.loop [0,1,6,7] c_Ss_15)
def c_Ss_27:VC:=
 .r 8 [M 28 0,
  M 29 1,
  M 30 6,
  {op:=.call 31 26 [(.s 28),(.s 29),(.s 30)]}]
def c_Ss_25:VC:=
 .seq (.r 7 [M 26 0,
  {op:=.call 27 61 [(.s 26),(.k (.int .u64 1))]}]) c_Ss_27
def c_Ss_10:VC:=
 .seq (.seq (.r 3 [M 16 6,
  M 17 1,
  {op:=.conv 18 .u64 (.s 17)},
  {op:=.bin 19 .shr (.s 16) (.s 18)},
  M 7 19]) c_Ss_13) (.kp [0,1,6] c_Ss_25)
def c_Ss_8:VC:=
 .seq (.r 2 [M 14 2,
  {op:=.call 15 99 [(.s 14)]},
  M 6 15]) c_Ss_10
def c_Ss_0:VC:=
 .seq (.seq (.r 0 [M 8 1,
  {op:=.bin 9 .eql (.s 8) (.k (.int .i64 25))}]) c_Ss_3) c_Ss_8
def vf_Ss:VF:={ pm:=[.mb [.sc,.own [.sc],.sc],.ro [.sc],.ro [.sc]],rm:=[],nslots:=32,res:=[],rc:=[],code:=.kp [0,1,2] c_Ss_0 }
def c_Sq_14:VC:=
 .ite (.s 29) (.skip) (.exit 0)
def c_Sq_20:VC:=
 .r 5 [M 30 7,
  {op:=.bin 31 .add (.s 30) (.k (.int .i64 1))},
  M 7 31]
def c_Sq_17:VC:=
 .seq (.blk 1 (.r 6 [M 32 0,
  M 33 1,
  M 34 7,
  oX 35 33 34 1,
  oL 36 35 1,
  {op:=.conv 37 .u64 (.s 36)},
  {op:=.call 38 26 [(.s 32),(.k (.int .i64 26)),(.s 37)]}])) c_Sq_20
def c_Sq_11:VC:=
 .seq (.seq (.r 4 [M 26 7,
  oF 27 4 0,
  oL 28 27 1,
  {op:=.bin 29 .lss (.s 26) (.s 28)}]) c_Sq_14) c_Sq_17
def c_Sq_9:VC:=
 .blk 0 (.loop [0,1,4,6,7] c_Sq_11)
def c_Sq_53:VC:=
 .r 15 [M 68 0,
  M 69 9,
  M 70 11,
  {op:=.call 71 91 [(.s 68),(.s 69),(.s 70)]}]
def c_Sq_54:VC:=
 .r 16 [{op:=.bin 72 .add (.s 64) (.k (.int .i64 1))},
  M 64 72]
def c_Sq_49:VC:=
 .seq (.blk 5 (.seq (.r 14 [oX 66 62 64 1,
  oL 67 66 1,
  M 11 67]) c_Sq_53)) c_Sq_54
def c_Sq_45:VC:=
 .seq (.ite (.s 65) (.skip) (.exit 4)) c_Sq_49
def c_Sq_43:VC:=
 .seq (.r 13 [{op:=.bin 65 .lss (.s 64) (.s 63)}]) c_Sq_45
def c_Sq_41:VC:=
 .blk 4 (.loop [0,4,6,9,45,46,47,62,63,64] c_Sq_43)
def c_Sq_39:VC:=
 .seq (.r 12 [M 56 6,
  oF 57 4 0,
  oL 58 57 1,
  oF 59 4 1,
  oL 60 59 1,
  M 61 8,
  ⟨none,[.fz 6 0],none,.call 62 89 [(.s 56),(.s 58),(.s 60),(.s 61)]⟩,
  {op:=.len 63 (.s 62)},
  oN 64 0]) c_Sq_41
def c_Sq_37:VC:=
 .seq (.r 11 [M 52 0,
  M 53 9,
  {op:=.conv 54 .u64 (.s 53)},
  {op:=.call 55 26 [(.s 52),(.k (.int .i64 5)),(.s 54)]}]) c_Sq_39
def c_Sq_55:VC:=
 .r 17 [{op:=.bin 73 .add (.s 47) (.k (.int .i64 1))},
  M 47 73]
def c_Sq_33:VC:=
 .seq (.blk 3 (.seq (.r 10 [M 49 47,
  oX 50 45 47 1,
  oL 51 50 1,
  M 8 49,
  M 9 51]) c_Sq_37)) (.kp [0,4,6,45,46,47] c_Sq_55)
def c_Sq_29:VC:=
 .seq (.ite (.s 48) (.skip) (.exit 2)) c_Sq_33
def c_Sq_27:VC:=
 .seq (.r 9 [{op:=.bin 48 .lss (.s 47) (.s 46)}]) c_Sq_29
def c_Sq_25:VC:=
 .blk 2 (.pre [.fz 6 0] (.loop [0,4,6,45,46,47] c_Sq_27))
def c_Sq_23:VC:=
 .seq (.r 8 [oF 44 4 2,
  oL 45 44 1,
  {op:=.len 46 (.s 45)},
  oN 47 0]) c_Sq_25
def c_Sq_21:VC:=
 .seq (.r 7 [M 39 0,
  oF 40 4 1,
  oL 41 40 1,
  {op:=.conv 42 .u64 (.s 41)},
  {op:=.call 43 26 [(.s 39),(.k (.int .i64 3)),(.s 42)]}]) c_Sq_23
def c_Sq_6:VC:=
 .seq (.seq (.r 3 [oN 7 0]) c_Sq_9) (.kp [0,4,6] c_Sq_21)
def c_Sq_4:VC:=
 .seq (.r 2 [M 21 0,
  oF 22 4 0,
  oL 23 22 1,
  {op:=.conv 24 .u64 (.s 23)},
  {op:=.call 25 26 [(.s 21),(.k (.int .i64 3)),(.s 24)]}]) c_Sq_6
def c_Sq_2:VC:=
 .seq (.r 1 [oF 17 4 0,
  oL 18 17 1,
  M 19 1,
  {op:=.call 20 88 [(.s 18),(.s 19)]},
  M 6 20]) c_Sq_4
def c_Sq_0:VC:=
 .seq (.r 0 [M 13 1,
  {op:=.call 14 63 [(.s 13)]},
  M 12 14,
  {op:=.ext 15 (.s 12) 0},
  {op:=.ext 16 (.s 12) 1},
  {op:=.alloc 4 [.k (.int .i64 0),.k (.int .i64 0),.o [.sc]]},
  oS 4 15 3,
  M 5 16]) c_Sq_2
def vf_Sq:VF:={ pm:=[.mb [.sc,.own [.sc],.sc],.ro [.ro [.sc]]],rm:=[],nslots:=74,res:=[],rc:=[],code:=.kp [0,1] c_Sq_0 }
def c_Sp_5:VC:=
 .ite (.s 7) (.skip) (.exit 0)
def c_Sp_8:VC:=
 .blk 1 (.r 1 [M 8 0,
  {op:=.call 9 61 [(.s 8),(.k (.int .u64 0))]}])
def c_Sp_2:VC:=
 .seq (.seq (.r 0 [M 2 0,
  {op:=.nck 3 (.s 2)},
  oF 4 3 2,
  oL 5 4 1,
  {op:=.bin 6 .rem (.s 5) (.k (.int .i64 8))},
  {op:=.bin 7 .neq (.s 6) (.k (.int .i64 0))}]) c_Sp_5) c_Sp_8
def c_Sp_0:VC:=
 .blk 0 (.loop [0] c_Sp_2)
def vf_Sp:VF:={ pm:=[.mb [.sc,.own [.sc],.sc]],rm:=[],nslots:=10,res:=[],rc:=[],code:=.kp [0] c_Sp_0 }
def c_Sa_28:VC:=
 .ite (.s 19) (.skip) (.exit 2)
def c_Sa_39:VC:=
 .ite (.s 27) (.r 12 [M 28 3,
  {op:=.bin 29 .xor (.s 28) (.k (.int .u32 3988292384))},
  M 3 29]) (.skip)
def c_Sa_37:VC:=
 .seq (.r 11 [M 26 7,
  {op:=.bin 27 .eql (.s 26) (.k (.int .u32 1))}]) c_Sa_39
def c_Sa_35:VC:=
 .seq (.r 10 [M 24 3,
  {op:=.bin 25 .shr (.s 24) (.k (.int .u64 1))},
  M 3 25]) c_Sa_37
def c_Sa_42:VC:=
 .r 8 [M 20 6,
  {op:=.bin 21 .add (.s 20) (.k (.int .i64 1))},
  M 6 21]
def c_Sa_31:VC:=
 .seq (.blk 3 (.seq (.r 9 [M 22 3,
  {op:=.bin 23 .and (.s 22) (.k (.int .u32 1))},
  M 7 23]) c_Sa_35)) c_Sa_42
def c_Sa_25:VC:=
 .seq (.seq (.r 7 [M 18 6,
  {op:=.bin 19 .lss (.s 18) (.k (.int .i64 8))}]) c_Sa_28) c_Sa_31
def c_Sa_23:VC:=
 .blk 2 (.loop [3,6,8,9,10] c_Sa_25)
def c_Sa_21:VC:=
 .seq (.r 6 [oN 6 0]) c_Sa_23
def c_Sa_19:VC:=
 .seq (.r 5 [M 14 3,
  M 15 5,
  {op:=.conv 16 .u32 (.s 15)},
  {op:=.bin 17 .xor (.s 14) (.s 16)},
  M 3 17]) c_Sa_21
def c_Sa_43:VC:=
 .r 13 [{op:=.bin 30 .add (.s 10) (.k (.int .i64 1))},
  M 10 30]
def c_Sa_15:VC:=
 .seq (.blk 1 (.seq (.r 4 [oX 12 8 10 1,
  oL 13 12 1,
  M 5 13]) c_Sa_19)) (.kp [3,8,9,10] c_Sa_43)
def c_Sa_11:VC:=
 .seq (.ite (.s 11) (.skip) (.exit 0)) c_Sa_15
def c_Sa_9:VC:=
 .seq (.r 3 [{op:=.bin 11 .lss (.s 10) (.s 9)}]) c_Sa_11
def c_Sa_7:VC:=
 .blk 0 (.loop [3,8,9,10] c_Sa_9)
def c_Sa_44:VC:=
 .seq (.r 14 [M 31 3,
  {op:=.un 32 .xor (.s 31)},
  M 2 32]) (.ret)
def c_Sa_4:VC:=
 .seq (.seq (.r 2 [M 8 0,
  {op:=.len 9 (.s 8)},
  oN 10 0]) c_Sa_7) (.kp [3] c_Sa_44)
def c_Sa_2:VC:=
 .seq (.r 1 [{op:=.mv 3 (.k (.int .u32 4294967295))}]) c_Sa_4
def c_Sa_0:VC:=
 .seq (.r 0 [{op:=.mv 2 (.k (.int .u32 0))}]) c_Sa_2
def vf_Sa:VF:={ pm:=[.ro [.ro [.sc]]],rm:=[.v [.sc]],nslots:=33,res:=[2],rc:=[],code:=.kp [0] c_Sa_0 }
def c_Sf_18:VC:=
 .ite (.s 22) (.skip) (.exit 0)
def c_Sf_34:VC:=
 .r 12 [M 58 5,
  M 3 58]
def c_Sf_31:VC:=
 .ite (.s 54) (.seq (.r 11 [M 55 9,
  M 56 11,
  {op:=.bin 57 .add (.s 55) (.s 56)},
  M 4 57]) c_Sf_34) (.skip)
def c_Sf_29:VC:=
 .seq (.r 10 [M 46 4,
  {op:=.bin 47 .lss (.s 46) (.k (.int .i64 0))},
  M 48 47,
  ⟨none,[],some (48,false),.mv 49 (.s 9)⟩,
  ⟨none,[],some (48,false),.mv 50 (.s 11)⟩,
  ⟨none,[],some (48,false),.bin 51 .add (.s 49) (.s 50)⟩,
  ⟨none,[],some (48,false),.mv 52 (.s 4)⟩,
  ⟨none,[],some (48,false),.bin 53 .lss (.s 51) (.s 52)⟩,
  {op:=.pick 54 (.s 48) (.k (.bool true)) (.s 53)}]) (.kp [0,3,4,5,9,11,54] c_Sf_31)
def c_Sf_27:VC:=
 .seq (.r 9 [M 42 7,
  {op:=.call 43 63 [(.s 42)]},
  M 41 43,
  {op:=.ext 44 (.s 41) 0},
  {op:=.ext 45 (.s 41) 1},
  {op:=.alloc 10 [.k (.int .i64 0),.k (.int .i64 0),.o [.sc]]},
  oS 10 44 3,
  M 11 45]) c_Sf_29
def c_Sf_25:VC:=
 .seq (.r 8 [M 37 6,
  {op:=.call 38 63 [(.s 37)]},
  M 36 38,
  {op:=.ext 39 (.s 36) 0},
  {op:=.ext 40 (.s 36) 1},
  {op:=.alloc 8 [.k (.int .i64 0),.k (.int .i64 0),.o [.sc]]},
  oS 8 39 3,
  M 9 40]) c_Sf_27
def c_Sf_36:VC:=
 .r 6 [M 23 5,
  {op:=.bin 24 .add (.s 23) (.k (.int .i64 1))},
  M 5 24]
def c_Sf_21:VC:=
 .seq (.blk 1 (.seq (.d 7 [(0,M 26 5),
  (1,M 27 0),
  (2,{op:=.iadr 28 (.s 27) (.k (.int .i64 0)) 1}),
  (3,oV 29 28 1),
  (4,M 30 0),
  (5,{op:=.iadr 31 (.s 30) (.k (.int .i64 1)) 1}),
  (6,oV 32 31 1),
  (7,{op:=.call 33 62 [(.s 26),(.s 29),(.s 32)]}),
  (8,M 25 33),
  (9,{op:=.ext 34 (.s 25) 0}),
  (10,{op:=.ext 35 (.s 25) 1}),
  (11,M 6 34),
  (12,M 7 35)]) c_Sf_25)) c_Sf_36
def c_Sf_15:VC:=
 .seq (.seq (.r 5 [M 21 5,
  {op:=.bin 22 .leq (.s 21) (.k (.int .i64 2))}]) c_Sf_18) c_Sf_21
def c_Sf_13:VC:=
 .blk 0 (.loop [0,3,4,5] c_Sf_15)
def c_Sf_39:VC:=
 .r 14 [M 70 12,
  M 71 13,
  {op:=.lits 72 [.own [.sc]] [(.s 70),(.s 71)]},
  M 0 72]
def c_Sf_37:VC:=
 .seq (.d 13 [(0,M 60 3),
  (1,M 61 0),
  (2,{op:=.iadr 62 (.s 61) (.k (.int .i64 0)) 1}),
  (3,oV 63 62 1),
  (4,M 64 0),
  (5,{op:=.iadr 65 (.s 64) (.k (.int .i64 1)) 1}),
  (6,oV 66 65 1),
  (7,{op:=.call 67 62 [(.s 60),(.s 63),(.s 66)]}),
  (8,M 59 67),
  (9,{op:=.ext 68 (.s 59) 0}),
  (10,{op:=.ext 69 (.s 59) 1}),
  (11,M 12 68),
  (12,M 13 69)]) c_Sf_39
def c_Sf_10:VC:=
 .seq (.seq (.r 4 [oN 5 0]) c_Sf_13) (.kp [0,3] c_Sf_37)
def c_Sf_7:VC:=
 .ite (.s 20) (.seq (.r 3 [oN 4 (-1)]) c_Sf_10) (.skip)
def c_Sf_60:VC:=
 .r 20 [M 85 14,
  M 86 16,
  {op:=.call 87 64 [(.s 85),(.s 86)]}]
def c_Sf_61:VC:=
 .r 21 [{op:=.bin 88 .add (.s 81) (.k (.int .i64 1))},
  M 81 88]
def c_Sf_56:VC:=
 .seq (.blk 3 (.seq (.r 19 [oX 83 79 81 1,
  oL 84 83 1,
  M 16 84]) c_Sf_60)) c_Sf_61
def c_Sf_52:VC:=
 .seq (.ite (.s 82) (.skip) (.exit 2)) c_Sf_56
def c_Sf_50:VC:=
 .seq (.r 18 [{op:=.bin 82 .lss (.s 81) (.s 80)}]) c_Sf_52
def c_Sf_48:VC:=
 .blk 2 (.pre [.fz 79 0] (.loop [14,79,80,81] c_Sf_50))
def c_Sf_66:VC:=
 .seq (.r 24 [M 96 14,
  {op:=.nck 97 (.s 96)},
  oF 98 97 1,
  oL 99 98 1,
  M 100 17,
  {op:=.bin 101 .shr (.s 100) (.k (.int .u64 8))},
  {op:=.conv 102 .u8 (.s 101)},
  M 103 17,
  {op:=.conv 104 .u8 (.s 103)},
  {op:=.lits 105 [.sc] [(.s 102),(.s 104)]},
  {op:=.app 106 (.s 99) (.s 105) [.sc] 140737488355328},
  M 2 106]) (.ret)
def c_Sf_64:VC:=
 .seq (.r 23 [M 91 14,
  {op:=.nck 92 (.s 91)},
  oF 93 92 1,
  oL 94 93 1,
  {op:=.call 95 66 [(.s 94)]},
  M 17 95]) c_Sf_66
def c_Sf_62:VC:=
 .seq (.r 22 [M 89 14,
  {op:=.call 90 65 [(.s 89)]}]) c_Sf_64
def c_Sf_45:VC:=
 .seq (.seq (.r 17 [M 79 0,
  {op:=.len 80 (.s 79)},
  oN 81 0]) c_Sf_48) (.kp [14] c_Sf_62)
def c_Sf_43:VC:=
 .seq (.r 16 [M 75 14,
  M 76 3,
  {op:=.conv 77 .u64 (.s 76)},
  {op:=.call 78 26 [(.s 75),(.k (.int .i64 2)),(.s 77)]}]) c_Sf_45
def c_Sf_41:VC:=
 .seq (.r 15 [{op:=.bld 73 [.k (.bool false),.o [.sc],.k (.int .i64 0)] [(0,1,(.k (.bool true)))]},
  {op:=.box 74 (.s 73)},
  M 14 74]) c_Sf_43
def c_Sf_4:VC:=
 .seq (.seq (.r 2 [M 18 0,
  {op:=.len 19 (.s 18)},
  {op:=.bin 20 .eql (.s 19) (.k (.int .i64 2))}]) c_Sf_7) c_Sf_41
def c_Sf_2:VC:=
 .seq (.r 1 [oN 3 0]) c_Sf_4
def c_Sf_0:VC:=
 .seq (.r 0 [{op:=.nil 2 [.sc]}]) c_Sf_2
def vf_Sf:VF:={ pm:=[.ro [.ro [.ro [.sc]]]],rm:=[.v [.own [.sc]]],nslots:=107,res:=[2],rc:=[],code:=.kp [0] c_Sf_0 }
def c_Sb_5:VC:=
 .ite (.s 13) (.seq (.r 2 [{op:=.nil 2 [.sc]}]) (.ret)) (.skip)
def c_Sb_34:VC:=
 .ite (.s 55) (.skip) (.exit 0)
def c_Sb_44:VC:=
 .ite (.s 66) (.r 16 [M 67 3,
  M 7 67]) (.skip)
def c_Sb_64:VC:=
 .r 21 [M 75 8,
  M 76 10,
  M 77 6,
  M 78 7,
  {op:=.slc 79 (.s 76) (some (.s 77)) (some (.s 78)) 1},
  {op:=.lits 80 [.ro [.sc]] [(.s 79)]},
  {op:=.app 81 (.s 75) (.s 80) [.ro [.sc]] 5864062014805},
  M 8 81]
def c_Sb_65:VC:=
 .r 22 [{op:=.bin 82 .add (.s 71) (.k (.int .i64 1))},
  M 71 82]
def c_Sb_60:VC:=
 .seq (.blk 3 (.seq (.r 20 [oX 73 69 71 1,
  oL 74 73 1,
  M 10 74]) c_Sb_64)) c_Sb_65
def c_Sb_56:VC:=
 .seq (.ite (.s 72) (.skip) (.exit 2)) c_Sb_60
def c_Sb_54:VC:=
 .seq (.r 19 [{op:=.bin 72 .lss (.s 71) (.s 70)}]) c_Sb_56
def c_Sb_52:VC:=
 .blk 2 (.loop [1,3,5,6,7,8,69,70,71] c_Sb_54)
def c_Sb_66:VC:=
 .r 23 [M 83 5,
  M 84 8,
  {op:=.call 85 27 [(.s 84)]},
  {op:=.app 86 (.s 83) (.s 85) [.sc] 140737488355328},
  M 5 86]
def c_Sb_49:VC:=
 .seq (.seq (.r 18 [oF 68 1 3,
  oL 69 68 1,
  {op:=.len 70 (.s 69)},
  oN 71 0]) c_Sb_52) (.kp [1,3,5,6,8] c_Sb_66)
def c_Sb_47:VC:=
 .seq (.r 17 [{op:=.nil 8 [.ro [.sc]]}]) c_Sb_49
def c_Sb_41:VC:=
 .seq (.seq (.r 15 [M 64 7,
  M 65 3,
  {op:=.bin 66 .gtr (.s 64) (.s 65)}]) c_Sb_44) (.kp [1,3,5,6,7] c_Sb_47)
def c_Sb_67:VC:=
 .r 13 [M 56 6,
  oF 57 1 2,
  oL 58 57 1,
  {op:=.bin 59 .add (.s 56) (.s 58)},
  M 6 59]
def c_Sb_37:VC:=
 .seq (.blk 1 (.seq (.r 14 [M 60 6,
  oF 61 1 2,
  oL 62 61 1,
  {op:=.bin 63 .add (.s 60) (.s 62)},
  M 7 63]) c_Sb_41)) c_Sb_67
def c_Sb_31:VC:=
 .seq (.seq (.r 12 [M 53 6,
  M 54 3,
  {op:=.bin 55 .lss (.s 53) (.s 54)}]) c_Sb_34) c_Sb_37
def c_Sb_29:VC:=
 .blk 0 (.loop [1,3,5,6] c_Sb_31)
def c_Sb_71:VC:=
 .ite (.s 89) (.seq (.r 25 [{op:=.nil 2 [.sc]}]) (.ret)) (.skip)
def c_Sb_76:VC:=
 .seq (.r 26 [M 90 5,
  M 2 90]) (.ret)
def c_Sb_68:VC:=
 .seq (.seq (.r 24 [M 87 5,
  {op:=.len 88 (.s 87)},
  {op:=.bin 89 .gtr (.s 88) (.k (.int .i64 60000))}]) c_Sb_71) c_Sb_76
def c_Sb_26:VC:=
 .seq (.seq (.r 11 [oN 6 0]) c_Sb_29) (.kp [5] c_Sb_68)
def c_Sb_24:VC:=
 .seq (.r 10 [{op:=.lits 47 [.sc] [(.k (.int .u8 83)),(.k (.int .u8 78)),(.k (.int .u8 68)),(.k (.int .u8 49))]},
  M 48 4,
  {op:=.nck 49 (.s 48)},
  oF 50 49 1,
  oL 51 50 1,
  {op:=.app 52 (.s 47) (.s 51) [.sc] 140737488355328},
  M 5 52]) c_Sb_26
def c_Sb_22:VC:=
 .seq (.r 9 [M 43 4,
  M 44 3,
  {op:=.conv 45 .u64 (.s 44)},
  {op:=.call 46 26 [(.s 43),(.k (.int .i64 12)),(.s 45)]}]) c_Sb_24
def c_Sb_20:VC:=
 .seq (.r 8 [M 36 4,
  oF 37 1 3,
  oL 38 37 1,
  {op:=.len 39 (.s 38)},
  {op:=.bin 40 .sub (.s 39) (.k (.int .i64 1))},
  {op:=.conv 41 .u64 (.s 40)},
  {op:=.call 42 26 [(.s 36),(.k (.int .i64 1)),(.s 41)]}]) c_Sb_22
def c_Sb_18:VC:=
 .seq (.r 7 [M 31 4,
  oF 32 1 2,
  oL 33 32 1,
  {op:=.conv 34 .u64 (.s 33)},
  {op:=.call 35 26 [(.s 31),(.k (.int .i64 10)),(.s 34)]}]) c_Sb_20
def c_Sb_16:VC:=
 .seq (.r 6 [M 26 4,
  oF 27 1 1,
  oL 28 27 1,
  {op:=.conv 29 .u64 (.s 28)},
  {op:=.call 30 26 [(.s 26),(.k (.int .i64 5)),(.s 29)]}]) c_Sb_18
def c_Sb_14:VC:=
 .seq (.r 5 [M 21 4,
  oF 22 1 0,
  oL 23 22 1,
  {op:=.conv 24 .u64 (.s 23)},
  {op:=.call 25 26 [(.s 21),(.k (.int .i64 20)),(.s 24)]}]) c_Sb_16
def c_Sb_12:VC:=
 .seq (.r 4 [{op:=.bld 19 [.k (.bool false),.o [.sc],.k (.int .i64 0)] [(0,1,(.k (.bool true)))]},
  {op:=.box 20 (.s 19)},
  M 4 20]) c_Sb_14
def c_Sb_10:VC:=
 .seq (.r 3 [oF 14 1 3,
  oL 15 14 1,
  {op:=.iadr 16 (.s 15) (.k (.int .i64 0)) 1},
  oL 17 16 1,
  {op:=.len 18 (.s 17)},
  M 3 18]) c_Sb_12
def c_Sb_2:VC:=
 .seq (.seq (.r 1 [{op:=.ld 11 (.s 1) 4 true},
  {op:=.call 12 25 [(.s 11)]},
  {op:=.un 13 .not (.s 12)}]) c_Sb_5) c_Sb_10
def c_Sb_0:VC:=
 .seq (.r 0 [{op:=.box 1 (.s 0)},
  {op:=.nil 2 [.sc]}]) c_Sb_2
def vf_Sb:VF:={ pm:=[.ro [.sc,.sc,.sc,.ro [.ro [.sc]]]],rm:=[.v [.own [.sc]]],nslots:=91,res:=[2],rc:=[],code:=.kp [0] c_Sb_0 }
def c_Ir_5:VC:=
 .ite (.s 14) (.seq (.r 2 [oK 8 false]) (.ret)) (.skip)
def c_Ir_27:VC:=
 .ite (.s 28) (.seq (.r 7 [oK 8 false]) (.ret)) (.skip)
def c_Ir_25:VC:=
 .seq (.r 6 [M 21 10,
  M 22 1,
  {op:=.bin 23 .lss (.s 21) (.s 22)},
  M 24 23,
  ⟨none,[],some (24,false),.mv 25 (.s 10)⟩,
  ⟨none,[],some (24,false),.mv 26 (.s 2)⟩,
  ⟨none,[],some (24,false),.bin 27 .gtr (.s 25) (.s 26)⟩,
  {op:=.pick 28 (.s 24) (.k (.bool true)) (.s 27)}]) c_Ir_27
def c_Ir_32:VC:=
 .r 8 [{op:=.bin 29 .add (.s 17) (.k (.int .i64 1))},
  M 17 29]
def c_Ir_21:VC:=
 .seq (.blk 1 (.seq (.r 5 [oX 19 15 17 1,
  oL 20 19 1,
  M 10 20]) c_Ir_25)) c_Ir_32
def c_Ir_17:VC:=
 .seq (.ite (.s 18) (.skip) (.exit 0)) c_Ir_21
def c_Ir_15:VC:=
 .seq (.r 4 [{op:=.bin 18 .lss (.s 17) (.s 16)}]) c_Ir_17
def c_Ir_13:VC:=
 .blk 0 (.loop [1,2,15,16,17] c_Ir_15)
def c_Ir_33:VC:=
 .seq (.r 9 [oK 8 true]) (.ret)
def c_Ir_10:VC:=
 .seq (.seq (.r 3 [M 15 0,
  {op:=.len 16 (.s 15)},
  oN 17 0]) c_Ir_13) (.kp [] c_Ir_33)
def c_Ir_2:VC:=
 .seq (.seq (.r 1 [M 11 0,
  {op:=.len 12 (.s 11)},
  M 13 3,
  {op:=.bin 14 .gtr (.s 12) (.s 13)}]) c_Ir_5) c_Ir_10
def c_Ir_0:VC:=
 .seq (.r 0 [oK 8 false]) c_Ir_2
def vf_Ir:VF:={ pm:=[.ro [.ro [.sc]],.ro [.sc],.ro [.sc],.ro [.sc]],rm:=[.v [.sc]],nslots:=30,res:=[8],rc:=[],code:=.kp [0,1,2,3] c_Ir_0 }
def c_Ie_7:VC:=
 .ite (.s 44) (.seq (.r 3 [oK 2 false]) (.ret)) (.skip)
def c_Ie_29:VC:=
 .ite (.s 73) (.seq (.r 8 [oK 2 false]) (.ret)) (.skip)
def c_Ie_27:VC:=
 .seq (.d 7 [(0,M 52 5),
  (1,{op:=.len 53 (.s 52)}),
  (2,oG 54 1 3),
  (3,oV 55 54 1),
  (4,{op:=.iadr 56 (.s 55) (.k (.int .i64 0)) 1}),
  (5,oV 57 56 1),
  (6,{op:=.len 58 (.s 57)}),
  (7,{op:=.bin 59 .neq (.s 53) (.s 58)}),
  (8,M 60 59),
  (9,⟨none,[],some (60,false),.mv 61 (.s 5)⟩),
  (10,⟨none,[],some (60,false),.fadv 62 (.s 1) 1⟩),
  (11,⟨none,[],some (60,false),.ldv 63 (.s 62) 1 false⟩),
  (12,⟨none,[],some (60,false),.bin 64 .sub (.s 63) (.k (.int .i64 1))⟩),
  (13,⟨none,[],some (60,false),.bin 65 .shl (.k (.int .i64 (-1))) (.s 64)⟩),
  (14,⟨none,[],some (60,false),.fadv 66 (.s 1) 1⟩),
  (15,⟨none,[],some (60,false),.ldv 67 (.s 66) 1 false⟩),
  (16,⟨none,[],some (60,false),.bin 68 .sub (.s 67) (.k (.int .i64 1))⟩),
  (17,⟨none,[],some (60,false),.bin 69 .shl (.k (.int .i64 1)) (.s 68)⟩),
  (18,⟨none,[],some (60,false),.bin 70 .sub (.s 69) (.k (.int .i64 1))⟩),
  (19,⟨none,[],some (60,false),.call 71 55 [(.s 61),(.s 65),(.s 70),(.k (.int .i64 4000))]⟩),
  (20,⟨none,[],some (60,false),.un 72 .not (.s 71)⟩),
  (21,{op:=.pick 73 (.s 60) (.k (.bool true)) (.s 72)})]) c_Ie_29
def c_Ie_34:VC:=
 .r 9 [{op:=.bin 74 .add (.s 48) (.k (.int .i64 1))},
  M 48 74]
def c_Ie_23:VC:=
 .seq (.blk 1 (.seq (.r 6 [oX 50 46 48 1,
  oL 51 50 1,
  M 5 51]) c_Ie_27)) c_Ie_34
def c_Ie_19:VC:=
 .seq (.ite (.s 49) (.skip) (.exit 0)) c_Ie_23
def c_Ie_17:VC:=
 .seq (.r 5 [{op:=.bin 49 .lss (.s 48) (.s 47)}]) c_Ie_19
def c_Ie_15:VC:=
 .blk 0 (.loop [1,46,47,48] c_Ie_17)
def c_Ie_35:VC:=
 .seq (.r 10 [oK 2 true]) (.ret)
def c_Ie_12:VC:=
 .seq (.seq (.r 4 [oF 45 1 3,
  oL 46 45 1,
  {op:=.len 47 (.s 46)},
  oN 48 0]) c_Ie_15) (.kp [] c_Ie_35)
def c_Ie_4:VC:=
 .seq (.seq (.r 2 [oF 9 1 0,
  oL 10 9 1,
  {op:=.bin 11 .lss (.s 10) (.k (.int .i64 1))},
  M 12 11,
  ⟨none,[],some (12,false),.fadr 13 (.s 1) 0⟩,
  ⟨none,[],some (12,false),.ld 14 (.s 13) 1 false⟩,
  ⟨none,[],some (12,false),.bin 15 .gtr (.s 14) (.k (.int .i64 1000000))⟩,
  {op:=.pick 16 (.s 12) (.k (.bool true)) (.s 15)},
  M 17 16,
  ⟨none,[],some (17,false),.fadr 18 (.s 1) 1⟩,
  ⟨none,[],some (17,false),.ld 19 (.s 18) 1 false⟩,
  ⟨none,[],some (17,false),.bin 20 .lss (.s 19) (.k (.int .i64 2))⟩,
  {op:=.pick 21 (.s 17) (.k (.bool true)) (.s 20)},
  M 22 21,
  ⟨none,[],some (22,false),.fadr 23 (.s 1) 1⟩,
  ⟨none,[],some (22,false),.ld 24 (.s 23) 1 false⟩,
  ⟨none,[],some (22,false),.bin 25 .gtr (.s 24) (.k (.int .i64 24))⟩,
  {op:=.pick 26 (.s 22) (.k (.bool true)) (.s 25)},
  M 27 26,
  ⟨none,[],some (27,false),.fadr 28 (.s 1) 2⟩,
  ⟨none,[],some (27,false),.ld 29 (.s 28) 1 false⟩,
  ⟨none,[],some (27,false),.bin 30 .lss (.s 29) (.k (.int .i64 1))⟩,
  {op:=.pick 31 (.s 27) (.k (.bool true)) (.s 30)},
  M 32 31,
  ⟨none,[],some (32,false),.fadr 33 (.s 1) 2⟩,
  ⟨none,[],some (32,false),.ld 34 (.s 33) 1 false⟩,
  ⟨none,[],some (32,false),.bin 35 .gtr (.s 34) (.k (.int .i64 512))⟩,
  {op:=.pick 36 (.s 32) (.k (.bool true)) (.s 35)},
  M 37 36,
  ⟨none,[],some (37,false),.mv 38 (.s 3)⟩,
  ⟨none,[],some (37,false),.bin 39 .lss (.s 38) (.k (.int .i64 1))⟩,
  {op:=.pick 40 (.s 37) (.k (.bool true)) (.s 39)},
  M 41 40,
  ⟨none,[],some (41,false),.mv 42 (.s 3)⟩,
  ⟨none,[],some (41,false),.bin 43 .gtr (.s 42) (.k (.int .i64 2))⟩,
  {op:=.pick 44 (.s 41) (.k (.bool true)) (.s 43)}]) c_Ie_7) c_Ie_12
def c_Ie_2:VC:=
 .seq (.r 1 [oF 6 1 3,
  oL 7 6 1,
  {op:=.len 8 (.s 7)},
  M 3 8]) c_Ie_4
def c_Ie_0:VC:=
 .seq (.r 0 [{op:=.box 1 (.s 0)},
  oK 2 false]) c_Ie_2
def vf_Ie:VF:={ pm:=[.ro [.sc,.sc,.sc,.ro [.ro [.sc]]]],rm:=[.v [.sc]],nslots:=75,res:=[2],rc:=[],code:=.kp [0] c_Ie_0 }
def c_Ii_3:VC:=
 .ite (.s 9) (.r 1 [M 10 0,
  M 11 0,
  {op:=.nck 12 (.s 11)},
  oF 13 12 0,
  oL 14 13 1,
  {op:=.lits 15 [.sc] [(.k (.int .u8 0))]},
  {op:=.app 16 (.s 14) (.s 15) [.sc] 140737488355328},
  {op:=.nck 17 (.s 10)},
  oF 18 17 0,
  oS 18 16 1]) (.skip)
def c_Ii_8:VC:=
 .r 3 [M 41 0,
  {op:=.nck 42 (.s 41)},
  oF 43 42 1,
  oL 44 43 1,
  {op:=.bin 45 .add (.s 44) (.k (.int .i64 1))},
  {op:=.nck 46 (.s 41)},
  oF 47 46 1,
  oS 47 45 1]
def c_Ii_6:VC:=
 .seq (.d 2 [(0,M 19 0),
  (1,{op:=.nckv 20 (.s 19)}),
  (2,oG 21 20 0),
  (3,oV 22 21 1),
  (4,M 23 0),
  (5,{op:=.nckv 24 (.s 23)}),
  (6,oG 25 24 1),
  (7,oV 26 25 1),
  (8,{op:=.bin 27 .quo (.s 26) (.k (.int .i64 8))}),
  (9,oX 28 22 27 1),
  (10,oL 29 28 1),
  (11,M 30 1),
  (12,{op:=.conv 31 .u8 (.s 30)}),
  (13,M 32 0),
  (14,{op:=.nckv 33 (.s 32)}),
  (15,oG 34 33 1),
  (16,oV 35 34 1),
  (17,{op:=.bin 36 .rem (.s 35) (.k (.int .i64 8))}),
  (18,{op:=.bin 37 .sub (.k (.int .i64 7)) (.s 36)}),
  (19,{op:=.bin 38 .shl (.s 31) (.s 37)}),
  (20,{op:=.bin 39 .or (.s 29) (.s 38)}),
  (21,oX 40 22 27 1),
  (22,oS 40 39 1)]) c_Ii_8
def c_Ii_0:VC:=
 .seq (.seq (.r 0 [M 4 0,
  {op:=.nck 5 (.s 4)},
  oF 6 5 1,
  oL 7 6 1,
  {op:=.bin 8 .rem (.s 7) (.k (.int .i64 8))},
  {op:=.bin 9 .eql (.s 8) (.k (.int .i64 0))}]) c_Ii_3) (.kp [0,1] c_Ii_6)
def vf_Ii:VF:={ pm:=[.mb [.own [.sc],.sc],.ro [.sc]],rm:=[],nslots:=48,res:=[],rc:=[],code:=.kp [0,1] c_Ii_0 }
def c_Ij_7:VC:=
 .ite (.s 10) (.skip) (.exit 0)
def c_Ij_13:VC:=
 .r 2 [M 11 6,
  {op:=.bin 12 .sub (.s 11) (.k (.int .i64 1))},
  M 6 12]
def c_Ij_10:VC:=
 .seq (.blk 1 (.r 3 [M 13 0,
  M 14 2,
  M 15 6,
  {op:=.bin 16 .shr (.s 14) (.s 15)},
  {op:=.bin 17 .and (.s 16) (.k (.int .u64 1))},
  {op:=.conv 18 .i64 (.s 17)},
  {op:=.call 19 68 [(.s 13),(.s 18)]}])) c_Ij_13
def c_Ij_4:VC:=
 .seq (.seq (.r 1 [M 9 6,
  {op:=.bin 10 .geq (.s 9) (.k (.int .i64 0))}]) c_Ij_7) c_Ij_10
def c_Ij_2:VC:=
 .blk 0 (.loop [0,2,6] c_Ij_4)
def c_Ij_0:VC:=
 .seq (.r 0 [M 7 1,
  {op:=.bin 8 .sub (.s 7) (.k (.int .i64 1))},
  M 6 8]) c_Ij_2
def vf_Ij:VF:={ pm:=[.mb [.own [.sc],.sc],.ro [.sc],.ro [.sc]],rm:=[],nslots:=20,res:=[],rc:=[],code:=.kp [0,1,2] c_Ij_0 }
def c_Ip_2:VC:=
 .seq (.r 1 [M 3 0,
  {op:=.call 4 55 [(.s 3),(.k (.int .i64 (-67108864))),(.k (.int .i64 67108863)),(.k (.int .i64 4000))]},
  M 2 4]) (.ret)
def c_Ip_0:VC:=
 .seq (.r 0 [oK 2 false]) c_Ip_2
def vf_Ip:VF:={ pm:=[.ro [.ro [.sc]]],rm:=[.v [.sc]],nslots:=5,res:=[2],rc:=[],code:=.kp [0] c_Ip_0 }
def c_Il_2:VC:=
 .seq (.r 1 [{op:=.lits 3 [.sc] []},
  M 4 0,
  {op:=.app 5 (.s 3) (.s 4) [.sc] 17592186044416},
  M 2 5]) (.ret)
def c_Il_0:VC:=
 .seq (.r 0 [{op:=.nil 2 [.sc]}]) c_Il_2
def vf_Il:VF:={ pm:=[.ro [.ro [.sc]]],rm:=[.v [.own [.sc]]],nslots:=6,res:=[2],rc:=[],code:=.kp [0] c_Il_0 }
def c_Ih_5:VC:=
 .ite (.s 33) (.seq (.r 2 [{op:=.nil 6 [.sc]},
  {op:=.nil 7 [.sc]}]) (.ret)) (.skip)
def c_Ih_30:VC:=
 .ite (.s 44) (.d 8 [(0,M 45 9),
  (1,M 46 10),
  (2,M 47 1),
  (3,M 48 10),
  (4,oX 49 47 48 1),
  (5,oV 50 49 1),
  (6,M 51 2),
  (7,M 52 10),
  (8,oX 53 51 52 1),
  (9,oV 54 53 1),
  (10,{op:=.bin 55 .sub (.s 50) (.s 54)}),
  (11,oX 56 45 46 1),
  (12,oS 56 55 1)]) (.skip)
def c_Ih_35:VC:=
 .ite (.s 58) (.d 10 [(0,M 59 8),
  (1,M 60 10),
  (2,M 61 1),
  (3,M 62 10),
  (4,oX 63 61 62 1),
  (5,oV 64 63 1),
  (6,M 65 2),
  (7,M 66 10),
  (8,oX 67 65 66 1),
  (9,oV 68 67 1),
  (10,{op:=.bin 69 .add (.s 64) (.s 68)}),
  (11,{op:=.bin 70 .shr (.s 69) (.k (.int .u64 1))}),
  (12,oX 71 59 60 1),
  (13,oS 71 70 1)]) (.skip)
def c_Ih_33:VC:=
 .seq (.r 9 [M 57 0,
  {op:=.bin 58 .eql (.s 57) (.k (.int .i64 2))}]) c_Ih_35
def c_Ih_27:VC:=
 .seq (.seq (.r 7 [M 43 0,
  {op:=.bin 44 .gtr (.s 43) (.k (.int .i64 0))}]) c_Ih_30) (.kp [0,1,2,8,9,10,39,40] c_Ih_33)
def c_Ih_38:VC:=
 .r 11 [{op:=.bin 72 .add (.s 40) (.k (.int .i64 1))},
  M 40 72]
def c_Ih_23:VC:=
 .seq (.blk 1 (.seq (.r 6 [M 42 40,
  M 10 42]) c_Ih_27)) c_Ih_38
def c_Ih_19:VC:=
 .seq (.ite (.s 41) (.skip) (.exit 0)) c_Ih_23
def c_Ih_17:VC:=
 .seq (.r 5 [{op:=.bin 41 .lss (.s 40) (.s 39)}]) c_Ih_19
def c_Ih_15:VC:=
 .blk 0 (.loop [0,1,2,8,9,39,40] c_Ih_17)
def c_Ih_39:VC:=
 .seq (.r 12 [M 73 8,
  M 74 9,
  M 6 73,
  M 7 74]) (.ret)
def c_Ih_12:VC:=
 .seq (.seq (.r 4 [M 38 1,
  {op:=.len 39 (.s 38)},
  oN 40 0]) c_Ih_15) (.kp [8,9] c_Ih_39)
def c_Ih_10:VC:=
 .seq (.r 3 [M 34 1,
  {op:=.call 35 70 [(.s 34)]},
  M 36 2,
  {op:=.call 37 70 [(.s 36)]},
  M 8 35,
  M 9 37]) c_Ih_12
def c_Ih_2:VC:=
 .seq (.seq (.r 1 [M 11 1,
  {op:=.call 12 69 [(.s 11)]},
  {op:=.un 13 .not (.s 12)},
  M 14 13,
  ⟨none,[],some (14,false),.mv 15 (.s 2)⟩,
  ⟨none,[],some (14,false),.call 16 69 [(.s 15)]⟩,
  ⟨none,[],some (14,false),.un 17 .not (.s 16)⟩,
  {op:=.pick 18 (.s 14) (.k (.bool true)) (.s 17)},
  M 19 18,
  ⟨none,[],some (19,false),.mv 20 (.s 1)⟩,
  ⟨none,[],some (19,false),.len 21 (.s 20)⟩,
  ⟨none,[],some (19,false),.mv 22 (.s 2)⟩,
  ⟨none,[],some (19,false),.len 23 (.s 22)⟩,
  ⟨none,[],some (19,false),.bin 24 .neq (.s 21) (.s 23)⟩,
  {op:=.pick 25 (.s 19) (.k (.bool true)) (.s 24)},
  M 26 25,
  ⟨none,[],some (26,false),.mv 27 (.s 0)⟩,
  ⟨none,[],some (26,false),.bin 28 .lss (.s 27) (.k (.int .i64 0))⟩,
  {op:=.pick 29 (.s 26) (.k (.bool true)) (.s 28)},
  M 30 29,
  ⟨none,[],some (30,false),.mv 31 (.s 0)⟩,
  ⟨none,[],some (30,false),.bin 32 .gtr (.s 31) (.k (.int .i64 2))⟩,
  {op:=.pick 33 (.s 30) (.k (.bool true)) (.s 32)}]) (.kp [0,1,2,33] c_Ih_5)) c_Ih_10
def c_Ih_0:VC:=
 .seq (.r 0 [{op:=.nil 6 [.sc]},
  {op:=.nil 7 [.sc]}]) c_Ih_2
def vf_Ih:VF:={ pm:=[.ro [.sc],.ro [.ro [.sc]],.ro [.ro [.sc]]],rm:=[.v [.own [.sc]],.v [.own [.sc]]],nslots:=75,res:=[6,7],rc:=[],code:=.kp [0,1,2] c_Ih_0 }
def c_In_26:VC:=
 .ite (.s 50) (.seq (.d 9 [(0,M 52 1),
  (1,M 53 2),
  (2,{op:=.bin 54 .sub (.s 53) (.k (.int .i64 1))}),
  (3,oX 55 52 54 1),
  (4,oV 56 55 1),
  (5,{op:=.bin 57 .mul (.k (.int .i64 4)) (.s 56)}),
  (6,M 58 1),
  (7,M 59 2),
  (8,{op:=.bin 60 .sub (.s 59) (.k (.int .i64 2))}),
  (9,oX 61 58 60 1),
  (10,oV 62 61 1),
  (11,{op:=.bin 63 .mul (.k (.int .i64 6)) (.s 62)}),
  (12,{op:=.bin 64 .sub (.s 57) (.s 63)}),
  (13,M 65 1),
  (14,M 66 2),
  (15,{op:=.bin 67 .sub (.s 66) (.k (.int .i64 3))}),
  (16,oX 68 65 67 1),
  (17,oV 69 68 1),
  (18,{op:=.bin 70 .mul (.k (.int .i64 4)) (.s 69)}),
  (19,{op:=.bin 71 .add (.s 64) (.s 70)}),
  (20,M 72 1),
  (21,M 73 2),
  (22,{op:=.bin 74 .sub (.s 73) (.k (.int .i64 4))}),
  (23,oX 75 72 74 1),
  (24,oV 76 75 1),
  (25,{op:=.bin 77 .sub (.s 71) (.s 76)}),
  (26,M 6 77)]) (.ret)) (.skip)
def c_In_20:VC:=
 .ite (.s 29) (.seq (.d 7 [(0,M 31 1),
  (1,M 32 2),
  (2,{op:=.bin 33 .sub (.s 32) (.k (.int .i64 1))}),
  (3,oX 34 31 33 1),
  (4,oV 35 34 1),
  (5,{op:=.bin 36 .mul (.k (.int .i64 3)) (.s 35)}),
  (6,M 37 1),
  (7,M 38 2),
  (8,{op:=.bin 39 .sub (.s 38) (.k (.int .i64 2))}),
  (9,oX 40 37 39 1),
  (10,oV 41 40 1),
  (11,{op:=.bin 42 .mul (.k (.int .i64 3)) (.s 41)}),
  (12,{op:=.bin 43 .sub (.s 36) (.s 42)}),
  (13,M 44 1),
  (14,M 45 2),
  (15,{op:=.bin 46 .sub (.s 45) (.k (.int .i64 3))}),
  (16,oX 47 44 46 1),
  (17,oV 48 47 1),
  (18,{op:=.bin 49 .add (.s 43) (.s 48)}),
  (19,M 6 49)]) (.ret)) (.seq (.r 8 [{op:=.bin 51 .eql (.s 7) (.k (.int .i64 4))},
  M 50 51]) c_In_26)
def c_In_14:VC:=
 .ite (.s 15) (.seq (.d 5 [(0,M 17 1),
  (1,M 18 2),
  (2,{op:=.bin 19 .sub (.s 18) (.k (.int .i64 1))}),
  (3,oX 20 17 19 1),
  (4,oV 21 20 1),
  (5,{op:=.bin 22 .mul (.k (.int .i64 2)) (.s 21)}),
  (6,M 23 1),
  (7,M 24 2),
  (8,{op:=.bin 25 .sub (.s 24) (.k (.int .i64 2))}),
  (9,oX 26 23 25 1),
  (10,oV 27 26 1),
  (11,{op:=.bin 28 .sub (.s 22) (.s 27)}),
  (12,M 6 28)]) (.ret)) (.seq (.r 6 [{op:=.bin 30 .eql (.s 7) (.k (.int .i64 3))},
  M 29 30]) c_In_20)
def c_In_8:VC:=
 .ite (.s 8) (.seq (.r 3 [M 10 1,
  M 11 2,
  {op:=.bin 12 .sub (.s 11) (.k (.int .i64 1))},
  oX 13 10 12 1,
  oL 14 13 1,
  M 6 14]) (.ret)) (.seq (.r 4 [{op:=.bin 16 .eql (.s 7) (.k (.int .i64 2))},
  M 15 16]) c_In_14)
def c_In_5:VC:=
 .blk 0 (.seq (.r 2 [{op:=.bin 9 .eql (.s 7) (.k (.int .i64 1))},
  M 8 9]) c_In_8)
def c_In_31:VC:=
 .seq (.r 10 [oN 6 0]) (.ret)
def c_In_2:VC:=
 .seq (.seq (.r 1 [M 7 0]) c_In_5) c_In_31
def c_In_0:VC:=
 .seq (.r 0 [oN 6 0]) c_In_2
def vf_In:VF:={ pm:=[.ro [.sc],.ro [.ro [.sc]],.ro [.sc]],rm:=[.v [.sc]],nslots:=78,res:=[6],rc:=[],code:=.kp [0,1,2] c_In_0 }
def c_Ig_5:VC:=
 .ite (.s 17) (.seq (.r 2 [{op:=.nil 4 [.sc]}]) (.ret)) (.skip)
def c_Ig_20:VC:=
 .ite (.s 24) (.skip) (.exit 0)
def c_Ig_26:VC:=
 .r 6 [M 25 6,
  {op:=.bin 26 .add (.s 25) (.k (.int .i64 1))},
  M 6 26]
def c_Ig_23:VC:=
 .seq (.blk 1 (.d 7 [(0,M 27 5),
  (1,M 28 6),
  (2,M 29 1),
  (3,M 30 6),
  (4,oX 31 29 30 1),
  (5,oV 32 31 1),
  (6,M 33 0),
  (7,M 34 1),
  (8,M 35 6),
  (9,{op:=.call 36 72 [(.s 33),(.s 34),(.s 35)]}),
  (10,{op:=.bin 37 .sub (.s 32) (.s 36)}),
  (11,oX 38 27 28 1),
  (12,oS 38 37 1)])) c_Ig_26
def c_Ig_17:VC:=
 .seq (.seq (.r 5 [M 21 6,
  M 22 1,
  {op:=.len 23 (.s 22)},
  {op:=.bin 24 .lss (.s 21) (.s 23)}]) c_Ig_20) c_Ig_23
def c_Ig_15:VC:=
 .blk 0 (.loop [0,1,5,6] c_Ig_17)
def c_Ig_27:VC:=
 .seq (.r 8 [M 39 5,
  M 4 39]) (.ret)
def c_Ig_12:VC:=
 .seq (.seq (.r 4 [M 20 0,
  M 6 20]) c_Ig_15) (.kp [5] c_Ig_27)
def c_Ig_10:VC:=
 .seq (.r 3 [M 18 1,
  {op:=.call 19 70 [(.s 18)]},
  M 5 19]) c_Ig_12
def c_Ig_2:VC:=
 .seq (.seq (.r 1 [M 7 1,
  {op:=.call 8 69 [(.s 7)]},
  {op:=.un 9 .not (.s 8)},
  M 10 9,
  ⟨none,[],some (10,false),.mv 11 (.s 0)⟩,
  ⟨none,[],some (10,false),.bin 12 .lss (.s 11) (.k (.int .i64 0))⟩,
  {op:=.pick 13 (.s 10) (.k (.bool true)) (.s 12)},
  M 14 13,
  ⟨none,[],some (14,false),.mv 15 (.s 0)⟩,
  ⟨none,[],some (14,false),.bin 16 .gtr (.s 15) (.k (.int .i64 4))⟩,
  {op:=.pick 17 (.s 14) (.k (.bool true)) (.s 16)}]) c_Ig_5) c_Ig_10
def c_Ig_0:VC:=
 .seq (.r 0 [{op:=.nil 4 [.sc]}]) c_Ig_2
def vf_Ig:VF:={ pm:=[.ro [.sc],.ro [.ro [.sc]]],rm:=[.v [.own [.sc]]],nslots:=40,res:=[4],rc:=[],code:=.kp [0,1] c_Ig_0 }
def c_Im_2:VC:=
 .seq (.r 1 [M 7 0,
  {op:=.bin 8 .geq (.s 7) (.k (.int .i64 0))},
  M 9 8,
  ⟨none,[],some (9,true),.mv 10 (.s 0)⟩,
  ⟨none,[],some (9,true),.bin 11 .leq (.s 10) (.k (.int .i64 4))⟩,
  {op:=.pick 12 (.s 9) (.s 11) (.k (.bool false))},
  M 13 12,
  ⟨none,[],some (13,true),.mv 14 (.s 0)⟩,
  ⟨none,[],some (13,true),.mv 15 (.s 2)⟩,
  ⟨none,[],some (13,true),.bin 16 .leq (.s 14) (.s 15)⟩,
  {op:=.pick 17 (.s 13) (.s 16) (.k (.bool false))},
  M 18 17,
  ⟨none,[],some (18,true),.mv 19 (.s 1)⟩,
  ⟨none,[],some (18,true),.bin 20 .geq (.s 19) (.k (.int .i64 0))⟩,
  {op:=.pick 21 (.s 18) (.s 20) (.k (.bool false))},
  M 22 21,
  ⟨none,[],some (22,true),.mv 23 (.s 1)⟩,
  ⟨none,[],some (22,true),.bin 24 .leq (.s 23) (.k (.int .i64 4))⟩,
  {op:=.pick 25 (.s 22) (.s 24) (.k (.bool false))},
  M 26 25,
  ⟨none,[],some (26,true),.mv 27 (.s 2)⟩,
  ⟨none,[],some (26,true),.mv 28 (.s 1)⟩,
  ⟨none,[],some (26,true),.bin 29 .shl (.k (.int .i64 1)) (.s 28)⟩,
  ⟨none,[],some (26,true),.bin 30 .rem (.s 27) (.s 29)⟩,
  ⟨none,[],some (26,true),.bin 31 .eql (.s 30) (.k (.int .i64 0))⟩,
  {op:=.pick 32 (.s 26) (.s 31) (.k (.bool false))},
  M 33 32,
  ⟨none,[],some (33,true),.mv 34 (.s 2)⟩,
  ⟨none,[],some (33,true),.mv 35 (.s 1)⟩,
  ⟨none,[],some (33,true),.bin 36 .shr (.s 34) (.s 35)⟩,
  ⟨none,[],some (33,true),.mv 37 (.s 0)⟩,
  ⟨none,[],some (33,true),.bin 38 .geq (.s 36) (.s 37)⟩,
  {op:=.pick 39 (.s 33) (.s 38) (.k (.bool false))},
  M 6 39]) (.ret)
def c_Im_0:VC:=
 .seq (.r 0 [oK 6 false]) c_Im_2
def vf_Im:VF:={ pm:=[.ro [.sc],.ro [.sc],.ro [.sc]],rm:=[.v [.sc]],nslots:=40,res:=[6],rc:=[],code:=.kp [0,1,2] c_Im_0 }
def c_Iq_4:VC:=
 .seq (.r 2 [M 14 2,
  M 15 3,
  M 16 9,
  {op:=.bin 17 .mul (.s 15) (.s 16)},
  M 18 0,
  {op:=.mx 19 (.s 17) (.s 18)},
  M 20 3,
  {op:=.bin 21 .add (.s 20) (.k (.int .i64 1))},
  M 22 9,
  {op:=.bin 23 .mul (.s 21) (.s 22)},
  {op:=.slc 24 (.s 14) (some (.s 19)) (some (.s 23)) 1},
  M 8 24]) (.ret)
def c_Iq_2:VC:=
 .seq (.r 1 [M 10 2,
  {op:=.len 11 (.s 10)},
  M 12 1,
  {op:=.bin 13 .shr (.s 11) (.s 12)},
  M 9 13]) c_Iq_4
def c_Iq_0:VC:=
 .seq (.r 0 [{op:=.nil 8 [.sc]}]) c_Iq_2
def vf_Iq:VF:={ pm:=[.ro [.sc],.ro [.sc],.ro [.ro [.sc]],.ro [.sc]],rm:=[.v [.ro [.sc]]],nslots:=25,res:=[8],rc:=[],code:=.kp [0,1,2,3] c_Iq_0 }
def c_Id_2:VC:=
 .seq (.r 1 [M 3 0,
  {op:=.conv 4 .u64 (.s 3)},
  {op:=.bin 5 .shl (.s 4) (.k (.int .u64 1))},
  M 6 0,
  {op:=.bin 7 .shr (.s 6) (.k (.int .u64 63))},
  {op:=.conv 8 .u64 (.s 7)},
  {op:=.bin 9 .xor (.s 5) (.s 8)},
  M 2 9]) (.ret)
def c_Id_0:VC:=
 .seq (.r 0 [{op:=.mv 2 (.k (.int .u64 0))}]) c_Id_2
def vf_Id:VF:={ pm:=[.ro [.sc]],rm:=[.v [.sc]],nslots:=10,res:=[2],rc:=[],code:=.kp [0] c_Id_0 }
def c_Io_5:VC:=
 .ite (.s 9) (.seq (.r 2 [M 10 1,
  {op:=.len 11 (.s 10)},
  {op:=.bin 12 .mul (.k (.int .i64 32)) (.s 11)},
  {op:=.bin 13 .add (.k (.int .i64 5)) (.s 12)},
  M 4 13]) (.ret)) (.skip)
def c_Io_27:VC:=
 .r 7 [M 20 5,
  M 21 7,
  {op:=.call 22 73 [(.s 21)]},
  M 23 0,
  {op:=.bin 24 .shr (.s 22) (.s 23)},
  {op:=.conv 25 .i64 (.s 24)},
  {op:=.bin 26 .add (.s 25) (.k (.int .i64 1))},
  M 27 0,
  {op:=.bin 28 .add (.s 26) (.s 27)},
  {op:=.bin 29 .add (.s 20) (.s 28)},
  M 5 29]
def c_Io_28:VC:=
 .r 8 [{op:=.bin 30 .add (.s 16) (.k (.int .i64 1))},
  M 16 30]
def c_Io_23:VC:=
 .seq (.blk 1 (.seq (.r 6 [oX 18 14 16 1,
  oL 19 18 1,
  M 7 19]) c_Io_27)) c_Io_28
def c_Io_19:VC:=
 .seq (.ite (.s 17) (.skip) (.exit 0)) c_Io_23
def c_Io_17:VC:=
 .seq (.r 5 [{op:=.bin 17 .lss (.s 16) (.s 15)}]) c_Io_19
def c_Io_15:VC:=
 .blk 0 (.loop [0,5,14,15,16] c_Io_17)
def c_Io_29:VC:=
 .seq (.r 9 [M 31 5,
  M 4 31]) (.ret)
def c_Io_12:VC:=
 .seq (.seq (.r 4 [M 14 1,
  {op:=.len 15 (.s 14)},
  oN 16 0]) c_Io_15) (.kp [5] c_Io_29)
def c_Io_10:VC:=
 .seq (.r 3 [oN 5 5]) c_Io_12
def c_Io_2:VC:=
 .seq (.seq (.r 1 [M 8 0,
  {op:=.bin 9 .eql (.s 8) (.k (.int .i64 25))}]) c_Io_5) c_Io_10
def c_Io_0:VC:=
 .seq (.r 0 [oN 4 0]) c_Io_2
def vf_Io:VF:={ pm:=[.ro [.sc],.ro [.ro [.sc]]],rm:=[.v [.sc]],nslots:=32,res:=[4],rc:=[],code:=.kp [0,1] c_Io_0 }
def c_Ia_9:VC:=
 .ite (.s 18) (.seq (.r 4 [{op:=.ld 19 (.s 3) 3 true},
  oS 2 19 3]) (.ret)) (.skip)
def c_Ia_22:VC:=
 .ite (.s 21) (.skip) (.exit 0)
def c_Ia_36:VC:=
 .ite (.s 28) (.skip) (.exit 2)
def c_Ia_44:VC:=
 .ite (.s 36) (.exit 3) (.skip)
def c_Ia_78:VC:=
 .ite (.s 54) (.skip) (.exit 6)
def c_Ia_87:VC:=
 .ite (.s 66) (.r 25 [M 67 14,
  M 68 15,
  M 12 67,
  M 13 68]) (.skip)
def c_Ia_85:VC:=
 .seq (.r 24 [M 60 13,
  {op:=.bin 61 .lss (.s 60) (.k (.int .i64 0))},
  M 62 61,
  ⟨none,[],some (62,false),.mv 63 (.s 15)⟩,
  ⟨none,[],some (62,false),.mv 64 (.s 13)⟩,
  ⟨none,[],some (62,false),.bin 65 .lss (.s 63) (.s 64)⟩,
  {op:=.pick 66 (.s 62) (.k (.bool true)) (.s 65)}]) (.kp [0,2,3,4,5,6,7,8,9,11,12,13,14,15,44,45,66] c_Ia_87)
def c_Ia_90:VC:=
 .r 22 [M 55 14,
  {op:=.bin 56 .add (.s 55) (.k (.int .i64 1))},
  M 14 56]
def c_Ia_81:VC:=
 .seq (.blk 7 (.seq (.r 23 [M 57 14,
  M 58 11,
  {op:=.call 59 71 [(.s 57),(.s 58)]},
  M 15 59]) c_Ia_85)) c_Ia_90
def c_Ia_75:VC:=
 .seq (.seq (.r 21 [M 53 14,
  {op:=.bin 54 .leq (.s 53) (.k (.int .i64 25))}]) c_Ia_78) c_Ia_81
def c_Ia_73:VC:=
 .blk 6 (.loop [0,2,3,4,5,6,7,8,9,11,12,13,14,44,45] c_Ia_75)
def c_Ia_93:VC:=
 .r 27 [M 75 9,
  M 76 13,
  {op:=.bin 77 .add (.s 75) (.s 76)},
  M 9 77]
def c_Ia_91:VC:=
 .seq (.r 26 [oF 69 8 2,
  oL 70 69 1,
  M 71 12,
  {op:=.lits 72 [.sc] [(.s 71)]},
  {op:=.app 73 (.s 70) (.s 72) [.sc] 17592186044416},
  oF 74 8 2,
  oS 74 73 1]) c_Ia_93
def c_Ia_70:VC:=
 .seq (.seq (.r 20 [oN 14 0]) c_Ia_73) (.kp [0,2,3,4,5,6,7,8,9,12,13,44,45] c_Ia_91)
def c_Ia_68:VC:=
 .seq (.r 19 [oN 12 0,
  oN 13 (-1)]) c_Ia_70
def c_Ia_66:VC:=
 .seq (.r 18 [M 48 5,
  M 49 7,
  M 50 6,
  M 51 10,
  ⟨none,[.fz 6 0],none,.call 52 35 [(.s 48),(.s 49),(.s 50),(.s 51)]⟩,
  M 11 52]) c_Ia_68
def c_Ia_94:VC:=
 .r 28 [{op:=.bin 78 .add (.s 45) (.k (.int .i64 1))},
  M 45 78]
def c_Ia_62:VC:=
 .seq (.blk 5 (.seq (.r 17 [M 47 45,
  M 10 47]) c_Ia_66)) c_Ia_94
def c_Ia_58:VC:=
 .seq (.ite (.s 46) (.skip) (.exit 4)) c_Ia_62
def c_Ia_56:VC:=
 .seq (.r 16 [{op:=.bin 46 .lss (.s 45) (.s 44)}]) c_Ia_58
def c_Ia_54:VC:=
 .blk 4 (.pre [.fz 6 0] (.loop [0,2,3,4,5,6,7,8,9,44,45] c_Ia_56))
def c_Ia_97:VC:=
 .ite (.s 85) (.r 30 [{op:=.ld 86 (.s 8) 3 true},
  M 87 9,
  oS 3 86 3,
  M 4 87]) (.skip)
def c_Ia_95:VC:=
 .seq (.r 29 [M 79 4,
  {op:=.bin 80 .lss (.s 79) (.k (.int .i64 0))},
  M 81 80,
  ⟨none,[],some (81,false),.mv 82 (.s 9)⟩,
  ⟨none,[],some (81,false),.mv 83 (.s 4)⟩,
  ⟨none,[],some (81,false),.bin 84 .lss (.s 82) (.s 83)⟩,
  {op:=.pick 85 (.s 81) (.k (.bool true)) (.s 84)}]) (.kp [0,2,3,4,5,6,7,8,9,85] c_Ia_97)
def c_Ia_51:VC:=
 .seq (.seq (.r 15 [M 43 7,
  {op:=.bin 44 .shl (.k (.int .i64 1)) (.s 43)},
  oN 45 0]) c_Ia_54) (.kp [0,2,3,4,5,6,7,8,9] c_Ia_95)
def c_Ia_49:VC:=
 .seq (.r 14 [M 40 5,
  {op:=.bin 41 .mul (.k (.int .i64 26)) (.s 40)},
  {op:=.bin 42 .add (.k (.int .i64 6)) (.s 41)},
  M 9 42]) c_Ia_51
def c_Ia_47:VC:=
 .seq (.r 13 [M 37 5,
  M 38 7,
  {op:=.bld 39 [.k (.int .i64 0),.k (.int .i64 0),.o [.sc]] [(0,1,(.s 37)),(1,1,(.s 38))]},
  {op:=.alloc 8 [.k (.int .i64 0),.k (.int .i64 0),.o [.sc]]},
  oS 8 39 3]) c_Ia_49
def c_Ia_100:VC:=
 .r 11 [M 29 7,
  {op:=.bin 30 .add (.s 29) (.k (.int .i64 1))},
  M 7 30]
def c_Ia_39:VC:=
 .seq (.blk 3 (.seq (.seq (.r 12 [M 31 5,
  M 32 7,
  M 33 0,
  {op:=.len 34 (.s 33)},
  {op:=.call 35 49 [(.s 31),(.s 32),(.s 34)]},
  {op:=.un 36 .not (.s 35)}]) c_Ia_44) c_Ia_47)) c_Ia_100
def c_Ia_33:VC:=
 .seq (.seq (.r 10 [M 27 7,
  {op:=.bin 28 .leq (.s 27) (.k (.int .i64 4))}]) c_Ia_36) c_Ia_39
def c_Ia_31:VC:=
 .blk 2 (.pre [.fz 6 0] (.loop [0,2,3,4,5,6,7] c_Ia_33))
def c_Ia_29:VC:=
 .seq (.r 9 [oN 7 0]) c_Ia_31
def c_Ia_101:VC:=
 .r 7 [M 22 5,
  {op:=.bin 23 .add (.s 22) (.k (.int .i64 1))},
  M 5 23]
def c_Ia_25:VC:=
 .seq (.blk 1 (.seq (.r 8 [M 24 5,
  M 25 0,
  {op:=.call 26 34 [(.s 24),(.s 25)]},
  M 6 26]) c_Ia_29)) (.kp [0,2,3,4,5] c_Ia_101)
def c_Ia_19:VC:=
 .seq (.seq (.r 6 [M 20 5,
  {op:=.bin 21 .leq (.s 20) (.k (.int .i64 4))}]) c_Ia_22) c_Ia_25
def c_Ia_17:VC:=
 .blk 0 (.loop [0,2,3,4,5] c_Ia_19)
def c_Ia_102:VC:=
 .seq (.r 31 [{op:=.ld 88 (.s 3) 3 true},
  oS 2 88 3]) (.ret)
def c_Ia_14:VC:=
 .seq (.seq (.r 5 [oN 5 0]) c_Ia_17) (.kp [2,3] c_Ia_102)
def c_Ia_6:VC:=
 .seq (.seq (.r 3 [M 16 0,
  {op:=.call 17 69 [(.s 16)]},
  {op:=.un 18 .not (.s 17)}]) c_Ia_9) c_Ia_14
def c_Ia_4:VC:=
 .seq (.r 2 [oN 4 (-1)]) c_Ia_6
def c_Ia_2:VC:=
 .seq (.r 1 [{op:=.alloc 3 [.k (.int .i64 0),.k (.int .i64 0),.o [.sc]]}]) c_Ia_4
def c_Ia_0:VC:=
 .seq (.r 0 [{op:=.alloc 2 [.k (.int .i64 0),.k (.int .i64 0),.o [.sc]]}]) c_Ia_2
def vf_Ia:VF:={ pm:=[.ro [.ro [.sc]]],rm:=[.v [.sc,.sc,.own [.sc]]],nslots:=89,res:=[2],rc:=[some (3,true)],code:=.kp [0] c_Ia_0 }
def c_If_5:VC:=
 .ite (.s 36) (.seq (.r 2 [oN 4 (-1)]) (.ret)) (.skip)
def c_If_29:VC:=
 .r 8 [M 53 6,
  M 54 8,
  oF 55 2 0,
  oL 56 55 1,
  oF 57 2 1,
  oL 58 57 1,
  M 59 5,
  M 60 7,
  ⟨none,[.fz 5 0],none,.call 61 35 [(.s 56),(.s 58),(.s 59),(.s 60)]⟩,
  {op:=.call 62 71 [(.s 54),(.s 61)]},
  {op:=.bin 63 .add (.s 53) (.s 62)},
  M 6 63]
def c_If_30:VC:=
 .r 9 [{op:=.bin 64 .add (.s 48) (.k (.int .i64 1))},
  M 48 64]
def c_If_25:VC:=
 .seq (.blk 1 (.seq (.r 7 [M 50 48,
  oX 51 46 48 1,
  oL 52 51 1,
  M 7 50,
  M 8 52]) c_If_29)) c_If_30
def c_If_21:VC:=
 .seq (.ite (.s 49) (.skip) (.exit 0)) c_If_25
def c_If_19:VC:=
 .seq (.r 6 [{op:=.bin 49 .lss (.s 48) (.s 47)}]) c_If_21
def c_If_17:VC:=
 .blk 0 (.pre [.fz 5 0] (.loop [2,5,6,46,47,48] c_If_19))
def c_If_31:VC:=
 .seq (.r 10 [M 65 6,
  M 4 65]) (.ret)
def c_If_14:VC:=
 .seq (.seq (.r 5 [oF 45 2 2,
  oL 46 45 1,
  {op:=.len 47 (.s 46)},
  oN 48 0]) c_If_17) (.kp [6] c_If_31)
def c_If_12:VC:=
 .seq (.r 4 [oF 41 2 0,
  oL 42 41 1,
  {op:=.bin 43 .mul (.k (.int .i64 26)) (.s 42)},
  {op:=.bin 44 .add (.k (.int .i64 6)) (.s 43)},
  M 6 44]) c_If_14
def c_If_10:VC:=
 .seq (.r 3 [oF 37 2 0,
  oL 38 37 1,
  M 39 1,
  {op:=.call 40 34 [(.s 38),(.s 39)]},
  M 5 40]) c_If_12
def c_If_2:VC:=
 .seq (.seq (.d 1 [(0,M 9 1),
  (1,{op:=.call 10 69 [(.s 9)]}),
  (2,{op:=.un 11 .not (.s 10)}),
  (3,M 12 11),
  (4,⟨none,[],some (12,false),.fadv 13 (.s 2) 0⟩),
  (5,⟨none,[],some (12,false),.ldv 14 (.s 13) 1 false⟩),
  (6,⟨none,[],some (12,false),.fadv 15 (.s 2) 1⟩),
  (7,⟨none,[],some (12,false),.ldv 16 (.s 15) 1 false⟩),
  (8,⟨none,[],some (12,false),.mv 17 (.s 1)⟩),
  (9,⟨none,[],some (12,false),.len 18 (.s 17)⟩),
  (10,⟨none,[],some (12,false),.call 19 49 [(.s 14),(.s 16),(.s 18)]⟩),
  (11,⟨none,[],some (12,false),.un 20 .not (.s 19)⟩),
  (12,{op:=.pick 21 (.s 12) (.k (.bool true)) (.s 20)}),
  (13,M 22 21),
  (14,⟨none,[],some (22,false),.fadv 23 (.s 2) 2⟩),
  (15,⟨none,[],some (22,false),.ldv 24 (.s 23) 1 false⟩),
  (16,⟨none,[],some (22,false),.len 25 (.s 24)⟩),
  (17,⟨none,[],some (22,false),.fadv 26 (.s 2) 1⟩),
  (18,⟨none,[],some (22,false),.ldv 27 (.s 26) 1 false⟩),
  (19,⟨none,[],some (22,false),.bin 28 .shl (.k (.int .i64 1)) (.s 27)⟩),
  (20,⟨none,[],some (22,false),.bin 29 .neq (.s 25) (.s 28)⟩),
  (21,{op:=.pick 30 (.s 22) (.k (.bool true)) (.s 29)}),
  (22,M 31 30),
  (23,⟨none,[],some (31,false),.fadv 32 (.s 2) 2⟩),
  (24,⟨none,[],some (31,false),.ldv 33 (.s 32) 1 false⟩),
  (25,⟨none,[],some (31,false),.call 34 55 [(.s 33),(.k (.int .i64 0)),(.k (.int .i64 25)),(.k (.int .i64 16))]⟩),
  (26,⟨none,[],some (31,false),.un 35 .not (.s 34)⟩),
  (27,{op:=.pick 36 (.s 31) (.k (.bool true)) (.s 35)})]) c_If_5) c_If_10
def c_If_0:VC:=
 .seq (.r 0 [{op:=.box 2 (.s 0)},
  oN 4 0]) c_If_2
def vf_If:VF:={ pm:=[.ro [.sc,.sc,.ro [.sc]],.ro [.ro [.sc]]],rm:=[.v [.sc]],nslots:=66,res:=[4],rc:=[],code:=.kp [0,1] c_If_0 }
def c_Ik_16:VC:=
 .r 4 [{op:=.bin 16 .add (.s 12) (.k (.int .u64 1))},
  M 12 16]
def c_Ik_13:VC:=
 .seq (.blk 1 (.r 3 [M 14 0,
  {op:=.call 15 68 [(.s 14),(.k (.int .i64 0))]}])) c_Ik_16
def c_Ik_9:VC:=
 .seq (.ite (.s 13) (.skip) (.exit 0)) c_Ik_13
def c_Ik_7:VC:=
 .seq (.r 2 [{op:=.bin 13 .lss (.s 12) (.s 11)}]) c_Ik_9
def c_Ik_5:VC:=
 .blk 0 (.loop [0,2,6,11,12] c_Ik_7)
def c_Ik_19:VC:=
 .r 6 [M 19 0,
  M 20 2,
  M 21 6,
  {op:=.call 22 30 [(.s 19),(.s 20),(.s 21)]}]
def c_Ik_17:VC:=
 .seq (.r 5 [M 17 0,
  {op:=.call 18 68 [(.s 17),(.k (.int .i64 1))]}]) c_Ik_19
def c_Ik_2:VC:=
 .seq (.seq (.r 1 [M 9 6,
  M 10 2,
  {op:=.bin 11 .shr (.s 9) (.s 10)},
  {op:=.mv 12 (.k (.int .u64 0))}]) c_Ik_5) (.kp [0,2,6] c_Ik_17)
def c_Ik_0:VC:=
 .seq (.r 0 [M 7 1,
  {op:=.call 8 73 [(.s 7)]},
  M 6 8]) c_Ik_2
def vf_Ik:VF:={ pm:=[.mb [.own [.sc],.sc],.ro [.sc],.ro [.sc]],rm:=[],nslots:=23,res:=[],rc:=[],code:=.kp [0,1,2] c_Ik_0 }
def c_Ib_34:VC:=
 .r 9 [{op:=.bin 24 .add (.s 16) (.k (.int .i64 1))},
  M 16 24]
def c_Ib_31:VC:=
 .seq (.blk 3 (.r 8 [M 18 3,
  {op:=.bin 19 .shr (.s 18) (.k (.int .u64 1))},
  M 20 3,
  {op:=.bin 21 .and (.s 20) (.k (.int .u32 1))},
  {op:=.bin 22 .mul (.k (.int .u32 3988292384)) (.s 21)},
  {op:=.bin 23 .xor (.s 19) (.s 22)},
  M 3 23])) c_Ib_34
def c_Ib_27:VC:=
 .seq (.ite (.s 17) (.skip) (.exit 2)) c_Ib_31
def c_Ib_25:VC:=
 .seq (.r 7 [{op:=.bin 17 .lss (.s 16) (.k (.int .i64 8))}]) c_Ib_27
def c_Ib_23:VC:=
 .blk 2 (.loop [3,6,7,8,16] c_Ib_25)
def c_Ib_21:VC:=
 .seq (.r 6 [oN 16 0]) c_Ib_23
def c_Ib_19:VC:=
 .seq (.r 5 [M 12 3,
  M 13 5,
  {op:=.conv 14 .u32 (.s 13)},
  {op:=.bin 15 .xor (.s 12) (.s 14)},
  M 3 15]) c_Ib_21
def c_Ib_35:VC:=
 .r 10 [{op:=.bin 25 .add (.s 8) (.k (.int .i64 1))},
  M 8 25]
def c_Ib_15:VC:=
 .seq (.blk 1 (.seq (.r 4 [oX 10 6 8 1,
  oL 11 10 1,
  M 5 11]) c_Ib_19)) (.kp [3,6,7,8] c_Ib_35)
def c_Ib_11:VC:=
 .seq (.ite (.s 9) (.skip) (.exit 0)) c_Ib_15
def c_Ib_9:VC:=
 .seq (.r 3 [{op:=.bin 9 .lss (.s 8) (.s 7)}]) c_Ib_11
def c_Ib_7:VC:=
 .blk 0 (.loop [3,6,7,8] c_Ib_9)
def c_Ib_36:VC:=
 .seq (.r 11 [M 26 3,
  {op:=.un 27 .xor (.s 26)},
  M 2 27]) (.ret)
def c_Ib_4:VC:=
 .seq (.seq (.r 2 [M 6 0,
  {op:=.len 7 (.s 6)},
  oN 8 0]) c_Ib_7) (.kp [3] c_Ib_36)
def c_Ib_2:VC:=
 .seq (.r 1 [{op:=.mv 3 (.k (.int .u32 4294967295))}]) c_Ib_4
def c_Ib_0:VC:=
 .seq (.r 0 [{op:=.mv 2 (.k (.int .u32 0))}]) c_Ib_2
def vf_Ib:VF:={ pm:=[.ro [.ro [.sc]]],rm:=[.v [.sc]],nslots:=28,res:=[2],rc:=[],code:=.kp [0] c_Ib_0 }
def c_Ic_5:VC:=
 .ite (.s 30) (.seq (.r 2 [{op:=.nil 2 [.sc]}]) (.ret)) (.skip)
def c_Ic_27:VC:=
 .r 7 [M 39 3,
  M 40 5,
  {op:=.conv 41 .u64 (.s 40)},
  {op:=.call 42 30 [(.s 39),(.k (.int .i64 8)),(.s 41)]}]
def c_Ic_28:VC:=
 .r 8 [{op:=.bin 43 .add (.s 35) (.k (.int .i64 1))},
  M 35 43]
def c_Ic_23:VC:=
 .seq (.blk 1 (.seq (.r 6 [oX 37 33 35 1,
  oL 38 37 1,
  M 5 38]) c_Ic_27)) c_Ic_28
def c_Ic_19:VC:=
 .seq (.ite (.s 36) (.skip) (.exit 0)) c_Ic_23
def c_Ic_17:VC:=
 .seq (.r 5 [{op:=.bin 36 .lss (.s 35) (.s 34)}]) c_Ic_19
def c_Ic_15:VC:=
 .blk 0 (.loop [1,3,33,34,35] c_Ic_17)
def c_Ic_51:VC:=
 .ite (.s 81) (.skip) (.exit 2)
def c_Ic_88:VC:=
 .ite (.s 141) (.r 30 [M 142 13,
  M 143 16,
  M 144 14,
  M 145 15,
  ⟨none,[.fz 15 0,.fz 14 0],none,.lits 146 [.ro [.sc]] [(.s 144),(.s 145)]⟩,
  M 11 142,
  M 12 143,
  M 10 146]) (.skip)
def c_Ic_86:VC:=
 .seq (.r 29 [M 135 12,
  {op:=.bin 136 .lss (.s 135) (.k (.int .i64 0))},
  M 137 136,
  ⟨none,[],some (137,false),.mv 138 (.s 16)⟩,
  ⟨none,[],some (137,false),.mv 139 (.s 12)⟩,
  ⟨none,[],some (137,false),.bin 140 .lss (.s 138) (.s 139)⟩,
  {op:=.pick 141 (.s 137) (.k (.bool true)) (.s 140)}]) (.kp [1,6,7,8,9,10,11,12,13,14,15,16,104,141] c_Ic_88)
def c_Ic_84:VC:=
 .seq (.r 28 [M 126 14,
  {op:=.call 127 33 [(.s 126)]},
  M 128 14,
  {op:=.call 129 32 [(.s 127),(.s 128)]},
  M 130 15,
  {op:=.call 131 33 [(.s 130)]},
  M 132 15,
  {op:=.call 133 32 [(.s 131),(.s 132)]},
  {op:=.bin 134 .add (.s 129) (.s 133)},
  M 16 134]) c_Ic_86
def c_Ic_82:VC:=
 .seq (.d 27 [(0,M 108 13),
  (1,oG 109 1 3),
  (2,oV 110 109 1),
  (3,{op:=.iadr 111 (.s 110) (.k (.int .i64 0)) 1}),
  (4,oV 112 111 1),
  (5,M 113 8),
  (6,M 114 9),
  (7,{op:=.slc 115 (.s 112) (some (.s 113)) (some (.s 114)) 1}),
  (8,oG 116 1 3),
  (9,oV 117 116 1),
  (10,{op:=.iadr 118 (.s 117) (.k (.int .i64 1)) 1}),
  (11,oV 119 118 1),
  (12,M 120 8),
  (13,M 121 9),
  (14,{op:=.slc 122 (.s 119) (some (.s 120)) (some (.s 121)) 1}),
  (15,{op:=.call 123 31 [(.s 108),(.s 115),(.s 122)]}),
  (16,M 107 123),
  (17,{op:=.ext 124 (.s 107) 0}),
  (18,{op:=.ext 125 (.s 107) 1}),
  (19,M 14 124),
  (20,M 15 125)]) c_Ic_84
def c_Ic_91:VC:=
 .r 31 [{op:=.bin 147 .add (.s 104) (.k (.int .i64 1))},
  M 104 147]
def c_Ic_78:VC:=
 .seq (.blk 5 (.seq (.r 26 [M 106 104,
  M 13 106]) c_Ic_82)) c_Ic_91
def c_Ic_74:VC:=
 .seq (.ite (.s 105) (.skip) (.exit 4)) c_Ic_78
def c_Ic_72:VC:=
 .seq (.r 25 [{op:=.bin 105 .lss (.s 104) (.k (.int .i64 3))}]) c_Ic_74
def c_Ic_70:VC:=
 .blk 4 (.loop [1,6,7,8,9,10,11,12,104] c_Ic_72)
def c_Ic_68:VC:=
 .seq (.r 24 [oN 104 0]) c_Ic_70
def c_Ic_65:VC:=
 .ite (.s 103) (.seq (.r 23 [oN 12 (-1)]) c_Ic_68) (.skip)
def c_Ic_133:VC:=
 .r 43 [M 176 17,
  M 177 21,
  M 178 22,
  oX 179 177 178 1,
  oL 180 179 1,
  {op:=.conv 181 .u64 (.s 180)},
  {op:=.call 182 30 [(.s 176),(.k (.int .i64 26)),(.s 181)]}]
def c_Ic_134:VC:=
 .r 44 [{op:=.bin 183 .add (.s 173) (.k (.int .i64 1))},
  M 173 183]
def c_Ic_129:VC:=
 .seq (.blk 9 (.seq (.r 42 [M 175 173,
  M 22 175]) c_Ic_133)) c_Ic_134
def c_Ic_125:VC:=
 .seq (.ite (.s 174) (.skip) (.exit 8)) c_Ic_129
def c_Ic_123:VC:=
 .seq (.r 41 [{op:=.bin 174 .lss (.s 173) (.s 172)}]) c_Ic_125
def c_Ic_121:VC:=
 .blk 8 (.loop [1,6,7,8,17,20,21,154,155,156,172,173] c_Ic_123)
def c_Ic_169:VC:=
 .ite (.s 214) (.r 54 [M 215 17,
  M 216 26,
  {op:=.conv 217 .u64 (.s 216)},
  {op:=.call 218 30 [(.s 215),(.k (.int .i64 32)),(.s 217)]}]) (.r 55 [M 219 17,
  M 220 26,
  M 221 24,
  {op:=.call 222 36 [(.s 219),(.s 220),(.s 221)]}])
def c_Ic_167:VC:=
 .seq (.r 53 [M 213 24,
  {op:=.bin 214 .eql (.s 213) (.k (.int .i64 25))}]) c_Ic_169
def c_Ic_172:VC:=
 .r 56 [{op:=.bin 223 .add (.s 209) (.k (.int .i64 1))},
  M 209 223]
def c_Ic_163:VC:=
 .seq (.blk 13 (.seq (.r 52 [oX 211 207 209 1,
  oL 212 211 1,
  M 26 212]) c_Ic_167)) c_Ic_172
def c_Ic_159:VC:=
 .seq (.ite (.s 210) (.skip) (.exit 12)) c_Ic_163
def c_Ic_157:VC:=
 .seq (.r 51 [{op:=.bin 210 .lss (.s 209) (.s 208)}]) c_Ic_159
def c_Ic_155:VC:=
 .blk 12 (.loop [1,6,7,8,17,20,21,24,154,155,156,190,191,192,207,208,209] c_Ic_157)
def c_Ic_153:VC:=
 .seq (.r 50 [oF 201 20 0,
  oL 202 201 1,
  oF 203 20 1,
  oL 204 203 1,
  M 205 21,
  M 206 23,
  ⟨none,[.fz 21 0],none,.call 207 35 [(.s 202),(.s 204),(.s 205),(.s 206)]⟩,
  {op:=.len 208 (.s 207)},
  oN 209 0]) c_Ic_155
def c_Ic_151:VC:=
 .seq (.r 49 [M 197 17,
  M 198 24,
  {op:=.conv 199 .u64 (.s 198)},
  {op:=.call 200 30 [(.s 197),(.k (.int .i64 5)),(.s 199)]}]) c_Ic_153
def c_Ic_173:VC:=
 .r 57 [{op:=.bin 224 .add (.s 192) (.k (.int .i64 1))},
  M 192 224]
def c_Ic_147:VC:=
 .seq (.blk 11 (.seq (.r 48 [M 194 192,
  oX 195 190 192 1,
  oL 196 195 1,
  M 23 194,
  M 24 196]) c_Ic_151)) (.kp [1,6,7,8,17,20,21,154,155,156,190,191,192] c_Ic_173)
def c_Ic_143:VC:=
 .seq (.ite (.s 193) (.skip) (.exit 10)) c_Ic_147
def c_Ic_141:VC:=
 .seq (.r 47 [{op:=.bin 193 .lss (.s 192) (.s 191)}]) c_Ic_143
def c_Ic_139:VC:=
 .blk 10 (.pre [.fz 21 0] (.loop [1,6,7,8,17,20,21,154,155,156,190,191,192] c_Ic_141))
def c_Ic_137:VC:=
 .seq (.r 46 [oF 189 20 2,
  oL 190 189 1,
  {op:=.len 191 (.s 190)},
  oN 192 0]) c_Ic_139
def c_Ic_135:VC:=
 .seq (.r 45 [M 184 17,
  oF 185 20 1,
  oL 186 185 1,
  {op:=.conv 187 .u64 (.s 186)},
  {op:=.call 188 30 [(.s 184),(.k (.int .i64 3)),(.s 187)]}]) c_Ic_137
def c_Ic_118:VC:=
 .seq (.seq (.r 40 [oF 171 20 0,
  oL 172 171 1,
  oN 173 0]) c_Ic_121) (.kp [1,6,7,8,17,20,21,154,155,156] c_Ic_135)
def c_Ic_116:VC:=
 .seq (.r 39 [M 166 17,
  oF 167 20 0,
  oL 168 167 1,
  {op:=.conv 169 .u64 (.s 168)},
  {op:=.call 170 30 [(.s 166),(.k (.int .i64 3)),(.s 169)]}]) c_Ic_118
def c_Ic_114:VC:=
 .seq (.r 38 [oF 162 20 0,
  oL 163 162 1,
  M 164 19,
  {op:=.call 165 34 [(.s 163),(.s 164)]},
  M 21 165]) c_Ic_116
def c_Ic_112:VC:=
 .seq (.r 37 [M 160 19,
  {op:=.call 161 33 [(.s 160)]},
  {op:=.alloc 20 [.k (.int .i64 0),.k (.int .i64 0),.o [.sc]]},
  oS 20 161 3]) c_Ic_114
def c_Ic_174:VC:=
 .r 58 [{op:=.bin 225 .add (.s 156) (.k (.int .i64 1))},
  M 156 225]
def c_Ic_108:VC:=
 .seq (.blk 7 (.seq (.r 36 [oX 158 154 156 1,
  oL 159 158 1,
  M 19 159]) c_Ic_112)) (.kp [1,6,7,8,17,154,155,156] c_Ic_174)
def c_Ic_104:VC:=
 .seq (.ite (.s 157) (.skip) (.exit 6)) c_Ic_108
def c_Ic_102:VC:=
 .seq (.r 35 [{op:=.bin 157 .lss (.s 156) (.s 155)}]) c_Ic_104
def c_Ic_100:VC:=
 .blk 6 (.loop [1,6,7,8,17,154,155,156] c_Ic_102)
def c_Ic_177:VC:=
 .r 60 [M 231 7,
  M 232 17,
  {op:=.nck 233 (.s 232)},
  oF 234 233 0,
  oL 235 234 1,
  {op:=.app 236 (.s 231) (.s 235) [.sc] 140737488355328},
  M 237 27,
  {op:=.bin 238 .shr (.s 237) (.k (.int .u64 8))},
  {op:=.conv 239 .u8 (.s 238)},
  M 240 27,
  {op:=.conv 241 .u8 (.s 240)},
  {op:=.lits 242 [.sc] [(.s 239),(.s 241)]},
  {op:=.app 243 (.s 236) (.s 242) [.sc] 140737488355328},
  M 7 243]
def c_Ic_175:VC:=
 .seq (.r 59 [M 226 17,
  {op:=.nck 227 (.s 226)},
  oF 228 227 0,
  oL 229 228 1,
  {op:=.call 230 37 [(.s 229)]},
  M 27 230]) c_Ic_177
def c_Ic_97:VC:=
 .seq (.seq (.r 34 [M 154 10,
  {op:=.len 155 (.s 154)},
  oN 156 0]) c_Ic_100) (.kp [1,6,7,8,17] c_Ic_175)
def c_Ic_95:VC:=
 .seq (.r 33 [M 150 17,
  M 151 11,
  {op:=.conv 152 .u64 (.s 151)},
  {op:=.call 153 30 [(.s 150),(.k (.int .i64 2)),(.s 152)]}]) c_Ic_97
def c_Ic_93:VC:=
 .seq (.r 32 [{op:=.bld 148 [.o [.sc],.k (.int .i64 0)] []},
  {op:=.box 149 (.s 148)},
  M 17 149]) c_Ic_95
def c_Ic_62:VC:=
 .seq (.seq (.r 22 [oF 100 1 3,
  oL 101 100 1,
  {op:=.len 102 (.s 101)},
  {op:=.bin 103 .eql (.s 102) (.k (.int .i64 2))}]) c_Ic_65) (.kp [1,6,7,8,10,11] c_Ic_93)
def c_Ic_60:VC:=
 .seq (.r 21 [oN 11 0]) c_Ic_62
def c_Ic_58:VC:=
 .seq (.r 20 [oF 92 1 3,
  oL 93 92 1,
  {op:=.iadr 94 (.s 93) (.k (.int .i64 0)) 1},
  oL 95 94 1,
  M 96 8,
  M 97 9,
  {op:=.slc 98 (.s 95) (some (.s 96)) (some (.s 97)) 1},
  {op:=.lits 99 [.ro [.sc]] [(.s 98)]},
  M 10 99]) c_Ic_60
def c_Ic_178:VC:=
 .r 18 [M 82 8,
  oF 83 1 2,
  oL 84 83 1,
  {op:=.bin 85 .add (.s 82) (.s 84)},
  M 8 85]
def c_Ic_54:VC:=
 .seq (.blk 3 (.seq (.r 19 [M 86 8,
  oF 87 1 2,
  oL 88 87 1,
  {op:=.bin 89 .add (.s 86) (.s 88)},
  M 90 6,
  {op:=.mn 91 (.s 89) (.s 90)},
  M 9 91]) c_Ic_58)) c_Ic_178
def c_Ic_48:VC:=
 .seq (.seq (.r 17 [M 79 8,
  M 80 6,
  {op:=.bin 81 .lss (.s 79) (.s 80)}]) c_Ic_51) c_Ic_54
def c_Ic_46:VC:=
 .blk 2 (.loop [1,6,7,8] c_Ic_48)
def c_Ic_179:VC:=
 .seq (.r 61 [M 244 7,
  M 2 244]) (.ret)
def c_Ic_43:VC:=
 .seq (.seq (.r 16 [oN 8 0]) c_Ic_46) (.kp [7] c_Ic_179)
def c_Ic_41:VC:=
 .seq (.r 15 [M 75 3,
  {op:=.nck 76 (.s 75)},
  oF 77 76 0,
  oL 78 77 1,
  M 7 78]) c_Ic_43
def c_Ic_39:VC:=
 .seq (.r 14 [M 71 3,
  M 72 6,
  {op:=.conv 73 .u64 (.s 72)},
  {op:=.call 74 30 [(.s 71),(.k (.int .i64 12)),(.s 73)]}]) c_Ic_41
def c_Ic_37:VC:=
 .seq (.r 13 [M 64 3,
  oF 65 1 3,
  oL 66 65 1,
  {op:=.len 67 (.s 66)},
  {op:=.bin 68 .sub (.s 67) (.k (.int .i64 1))},
  {op:=.conv 69 .u64 (.s 68)},
  {op:=.call 70 30 [(.s 64),(.k (.int .i64 1)),(.s 69)]}]) c_Ic_39
def c_Ic_35:VC:=
 .seq (.r 12 [M 59 3,
  oF 60 1 2,
  oL 61 60 1,
  {op:=.conv 62 .u64 (.s 61)},
  {op:=.call 63 30 [(.s 59),(.k (.int .i64 10)),(.s 62)]}]) c_Ic_37
def c_Ic_33:VC:=
 .seq (.r 11 [M 54 3,
  oF 55 1 1,
  oL 56 55 1,
  {op:=.conv 57 .u64 (.s 56)},
  {op:=.call 58 30 [(.s 54),(.k (.int .i64 5)),(.s 57)]}]) c_Ic_35
def c_Ic_31:VC:=
 .seq (.r 10 [M 49 3,
  oF 50 1 0,
  oL 51 50 1,
  {op:=.conv 52 .u64 (.s 51)},
  {op:=.call 53 30 [(.s 49),(.k (.int .i64 20)),(.s 52)]}]) c_Ic_33
def c_Ic_29:VC:=
 .seq (.r 9 [oF 44 1 3,
  oL 45 44 1,
  {op:=.iadr 46 (.s 45) (.k (.int .i64 0)) 1},
  oL 47 46 1,
  {op:=.len 48 (.s 47)},
  M 6 48]) c_Ic_31
def c_Ic_12:VC:=
 .seq (.seq (.r 4 [{op:=.lits 33 [.sc] [(.k (.int .u8 83)),(.k (.int .u8 78)),(.k (.int .u8 68)),(.k (.int .u8 49))]},
  {op:=.len 34 (.s 33)},
  oN 35 0]) c_Ic_15) (.kp [1,3] c_Ic_29)
def c_Ic_10:VC:=
 .seq (.r 3 [{op:=.bld 31 [.o [.sc],.k (.int .i64 0)] []},
  {op:=.box 32 (.s 31)},
  M 3 32]) c_Ic_12
def c_Ic_2:VC:=
 .seq (.seq (.r 1 [{op:=.ld 28 (.s 1) 4 true},
  {op:=.call 29 29 [(.s 28)]},
  {op:=.un 30 .not (.s 29)}]) c_Ic_5) c_Ic_10
def c_Ic_0:VC:=
 .seq (.r 0 [{op:=.box 1 (.s 0)},
  {op:=.nil 2 [.sc]}]) c_Ic_2
def vf_Ic:VF:={ pm:=[.ro [.sc,.sc,.sc,.ro [.ro [.sc]]]],rm:=[.v [.own [.sc]]],nslots:=245,res:=[2],rc:=[],code:=.kp [0] c_Ic_0 }
def c_La_5:VC:=
 .ite (.s 10) (.seq (.r 2 [oK 4 false]) (.ret)) (.skip)
def c_La_18:VC:=
 .ite (.s 14) (.skip) (.exit 0)
def c_La_25:VC:=
 .ite (.s 25) (.seq (.r 7 [oK 4 false]) (.ret)) (.skip)
def c_La_30:VC:=
 .r 5 [M 15 5,
  {op:=.bin 16 .add (.s 15) (.k (.int .i64 1))},
  M 5 16]
def c_La_21:VC:=
 .seq (.blk 1 (.seq (.d 6 [(0,M 17 0),
  (1,M 18 5),
  (2,oX 19 17 18 1),
  (3,oV 20 19 1),
  (4,M 21 1),
  (5,M 22 5),
  (6,oX 23 21 22 1),
  (7,oV 24 23 1),
  (8,{op:=.bin 25 .neq (.s 20) (.s 24)})]) c_La_25)) c_La_30
def c_La_15:VC:=
 .seq (.seq (.r 4 [M 11 5,
  M 12 0,
  {op:=.len 13 (.s 12)},
  {op:=.bin 14 .lss (.s 11) (.s 13)}]) c_La_18) c_La_21
def c_La_13:VC:=
 .blk 0 (.loop [0,1,5] c_La_15)
def c_La_31:VC:=
 .seq (.r 8 [oK 4 true]) (.ret)
def c_La_10:VC:=
 .seq (.seq (.r 3 [oN 5 0]) c_La_13) (.kp [] c_La_31)
def c_La_2:VC:=
 .seq (.seq (.r 1 [M 6 0,
  {op:=.len 7 (.s 6)},
  M 8 1,
  {op:=.len 9 (.s 8)},
  {op:=.bin 10 .neq (.s 7) (.s 9)}]) c_La_5) c_La_10
def c_La_0:VC:=
 .seq (.r 0 [oK 4 false]) c_La_2
def vf_La:VF:={ pm:=[.ro [.ro [.sc]],.ro [.ro [.sc]]],rm:=[.v [.sc]],nslots:=26,res:=[4],rc:=[],code:=.kp [0,1] c_La_0 }
def c_Lb_5:VC:=
 .ite (.s 10) (.seq (.r 2 [oK 4 false]) (.ret)) (.skip)
def c_Lb_18:VC:=
 .ite (.s 14) (.skip) (.exit 0)
def c_Lb_25:VC:=
 .ite (.s 25) (.seq (.r 7 [oK 4 false]) (.ret)) (.skip)
def c_Lb_30:VC:=
 .r 5 [M 15 5,
  {op:=.bin 16 .add (.s 15) (.k (.int .i64 1))},
  M 5 16]
def c_Lb_21:VC:=
 .seq (.blk 1 (.seq (.d 6 [(0,M 17 0),
  (1,M 18 5),
  (2,oX 19 17 18 1),
  (3,oV 20 19 1),
  (4,M 21 1),
  (5,M 22 5),
  (6,oX 23 21 22 1),
  (7,oV 24 23 1),
  (8,{op:=.bin 25 .neq (.s 20) (.s 24)})]) c_Lb_25)) c_Lb_30
def c_Lb_15:VC:=
 .seq (.seq (.r 4 [M 11 5,
  M 12 0,
  {op:=.len 13 (.s 12)},
  {op:=.bin 14 .lss (.s 11) (.s 13)}]) c_Lb_18) c_Lb_21
def c_Lb_13:VC:=
 .blk 0 (.loop [0,1,5] c_Lb_15)
def c_Lb_31:VC:=
 .seq (.r 8 [oK 4 true]) (.ret)
def c_Lb_10:VC:=
 .seq (.seq (.r 3 [oN 5 0]) c_Lb_13) (.kp [] c_Lb_31)
def c_Lb_2:VC:=
 .seq (.seq (.r 1 [M 6 0,
  {op:=.len 7 (.s 6)},
  M 8 1,
  {op:=.len 9 (.s 8)},
  {op:=.bin 10 .neq (.s 7) (.s 9)}]) c_Lb_5) c_Lb_10
def c_Lb_0:VC:=
 .seq (.r 0 [oK 4 false]) c_Lb_2
def vf_Lb:VF:={ pm:=[.ro [.ro [.sc]],.ro [.ro [.sc]]],rm:=[.v [.sc]],nslots:=26,res:=[4],rc:=[],code:=.kp [0,1] c_Lb_0 }
def c_Lc_5:VC:=
 .ite (.s 10) (.seq (.r 2 [oK 4 false]) (.ret)) (.skip)
def c_Lc_18:VC:=
 .ite (.s 14) (.skip) (.exit 0)
def c_Lc_25:VC:=
 .ite (.s 26) (.seq (.r 7 [oK 4 false]) (.ret)) (.skip)
def c_Lc_30:VC:=
 .r 5 [M 15 5,
  {op:=.bin 16 .add (.s 15) (.k (.int .i64 1))},
  M 5 16]
def c_Lc_21:VC:=
 .seq (.blk 1 (.seq (.d 6 [(0,M 17 0),
  (1,M 18 5),
  (2,oX 19 17 18 1),
  (3,oV 20 19 1),
  (4,M 21 1),
  (5,M 22 5),
  (6,oX 23 21 22 1),
  (7,oV 24 23 1),
  (8,{op:=.call 25 74 [(.s 20),(.s 24)]}),
  (9,{op:=.un 26 .not (.s 25)})]) c_Lc_25)) c_Lc_30
def c_Lc_15:VC:=
 .seq (.seq (.r 4 [M 11 5,
  M 12 0,
  {op:=.len 13 (.s 12)},
  {op:=.bin 14 .lss (.s 11) (.s 13)}]) c_Lc_18) c_Lc_21
def c_Lc_13:VC:=
 .blk 0 (.loop [0,1,5] c_Lc_15)
def c_Lc_31:VC:=
 .seq (.r 8 [oK 4 true]) (.ret)
def c_Lc_10:VC:=
 .seq (.seq (.r 3 [oN 5 0]) c_Lc_13) (.kp [] c_Lc_31)
def c_Lc_2:VC:=
 .seq (.seq (.r 1 [M 6 0,
  {op:=.len 7 (.s 6)},
  M 8 1,
  {op:=.len 9 (.s 8)},
  {op:=.bin 10 .neq (.s 7) (.s 9)}]) c_Lc_5) c_Lc_10
def c_Lc_0:VC:=
 .seq (.r 0 [oK 4 false]) c_Lc_2
def vf_Lc:VF:={ pm:=[.ro [.ro [.ro [.sc]]],.ro [.ro [.ro [.sc]]]],rm:=[.v [.sc]],nslots:=27,res:=[4],rc:=[],code:=.kp [0,1] c_Lc_0 }
def c_Ld_5:VC:=
 .ite (.s 9) (.seq (.r 2 [oK 4 false]) (.ret)) (.skip)
def c_Ld_13:VC:=
 .ite (.s 14) (.seq (.r 4 [oK 4 false]) (.ret)) (.skip)
def c_Ld_21:VC:=
 .ite (.s 19) (.seq (.r 6 [oK 4 false]) (.ret)) (.skip)
def c_Ld_29:VC:=
 .ite (.s 25) (.seq (.r 8 [oK 4 false]) (.ret)) (.skip)
def c_Ld_34:VC:=
 .seq (.r 9 [oK 4 true]) (.ret)
def c_Ld_26:VC:=
 .seq (.seq (.r 7 [oF 20 2 3,
  oL 21 20 1,
  oF 22 3 3,
  oL 23 22 1,
  {op:=.call 24 38 [(.s 21),(.s 23)]},
  {op:=.un 25 .not (.s 24)}]) c_Ld_29) c_Ld_34
def c_Ld_18:VC:=
 .seq (.seq (.r 5 [oF 15 2 2,
  oL 16 15 1,
  oF 17 3 2,
  oL 18 17 1,
  {op:=.bin 19 .neq (.s 16) (.s 18)}]) c_Ld_21) c_Ld_26
def c_Ld_10:VC:=
 .seq (.seq (.r 3 [oF 10 2 1,
  oL 11 10 1,
  oF 12 3 1,
  oL 13 12 1,
  {op:=.bin 14 .neq (.s 11) (.s 13)}]) c_Ld_13) c_Ld_18
def c_Ld_2:VC:=
 .seq (.seq (.r 1 [oF 5 2 0,
  oL 6 5 1,
  oF 7 3 0,
  oL 8 7 1,
  {op:=.bin 9 .neq (.s 6) (.s 8)}]) c_Ld_5) c_Ld_10
def c_Ld_0:VC:=
 .seq (.r 0 [{op:=.box 2 (.s 0)},
  {op:=.box 3 (.s 1)},
  oK 4 false]) c_Ld_2
def vf_Ld:VF:={ pm:=[.ro [.sc,.sc,.sc,.ro [.ro [.sc]]],.ro [.sc,.sc,.sc,.ro [.ro [.sc]]]],rm:=[.v [.sc]],nslots:=26,res:=[4],rc:=[],code:=.kp [0,1] c_Ld_0 }
def c_Lg_10:VC:=
 .ite (.s 9) (.skip) (.exit 0)
def c_Lg_17:VC:=
 .r 5 [M 16 1,
  {op:=.bin 17 .add (.s 16) (.k (.int .i64 1))},
  M 1 17]
def c_Lg_18:VC:=
 .r 3 [M 10 5,
  {op:=.bin 11 .add (.s 10) (.k (.int .i64 1))},
  M 5 11]
def c_Lg_13:VC:=
 .seq (.blk 1 (.seq (.r 4 [M 12 0,
  M 13 5,
  M 14 1,
  oX 15 12 13 1,
  oS 15 14 1]) c_Lg_17)) c_Lg_18
def c_Lg_7:VC:=
 .seq (.seq (.r 2 [M 6 5,
  M 7 0,
  {op:=.len 8 (.s 7)},
  {op:=.bin 9 .lss (.s 6) (.s 8)}]) c_Lg_10) c_Lg_13
def c_Lg_5:VC:=
 .blk 0 (.loop [0,1,5] c_Lg_7)
def c_Lg_19:VC:=
 .seq (.r 6 [M 18 1,
  M 4 18]) (.ret)
def c_Lg_2:VC:=
 .seq (.seq (.r 1 [oN 5 0]) c_Lg_5) (.kp [0,1] c_Lg_19)
def c_Lg_0:VC:=
 .seq (.r 0 [oN 4 0]) c_Lg_2
def vf_Lg:VF:={ pm:=[.ms [.sc],.ro [.sc]],rm:=[.v [.sc]],nslots:=19,res:=[4],rc:=[],code:=.kp [0,1] c_Lg_0 }
def c_Lh_10:VC:=
 .ite (.s 9) (.skip) (.exit 0)
def c_Lh_16:VC:=
 .r 3 [M 10 5,
  {op:=.bin 11 .add (.s 10) (.k (.int .i64 1))},
  M 5 11]
def c_Lh_13:VC:=
 .seq (.blk 1 (.r 4 [M 12 0,
  M 13 5,
  oX 14 12 13 1,
  oL 15 14 1,
  M 16 1,
  {op:=.call 17 75 [(.s 15),(.s 16)]},
  M 1 17])) c_Lh_16
def c_Lh_7:VC:=
 .seq (.seq (.r 2 [M 6 5,
  M 7 0,
  {op:=.len 8 (.s 7)},
  {op:=.bin 9 .lss (.s 6) (.s 8)}]) c_Lh_10) c_Lh_13
def c_Lh_5:VC:=
 .blk 0 (.loop [0,1,5] c_Lh_7)
def c_Lh_17:VC:=
 .seq (.r 5 [M 18 1,
  M 4 18]) (.ret)
def c_Lh_2:VC:=
 .seq (.seq (.r 1 [oN 5 0]) c_Lh_5) (.kp [0,1] c_Lh_17)
def c_Lh_0:VC:=
 .seq (.r 0 [oN 4 0]) c_Lh_2
def vf_Lh:VF:={ pm:=[.ms [.own [.sc]],.ro [.sc]],rm:=[.v [.sc]],nslots:=19,res:=[4],rc:=[],code:=.kp [0,1] c_Lh_0 }
def c_Li_4:VC:=
 .seq (.r 2 [M 9 1,
  M 4 9]) (.ret)
def c_Li_2:VC:=
 .seq (.r 1 [oF 5 2 3,
  oL 6 5 1,
  M 7 1,
  {op:=.call 8 39 [(.s 6),(.s 7)]},
  M 1 8]) c_Li_4
def c_Li_0:VC:=
 .seq (.r 0 [{op:=.box 2 (.s 0)},
  oN 4 0]) c_Li_2
def vf_Li:VF:={ pm:=[.mg [.sc,.sc,.sc,.own [.own [.sc]]],.ro [.sc]],rm:=[.v [.sc]],nslots:=10,res:=[4],rc:=[],code:=.kp [0,1] c_Li_0 }
def c_Lf_10:VC:=
 .ite (.s 9) (.skip) (.exit 0)
def c_Lf_17:VC:=
 .r 5 [M 17 1,
  {op:=.bin 18 .add (.s 17) (.k (.int .i64 1))},
  M 1 18]
def c_Lf_18:VC:=
 .r 3 [M 10 5,
  {op:=.bin 11 .add (.s 10) (.k (.int .i64 1))},
  M 5 11]
def c_Lf_13:VC:=
 .seq (.blk 1 (.seq (.r 4 [M 12 0,
  M 13 5,
  M 14 1,
  {op:=.conv 15 .u8 (.s 14)},
  oX 16 12 13 1,
  oS 16 15 1]) c_Lf_17)) c_Lf_18
def c_Lf_7:VC:=
 .seq (.seq (.r 2 [M 6 5,
  M 7 0,
  {op:=.len 8 (.s 7)},
  {op:=.bin 9 .lss (.s 6) (.s 8)}]) c_Lf_10) c_Lf_13
def c_Lf_5:VC:=
 .blk 0 (.loop [0,1,5] c_Lf_7)
def c_Lf_19:VC:=
 .seq (.r 6 [M 19 1,
  M 4 19]) (.ret)
def c_Lf_2:VC:=
 .seq (.seq (.r 1 [oN 5 0]) c_Lf_5) (.kp [0,1] c_Lf_19)
def c_Lf_0:VC:=
 .seq (.r 0 [oN 4 0]) c_Lf_2
def vf_Lf:VF:={ pm:=[.ms [.sc],.ro [.sc]],rm:=[.v [.sc]],nslots:=20,res:=[4],rc:=[],code:=.kp [0,1] c_Lf_0 }
def c_Le_10:VC:=
 .ite (.s 9) (.skip) (.exit 0)
def c_Le_18:VC:=
 .ite (.s 18) (.seq (.r 5 [oN 4 (-1)]) (.ret)) (.skip)
def c_Le_23:VC:=
 .r 6 [M 19 1,
  {op:=.bin 20 .add (.s 19) (.k (.int .i64 1))},
  M 1 20]
def c_Le_24:VC:=
 .r 3 [M 10 5,
  {op:=.bin 11 .add (.s 10) (.k (.int .i64 1))},
  M 5 11]
def c_Le_13:VC:=
 .seq (.blk 1 (.seq (.seq (.r 4 [M 12 0,
  M 13 5,
  oX 14 12 13 1,
  oL 15 14 1,
  M 16 1,
  {op:=.conv 17 .u8 (.s 16)},
  {op:=.bin 18 .neq (.s 15) (.s 17)}]) c_Le_18) c_Le_23)) c_Le_24
def c_Le_7:VC:=
 .seq (.seq (.r 2 [M 6 5,
  M 7 0,
  {op:=.len 8 (.s 7)},
  {op:=.bin 9 .lss (.s 6) (.s 8)}]) c_Le_10) c_Le_13
def c_Le_5:VC:=
 .blk 0 (.loop [0,1,5] c_Le_7)
def c_Le_25:VC:=
 .seq (.r 7 [M 21 1,
  M 4 21]) (.ret)
def c_Le_2:VC:=
 .seq (.seq (.r 1 [oN 5 0]) c_Le_5) (.kp [1] c_Le_25)
def c_Le_0:VC:=
 .seq (.r 0 [oN 4 0]) c_Le_2
def vf_Le:VF:={ pm:=[.ro [.ro [.sc]],.ro [.sc]],rm:=[.v [.sc]],nslots:=22,res:=[4],rc:=[],code:=.kp [0,1] c_Le_0 }
def c_laws_FnExactEncodeSound_9:VC:=
 .ite (.s 15) (.seq (.r 4 [oK 2 true]) (.ret)) (.skip)
def c_laws_FnExactEncodeSound_23:VC:=
 .ite (.s 26) (.seq (.r 9 [oK 2 false]) (.ret)) (.skip)
def c_laws_FnExactEncodeSound_31:VC:=
 .ite (.s 31) (.seq (.r 11 [oK 2 false]) (.ret)) (.skip)
def c_laws_FnExactEncodeSound_43:VC:=
 .ite (.s 42) (.seq (.r 15 [oK 2 false]) (.ret)) (.skip)
def c_laws_FnExactEncodeSound_59:VC:=
 .ite (.s 50) (.seq (.r 21 [oK 2 false]) (.ret)) (.skip)
def c_laws_FnExactEncodeSound_67:VC:=
 .ite (.s 53) (.seq (.r 23 [oK 2 false]) (.ret)) (.skip)
def c_laws_FnExactEncodeSound_77:VC:=
 .ite (.s 60) (.seq (.r 26 [oK 2 false]) (.ret)) (.skip)
def c_laws_FnExactEncodeSound_89:VC:=
 .ite (.s 65) (.seq (.r 30 [oK 2 false]) (.ret)) (.skip)
def c_laws_FnExactEncodeSound_97:VC:=
 .ite (.s 68) (.seq (.r 32 [oK 2 false]) (.ret)) (.skip)
def c_laws_FnExactEncodeSound_102:VC:=
 .seq (.r 33 [oK 2 true]) (.ret)
def c_laws_FnExactEncodeSound_94:VC:=
 .seq (.seq (.r 31 [M 66 9,
  M 67 8,
  {op:=.bin 68 .neq (.s 66) (.s 67)}]) c_laws_FnExactEncodeSound_97) c_laws_FnExactEncodeSound_102
def c_laws_FnExactEncodeSound_86:VC:=
 .seq (.seq (.r 29 [M 64 9,
  {op:=.bin 65 .lss (.s 64) (.k (.int .i64 0))}]) c_laws_FnExactEncodeSound_89) c_laws_FnExactEncodeSound_94
def c_laws_FnExactEncodeSound_84:VC:=
 .seq (.r 28 [M 61 6,
  M 62 9,
  {op:=.call 63 14 [(.s 61),(.s 62)]},
  M 9 63]) c_laws_FnExactEncodeSound_86
def c_laws_FnExactEncodeSound_82:VC:=
 .seq (.r 27 [oN 9 1]) c_laws_FnExactEncodeSound_84
def c_laws_FnExactEncodeSound_74:VC:=
 .seq (.seq (.r 25 [M 57 10,
  M 58 4,
  {op:=.call 59 10 [(.s 57),(.s 58)]},
  {op:=.un 60 .not (.s 59)}]) c_laws_FnExactEncodeSound_77) c_laws_FnExactEncodeSound_82
def c_laws_FnExactEncodeSound_72:VC:=
 .seq (.r 24 [{op:=.ld 54 (.s 1) 4 true},
  {op:=.call 55 8 [(.s 54)]},
  {op:=.call 56 9 [(.s 55)]},
  M 10 56]) c_laws_FnExactEncodeSound_74
def c_laws_FnExactEncodeSound_64:VC:=
 .seq (.seq (.r 22 [M 51 9,
  M 52 8,
  {op:=.bin 53 .neq (.s 51) (.s 52)}]) c_laws_FnExactEncodeSound_67) c_laws_FnExactEncodeSound_72
def c_laws_FnExactEncodeSound_56:VC:=
 .seq (.seq (.r 20 [M 49 9,
  {op:=.bin 50 .lss (.s 49) (.k (.int .i64 0))}]) c_laws_FnExactEncodeSound_59) c_laws_FnExactEncodeSound_64
def c_laws_FnExactEncodeSound_54:VC:=
 .seq (.r 19 [M 46 6,
  M 47 9,
  {op:=.call 48 14 [(.s 46),(.s 47)]},
  M 9 48]) c_laws_FnExactEncodeSound_56
def c_laws_FnExactEncodeSound_52:VC:=
 .seq (.r 18 [oN 9 1]) c_laws_FnExactEncodeSound_54
def c_laws_FnExactEncodeSound_50:VC:=
 .seq (.r 17 [M 43 6,
  M 44 8,
  {op:=.call 45 13 [(.s 43),(.s 44)]},
  M 8 45]) c_laws_FnExactEncodeSound_52
def c_laws_FnExactEncodeSound_48:VC:=
 .seq (.r 16 [oN 8 1]) c_laws_FnExactEncodeSound_50
def c_laws_FnExactEncodeSound_40:VC:=
 .seq (.seq (.r 14 [M 35 7,
  {op:=.bin 36 .lss (.s 35) (.k (.int .i64 0))},
  M 37 36,
  ⟨none,[],some (37,false),.mv 38 (.s 6)⟩,
  ⟨none,[],some (37,false),.mv 39 (.s 4)⟩,
  ⟨none,[],some (37,false),.call 40 10 [(.s 38),(.s 39)]⟩,
  ⟨none,[],some (37,false),.un 41 .not (.s 40)⟩,
  {op:=.pick 42 (.s 37) (.k (.bool true)) (.s 41)}]) c_laws_FnExactEncodeSound_43) c_laws_FnExactEncodeSound_48
def c_laws_FnExactEncodeSound_38:VC:=
 .seq (.r 13 [{op:=.ld 32 (.s 5) 4 true},
  M 33 7,
  {op:=.call 34 12 [(.s 32),(.s 33)]},
  M 7 34]) c_laws_FnExactEncodeSound_40
def c_laws_FnExactEncodeSound_36:VC:=
 .seq (.r 12 [oN 7 1]) c_laws_FnExactEncodeSound_38
def c_laws_FnExactEncodeSound_28:VC:=
 .seq (.seq (.d 10 [(0,{op:=.ldv 27 (.s 5) 4 true}),
  (1,{op:=.ldv 28 (.s 1) 4 true}),
  (2,{op:=.call 29 8 [(.s 28)]}),
  (3,{op:=.call 30 11 [(.s 27),(.s 29)]}),
  (4,{op:=.un 31 .not (.s 30)})]) c_laws_FnExactEncodeSound_31) c_laws_FnExactEncodeSound_36
def c_laws_FnExactEncodeSound_20:VC:=
 .seq (.seq (.r 8 [M 23 6,
  M 24 4,
  {op:=.call 25 10 [(.s 23),(.s 24)]},
  {op:=.un 26 .not (.s 25)}]) c_laws_FnExactEncodeSound_23) c_laws_FnExactEncodeSound_28
def c_laws_FnExactEncodeSound_18:VC:=
 .seq (.r 7 [{op:=.ld 21 (.s 5) 4 true},
  {op:=.call 22 9 [(.s 21)]},
  M 6 22]) c_laws_FnExactEncodeSound_20
def c_laws_FnExactEncodeSound_16:VC:=
 .seq (.r 6 [{op:=.ld 19 (.s 1) 4 true},
  {op:=.call 20 8 [(.s 19)]},
  {op:=.alloc 5 [.k (.int .i64 0),.k (.int .i64 0),.k (.int .i64 0),.o [.own [.sc]]]},
  oS 5 20 4]) c_laws_FnExactEncodeSound_18
def c_laws_FnExactEncodeSound_14:VC:=
 .seq (.r 5 [{op:=.ld 16 (.s 1) 4 true},
  {op:=.call 17 8 [(.s 16)]},
  {op:=.call 18 7 [(.s 17)]},
  M 4 18]) c_laws_FnExactEncodeSound_16
def c_laws_FnExactEncodeSound_6:VC:=
 .seq (.seq (.r 3 [M 14 3,
  {op:=.bin 15 .lss (.s 14) (.k (.int .i64 0))}]) c_laws_FnExactEncodeSound_9) c_laws_FnExactEncodeSound_14
def c_laws_FnExactEncodeSound_4:VC:=
 .seq (.r 2 [{op:=.ld 11 (.s 1) 4 true},
  M 12 3,
  {op:=.call 13 6 [(.s 11),(.s 12)]},
  M 3 13]) c_laws_FnExactEncodeSound_6
def c_laws_FnExactEncodeSound_2:VC:=
 .seq (.r 1 [oN 3 1048576]) c_laws_FnExactEncodeSound_4
def c_laws_FnExactEncodeSound_0:VC:=
 .seq (.r 0 [{op:=.box 1 (.s 0)},
  oK 2 false]) c_laws_FnExactEncodeSound_2
def vf_laws_FnExactEncodeSound:VF:={ pm:=[.ro [.sc,.sc,.sc,.ro [.ro [.sc]]]],rm:=[.v [.sc]],nslots:=69,res:=[2],rc:=[],code:=.kp [0] c_laws_FnExactEncodeSound_0 }
def ext:FuncId→List Arg→Option FRes:=fun f ars=>none
def tblL:List (FuncId×VF):=[(59,vf_Lj),(24,vf_Lk),(6,vf_Ll),(67,vf_Lm),(28,vf_Ln),(8,vf_Lo),(42,vf_Sh),(60,vf_Si),(25,vf_Sd),(61,vf_So),(26,vf_Sr),(62,vf_Sn),(87,vf_Sl),(95,vf_Sg),(88,vf_Sm),(89,vf_Sk),(99,vf_Sc),(90,vf_Sj),(63,vf_Se),(91,vf_Ss),(64,vf_Sq),(65,vf_Sp),(66,vf_Sa),(27,vf_Sf),(7,vf_Sb),(55,vf_Ir),(29,vf_Ie),(68,vf_Ii),(30,vf_Ij),(69,vf_Ip),(70,vf_Il),(31,vf_Ih),(72,vf_In),(34,vf_Ig),(49,vf_Im),(35,vf_Iq),(73,vf_Id),(71,vf_Io),(33,vf_Ia),(32,vf_If),(36,vf_Ik),(37,vf_Ib),(9,vf_Ic),(10,vf_La),(74,vf_Lb),(38,vf_Lc),(11,vf_Ld),(75,vf_Lg),(39,vf_Lh),(12,vf_Li),(13,vf_Lf),(14,vf_Le),(3,vf_laws_FnExactEncodeSound)]
def tbl:FuncId→Option VF:=fun f=>tblL.lookup f
end Go.Proofs.V

namespace Go.Proofs.V
open Go
theorem fi_Lj:funcIs Go.Proofs.Try.prog tbl 59 vf_Lj=true:=by kernel_rfl
theorem fi_Lk:funcIs Go.Proofs.Try.prog tbl 24 vf_Lk=true:=by kernel_rfl
theorem fi_Ll:funcIs Go.Proofs.Try.prog tbl 6 vf_Ll=true:=by kernel_rfl
theorem fi_Lm:funcIs Go.Proofs.Try.prog tbl 67 vf_Lm=true:=by kernel_rfl
theorem fi_Ln:funcIs Go.Proofs.Try.prog tbl 28 vf_Ln=true:=by kernel_rfl
theorem fi_Lo:funcIs Go.Proofs.Try.prog tbl 8 vf_Lo=true:=by kernel_rfl
theorem fi_Sh:funcIs Go.Proofs.Try.prog tbl 42 vf_Sh=true:=by kernel_rfl
theorem fi_Si:funcIs Go.Proofs.Try.prog tbl 60 vf_Si=true:=by kernel_rfl
theorem fi_Sd:funcIs Go.Proofs.Try.prog tbl 25 vf_Sd=true:=by kernel_rfl
theorem fi_So:funcIs Go.Proofs.Try.prog tbl 61 vf_So=true:=by kernel_rfl
theorem fi_Sr:funcIs Go.Proofs.Try.prog tbl 26 vf_Sr=true:=by kernel_rfl
theorem fi_Sn:funcIs Go.Proofs.Try.prog tbl 62 vf_Sn=true:=by kernel_rfl
theorem fi_Sl:funcIs Go.Proofs.Try.prog tbl 87 vf_Sl=true:=by kernel_rfl
theorem fi_Sg:funcIs Go.Proofs.Try.prog tbl 95 vf_Sg=true:=by kernel_rfl
theorem fi_Sm:funcIs Go.Proofs.Try.prog tbl 88 vf_Sm=true:=by kernel_rfl
theorem fi_Sk:funcIs Go.Proofs.Try.prog tbl 89 vf_Sk=true:=by kernel_rfl
theorem fi_Sc:funcIs Go.Proofs.Try.prog tbl 99 vf_Sc=true:=by kernel_rfl
theorem fi_Sj:funcIs Go.Proofs.Try.prog tbl 90 vf_Sj=true:=by kernel_rfl
theorem fi_Se:funcIs Go.Proofs.Try.prog tbl 63 vf_Se=true:=by kernel_rfl
theorem fi_Ss:funcIs Go.Proofs.Try.prog tbl 91 vf_Ss=true:=by kernel_rfl
theorem fi_Sq:funcIs Go.Proofs.Try.prog tbl 64 vf_Sq=true:=by kernel_rfl
theorem fi_Sp:funcIs Go.Proofs.Try.prog tbl 65 vf_Sp=true:=by kernel_rfl
theorem fi_Sa:funcIs Go.Proofs.Try.prog tbl 66 vf_Sa=true:=by kernel_rfl
theorem fi_Sf:funcIs Go.Proofs.Try.prog tbl 27 vf_Sf=true:=by kernel_rfl
theorem fi_Sb:funcIs Go.Proofs.Try.prog tbl 7 vf_Sb=true:=by kernel_rfl
theorem fi_Ir:funcIs Go.Proofs.Try.prog tbl 55 vf_Ir=true:=by kernel_rfl
theorem fi_Ie:funcIs Go.Proofs.Try.prog tbl 29 vf_Ie=true:=by kernel_rfl
theorem fi_Ii:funcIs Go.Proofs.Try.prog tbl 68 vf_Ii=true:=by kernel_rfl
theorem fi_Ij:funcIs Go.Proofs.Try.prog tbl 30 vf_Ij=true:=by kernel_rfl
theorem fi_Ip:funcIs Go.Proofs.Try.prog tbl 69 vf_Ip=true:=by kernel_rfl
theorem fi_Il:funcIs Go.Proofs.Try.prog tbl 70 vf_Il=true:=by kernel_rfl
theorem fi_Ih:funcIs Go.Proofs.Try.prog tbl 31 vf_Ih=true:=by kernel_rfl
theorem fi_In:funcIs Go.Proofs.Try.prog tbl 72 vf_In=true:=by kernel_rfl
theorem fi_Ig:funcIs Go.Proofs.Try.prog tbl 34 vf_Ig=true:=by kernel_rfl
theorem fi_Im:funcIs Go.Proofs.Try.prog tbl 49 vf_Im=true:=by kernel_rfl
theorem fi_Iq:funcIs Go.Proofs.Try.prog tbl 35 vf_Iq=true:=by kernel_rfl
theorem fi_Id:funcIs Go.Proofs.Try.prog tbl 73 vf_Id=true:=by kernel_rfl
theorem fi_Io:funcIs Go.Proofs.Try.prog tbl 71 vf_Io=true:=by kernel_rfl
theorem fi_Ia:funcIs Go.Proofs.Try.prog tbl 33 vf_Ia=true:=by kernel_rfl
theorem fi_If:funcIs Go.Proofs.Try.prog tbl 32 vf_If=true:=by kernel_rfl
theorem fi_Ik:funcIs Go.Proofs.Try.prog tbl 36 vf_Ik=true:=by kernel_rfl
theorem fi_Ib:funcIs Go.Proofs.Try.prog tbl 37 vf_Ib=true:=by kernel_rfl
theorem fi_Ic:funcIs Go.Proofs.Try.prog tbl 9 vf_Ic=true:=by kernel_rfl
theorem fi_La:funcIs Go.Proofs.Try.prog tbl 10 vf_La=true:=by kernel_rfl
theorem fi_Lb:funcIs Go.Proofs.Try.prog tbl 74 vf_Lb=true:=by kernel_rfl
theorem fi_Lc:funcIs Go.Proofs.Try.prog tbl 38 vf_Lc=true:=by kernel_rfl
theorem fi_Ld:funcIs Go.Proofs.Try.prog tbl 11 vf_Ld=true:=by kernel_rfl
theorem fi_Lg:funcIs Go.Proofs.Try.prog tbl 75 vf_Lg=true:=by kernel_rfl
theorem fi_Lh:funcIs Go.Proofs.Try.prog tbl 39 vf_Lh=true:=by kernel_rfl
theorem fi_Li:funcIs Go.Proofs.Try.prog tbl 12 vf_Li=true:=by kernel_rfl
theorem fi_Lf:funcIs Go.Proofs.Try.prog tbl 13 vf_Lf=true:=by kernel_rfl
theorem fi_Le:funcIs Go.Proofs.Try.prog tbl 14 vf_Le=true:=by kernel_rfl
theorem fi_laws_FnExactEncodeSound:funcIs Go.Proofs.Try.prog tbl 3 vf_laws_FnExactEncodeSound=true:=by kernel_rfl
def gI:GInv:=gNone
end Go.Proofs.V
