import Derived.Test.YtamifoopbmjhmaaDoorFnExactTonesOfCardV2
import GoSem.Core.Float
import Derived.Test.YtamifoopbmjhmaaDoorProg
import Derived.KernelRfl
set_option linter.unusedSimpArgs false
set_option linter.unusedVariables false
namespace Go.Proofs.V
open Go
theorem if_t {α:Sort _} {c:Prop} [Decidable c] {a b:α} (h:c):(if c then a else b)=a:=if_pos h
theorem if_f {α:Sort _} {c:Prop} [Decidable c] {a b:α} (h : ¬ c):(if c then a else b)=b:=if_neg h
theorem rd_d {α:Type} {l:List α} {i:Nat} (z:α) (h:i < l.length):rd l (i:Int)=some (l.getD i z):=by
 rw [rd_eq h,List.getD_eq_getElem?_getD,List.getElem?_eq_getElem h];rfl
section
variable {α:Type}
theorem to_list {l:List α} {b:Int×List α→Option ((Int×List α)⊕List α)} (step:∀ (i:Nat) (out:List α) (h:i < l.length),out.length=l.length→b ((i:Int),out)=some (.inl (((i+1:Nat):Int),out.set (0+Int.toNat (i:Int)) l[i])))
  (done:∀ out,b ((l.length:Int),out)=some (.inr out)) (z:α):loopM b (0,List.replicate (Int.toNat (l.length:Int)) z)=some l:=by
 have:=loopM_fun (b:=b) (fun i (s:List α)=>((i:Int),s)) l.length (fun i=>l.take i++List.replicate (l.length - i) z) (e:=l) (fun i hi=>by
  rw [step i _ hi (by simp;omega),fill_set0 l z i hi]) (by
  rw [done];simp)
 simpa using this
theorem eq_list {n:Nat} {b:Int→Option (Int⊕(Bool⊕Unit))} (step:∀ i:Nat,i < n→b (i:Int)=some (.inl ((i+1:Nat):Int))) (done:b (n:Int)=some (.inr (.inr ()))):loopM b 0=some (.inr ()):=
 loopM_fun (b:=b) (fun i (s:Unit)=>(i:Int)) n (fun _=>()) step done
theorem sz_list {l:List α} {Sm:α→Prop} {b:Int×Int→Option ((Int×Int)⊕(Int⊕Int))} (step:∀ (left:Int) (i:Nat) (h:i < l.length),0≤left→left≤1048576→b (left,(i:Int))=some (.inr (.inl (-1)))∨∃ left',b (left,(i:Int))=some (.inl (left',((i+1:Nat):Int)))∧0≤left'∧left'≤left∧Sm l[i])
  (done:∀ left,b (left,(l.length:Int))=some (.inr (.inr left))) (left:Int) (h0:0≤left) (h1:left≤1048576) :
  ∃ e,loopM b (left,0)=some e∧(e = .inl (-1)∨∃ s,e = .inr s∧0≤s∧s≤left∧∀ x ∈ l,Sm x):=by
 have key:=loopM_inv (b:=b) (fun i (s:Int)=>(s,(i:Int))) l.length (fun i s=>0≤s∧s≤left∧∀ j,j < i→∀ x,l[j]? = some x→Sm x) (fun e=>e = .inl (-1)∨∃ s,e = .inr s∧0≤s∧s≤left∧∀ x ∈ l,Sm x) ?_ ?_ (s:=left) ⟨h0,by omega,by omega⟩
 ·exact key
 ·rintro i s hi ⟨h3,h4,h5⟩
  rcases step s i hi h3 (by omega) with h6 | ⟨s',h6,h7,h8,h9⟩
  ·exact .inr ⟨_,h6,.inl rfl⟩
  ·refine .inl ⟨s',h6,h7,by omega,?_⟩
   intro j hj x hxj
   by_cases hji:j=i
   ·subst hji
    rw [List.getElem?_eq_getElem hi] at hxj
    simp at hxj
    subst hxj
    exact h9
   ·exact h5 j (by omega) x hxj
 ·rintro s ⟨h3,h4,h5⟩
  refine ⟨.inr s,done s,.inr ⟨s,rfl,h3,h4,?_⟩⟩
  intro x hx'
  obtain ⟨j,hj,e⟩ :=List.getElem_of_mem hx'
  exact h5 j hj x (by rw [List.getElem?_eq_getElem hj,e])
theorem mark_list {Sm:α→Prop} (C:Nat) {b:Int×Int×List α→Option ((Int×Int×List α)⊕(Int×List α))} {bh:List α→Int×Int→Option ((Int×Int)⊕(Int⊕Int))}
  (step:∀ (l:List α) (i k:Nat) (h:i < l.length),l.length≤1048576→k+C≤4611686018427387904→Sm l[i]→∃ x' k' : _,b ((k:Int),(i:Int),l)=some (.inl (((k' : Nat):Int),((i+1:Nat):Int),l.set i x'))∧k≤k'∧k'≤k+C∧
   ∀ (l' : List α) (h' : i < l'.length),l'.length≤1048576→l'[i]=x'→bh l' ((k:Int),(i:Int))=some (.inl ((k' : Int),((i+1:Nat):Int))))
  (done:∀ (l:List α) (k:Int),b (k,(l.length:Int),l)=some (.inr (k,l))) (hdone:∀ (l:List α) (k:Int),bh l (k,(l.length:Int))=some (.inr (.inr k)))
  (l:List α) (k:Nat) (hl:l.length≤1048576) (hk:k+l.length*C≤4611686018427387904) (hs:∀ x ∈ l,Sm x) :
  ∃ (l' : List α) (k' : Nat),loopM b ((k:Int),0,l)=some ((k' : Int),l')∧l'.length=l.length∧k≤k'∧k'≤k+l.length*C∧loopM (bh l') ((k:Int),0)=some (.inr (k' : Int)):=by
 have key:∀ (d i k:Nat) (l:List α),i+d=l.length→l.length≤1048576→k+d*C≤4611686018427387904→(∀ x ∈ l.drop i,Sm x)→
   ∃ (l' : List α) (k' : Nat),loopM b ((k:Int),(i:Int),l)=some ((k' : Int),l')∧l'.length=l.length∧k≤k'∧k'≤k+d*C∧l'.take i=l.take i∧loopM (bh l') ((k:Int),(i:Int))=some (.inr (k' : Int)):=by
  intro d
  induction d with
  | zero=>
   intro i k l hi hl hk hs
   have:i=l.length:=by omega
   subst this
   refine ⟨l,k,?_,rfl,by omega,by omega,rfl,?_⟩
   ·rw [loopM_eq,done]
   ·rw [loopM_eq,hdone]
  | succ d ih=>
   intro i k l hi hl hk hs
   have hlt:i < l.length:=by omega
   rw [Nat.succ_mul] at hk
   obtain ⟨x',k1,h1,h2,h3,h4⟩ :=step l i k hlt hl (by have:0≤d*C:=Nat.zero_le _;omega) (hs _ (by rw [List.drop_eq_getElem_cons hlt];exact List.mem_cons_self))
   obtain ⟨l',k2,g1,g2,g3,g4,g5,g6⟩ :=ih (i+1) k1 (l.set i x') (by simp;omega) (by simpa using hl) (by omega) (by
    intro x hx
    rw [List.drop_set_of_lt (by omega)] at hx
    exact hs x (by rw [List.drop_eq_getElem_cons hlt];exact List.mem_cons_of_mem _ hx))
   simp only [List.length_set] at g2
   have hx:l'[i]'(by omega)=x':=by
    have h5:(l'.take (i+1))[i]? = ((l.set i x').take (i+1))[i]?:=by rw [g5]
    simp only [List.getElem?_take,show i < i+1 by omega,if_true] at h5
    rw [List.getElem?_eq_getElem (by omega),List.getElem?_eq_getElem (by simpa using hlt)] at h5
    simpa using h5
   refine ⟨l',k2,?_,g2,by omega,by rw [Nat.succ_mul];omega,?_,?_⟩
   ·rw [loopM_eq,h1];exact g1
   ·have h5:(l'.take (i+1)).take i=((l.set i x').take (i+1)).take i:=by rw [g5]
    rw [List.take_take,List.take_take,show min i (i+1)=i by omega] at h5
    rw [h5,List.take_set_of_le (by omega)]
   ·rw [loopM_eq,h4 l' (by omega) (by omega) hx];exact g6
 obtain ⟨l',k',h1,h2,h3,h4,_,h6⟩ :=key l.length 0 k l (by omega) hl hk (by simpa using hs)
 exact ⟨l',k',h1,h2,h3,h4,h6⟩
theorem mark_list0 {Sm:α→Prop} (C:Nat) {b:Int×Int×List α→Option ((Int×Int×List α)⊕(Int×List α))}
  (step:∀ (l:List α) (i k:Nat) (h:i < l.length),l.length≤1048576→k+C≤4611686018427387904→Sm l[i]→∃ x' k' : _,b ((k:Int),(i:Int),l)=some (.inl (((k' : Nat):Int),((i+1:Nat):Int),l.set i x'))∧k≤k'∧k'≤k+C)
  (done:∀ (l:List α) (k:Int),b (k,(l.length:Int),l)=some (.inr (k,l)))
  (l:List α) (k:Nat) (hl:l.length≤1048576) (hk:k+l.length*C≤4611686018427387904) (hs:∀ x ∈ l,Sm x) :
  ∃ (l' : List α) (k' : Nat),loopM b ((k:Int),0,l)=some ((k' : Int),l')∧l'.length=l.length∧k≤k'∧k'≤k+l.length*C:=by
 have key:∀ (d i k:Nat) (l:List α),i+d=l.length→l.length≤1048576→k+d*C≤4611686018427387904→(∀ x ∈ l.drop i,Sm x)→
   ∃ (l' : List α) (k' : Nat),loopM b ((k:Int),(i:Int),l)=some ((k' : Int),l')∧l'.length=l.length∧k≤k'∧k'≤k+d*C:=by
  intro d
  induction d with
  | zero=>
   intro i k l hi hl hk hs
   have:i=l.length:=by omega
   subst this
   exact ⟨l,k,by rw [loopM_eq,done],rfl,by omega,by omega⟩
  | succ d ih=>
   intro i k l hi hl hk hs
   have hlt:i < l.length:=by omega
   rw [Nat.succ_mul] at hk
   obtain ⟨x',k1,h1,h2,h3⟩ :=step l i k hlt hl (by have:0≤d*C:=Nat.zero_le _;omega) (hs _ (by rw [List.drop_eq_getElem_cons hlt];exact List.mem_cons_self))
   obtain ⟨l',k2,g1,g2,g3,g4⟩ :=ih (i+1) k1 (l.set i x') (by simp;omega) (by simpa using hl) (by omega) (by
    intro x hx
    rw [List.drop_set_of_lt (by omega)] at hx
    exact hs x (by rw [List.drop_eq_getElem_cons hlt];exact List.mem_cons_of_mem _ hx))
   simp only [List.length_set] at g2
   exact ⟨l',k2,by rw [loopM_eq,h1];exact g1,g2,by omega,by rw [Nat.succ_mul];omega⟩
 exact key l.length 0 k l (by omega) hl hk (by simpa using hs)
end
end Go.Proofs.V

namespace Go.Proofs.V
open Go
section
variable {α σ τ ε:Type}
theorem all_fold {l:List α} (mk:σ→Nat→τ) {q:α→Bool} {g:σ→α→σ} {I:Nat→σ→Prop} {b:τ→Option (τ⊕ε)} {e0:ε} {e1:σ→ε}
  (step:∀ (i:Nat) (s:σ) (h:i < l.length),I i s→(q l[i]=true→b (mk s i)=some (.inl (mk (g s l[i]) (i+1)))∧I (i+1) (g s l[i]))∧(q l[i]=false→b (mk s i)=some (.inr e0)))
  (done:∀ s,I l.length s→b (mk s l.length)=some (.inr (e1 s))) (s0:σ) (h0:I 0 s0):loopM b (mk s0 0)=some (bif l.all q then e1 (l.foldl g s0) else e0):=by
 have key:∀ (d i:Nat) (s:σ),i+d=l.length→I i s→loopM b (mk s i)=some (bif (l.drop i).all q then e1 ((l.drop i).foldl g s) else e0):=by
  intro d
  induction d with
  | zero=>
   intro i s hi hI
   have:i=l.length:=by omega
   subst this
   rw [loopM_eq,done s hI,List.drop_length]
   rfl
  | succ d ih=>
   intro i s hi hI
   have hlt:i < l.length:=by omega
   obtain ⟨h1,h2⟩ :=step i s hlt hI
   rw [loopM_eq,List.drop_eq_getElem_cons hlt]
   simp only [List.all_cons,List.foldl_cons]
   by_cases hq:q l[i]=true
   ·obtain ⟨h3,h4⟩ :=h1 hq
    rw [h3,hq,Bool.true_and]
    exact ih (i+1) _ (by omega) h4
   ·have hq' : q l[i]=false:=by simpa using hq
    rw [h2 hq',hq']
    rfl
 simpa using key l.length 0 s0 (by omega) h0
theorem all_list {l:List α} {q:α→Bool} {b:Int→Option (Int⊕(Bool⊕Unit))} (hl:l.length≤4611686018427387903)
  (step:∀ (i:Nat) (h:i < l.length),b (i:Int)=if q l[i]=true then some (.inl (((i+1:Nat):Int))) else some (.inr (.inl false))) (done:b (l.length:Int)=some (.inr (.inr ()))) :
  loopM b 0=some (bif l.all q then .inr () else .inl false):=by
 have:=all_fold (l:=l) (σ:=Unit) (fun _ i=>(i:Int)) (q:=q) (g:=fun _ _=>()) (I:=fun _ _=>True) (b:=b) (e0:=.inl false) (e1:=fun _=>.inr ())
  (fun i s h _=>⟨fun hq=>⟨by rw [step i h,if_pos hq],trivial⟩,fun hq=>by rw [step i h,if_neg (by simp [hq])]⟩) (fun _ _=>done) () trivial
 exact this
theorem fold_list {l:List α} (mk:σ→Nat→τ) {g:σ→α→σ} {I:Nat→σ→Prop} {b:τ→Option (τ⊕ε)} {e1:σ→ε}
  (step:∀ (i:Nat) (s:σ) (h:i < l.length),I i s→b (mk s i)=some (.inl (mk (g s l[i]) (i+1)))∧I (i+1) (g s l[i]))
  (done:∀ s,I l.length s→b (mk s l.length)=some (.inr (e1 s))) (s0:σ) (h0:I 0 s0):loopM b (mk s0 0)=some (e1 (l.foldl g s0))∧I l.length (l.foldl g s0):=by
 have key:∀ (d i:Nat) (s:σ),i+d=l.length→I i s→loopM b (mk s i)=some (e1 ((l.drop i).foldl g s))∧I l.length ((l.drop i).foldl g s):=by
  intro d
  induction d with
  | zero=>
   intro i s hi hI
   have:i=l.length:=by omega
   subst this
   rw [loopM_eq,done s hI,List.drop_length]
   exact ⟨rfl,hI⟩
  | succ d ih=>
   intro i s hi hI
   have hlt:i < l.length:=by omega
   obtain ⟨h1,h2⟩ :=step i s hlt hI
   rw [loopM_eq,List.drop_eq_getElem_cons hlt,h1]
   exact ih (i+1) _ (by omega) h2
 simpa using key l.length 0 s0 (by omega) h0
theorem fold_range {n:Nat} (mk:σ→Nat→τ) {g:σ→Nat→σ} {I:Nat→σ→Prop} {b:τ→Option (τ⊕ε)} {e1:σ→ε}
  (step:∀ (i:Nat) (s:σ),i < n→I i s→b (mk s i)=some (.inl (mk (g s i) (i+1)))∧I (i+1) (g s i))
  (done:∀ s,I n s→b (mk s n)=some (.inr (e1 s))) (s0:σ) (h0:I 0 s0):loopM b (mk s0 0)=some (e1 ((List.range n).foldl g s0))∧I n ((List.range n).foldl g s0):=by
 have h:=fold_list (l:=List.range n) mk (g:=g) (I:=I) (b:=b) (e1:=e1) (fun i s h hI=>by simpa using step i s (by simpa using h) hI) (fun s hI=>by simpa using done s (by simpa using hI)) s0 h0
 simpa using h
theorem replicate_filled {z v:Int} (n:Nat) {b:Int×Int×List Int→Option ((Int×Int×List Int)⊕List Int)} (hn:n < 4611686018427387904)
  (step:∀ (i:Nat) (l:List Int),i < n→l.length=n→b ((n:Int),(i:Int),l)=some (.inl ((n:Int),((i+1:Nat):Int),l.set (0+Int.toNat (i:Int)) v)))
  (done:∀ l,b ((n:Int),(n:Int),l)=some (.inr l)):loopM b ((n:Int),0,List.replicate n z)=some (List.replicate n v):=by
 refine loopM_fun (b:=b) (fun i (s:List Int)=>((n:Int),(i:Int),s)) n (fun i=>List.replicate i v++List.replicate (n - i) z) (e:=List.replicate n v) (fun i hi=>?_) ?_ |> fun h=>by simpa using h
 ·rw [step i _ hi (by simp;omega)]
  congr 4
  apply List.ext_getElem?
  intro j
  simp only [Nat.zero_add,Int.toNat_natCast,List.getElem?_set,List.getElem?_append,List.length_append,List.length_replicate,List.getElem?_replicate]
  by_cases hj:i=j
  ·subst hj;simp;omega
  ·rw [if_neg hj]
   by_cases h3:j < i
   ·simp [h3,show j < i+1 by omega]
   ·simp only [h3,show ¬ j < i+1 by omega,if_false]
    by_cases h5:j < n
    ·rw [if_pos (by omega),if_pos (by omega)]
    ·rw [if_neg (by omega),if_neg (by omega)]
 ·rw [done];simp
end
end Go.Proofs.V

namespace Go.Proofs.V
open Go
theorem and_one8 (n:Nat) (h:n≤255):andI .u8 (n:Int) 1=((n % 2:Nat):Int):=by
 unfold andI
 have h1:(BitVec.ofInt IntKind.u8.bits (n:Int) &&& BitVec.ofInt IntKind.u8.bits 1).toNat=n % 2:=by
  show (BitVec.ofInt 8 (n:Int) &&& BitVec.ofNat 8 1).toNat=n % 2
  rw [BitVec.ofInt_natCast,BitVec.toNat_and,BitVec.toNat_ofNat,BitVec.toNat_ofNat,Nat.mod_eq_of_lt (by omega:n < 2 ^ 8)]
  exact Nat.and_one_is_mod n
 rw [h1]
 exact wu8_id (by omega) (by omega)
theorem and_one64 (n:Nat) (h:n≤255):andI .u64 (n:Int) 1=((n % 2:Nat):Int):=by
 unfold andI
 have h1:(BitVec.ofInt IntKind.u64.bits (n:Int) &&& BitVec.ofInt IntKind.u64.bits 1).toNat=n % 2:=by
  show (BitVec.ofInt 64 (n:Int) &&& BitVec.ofNat 64 1).toNat=n % 2
  rw [BitVec.ofInt_natCast,BitVec.toNat_and,BitVec.toNat_ofNat,BitVec.toNat_ofNat,Nat.mod_eq_of_lt (by omega:n < 2 ^ 64)]
  exact Nat.and_one_is_mod n
 rw [h1]
 exact wu64_id (by omega) (by omega)
theorem shr8 (n k:Nat) (hk:k≤8):shrI .u8 (n:Int) (k:Int)=((n / 2 ^ k:Nat):Int):=by
 unfold shrI
 have:min (k:Int).toNat IntKind.u8.bits=k:=by simp [IntKind.bits];omega
 rw [this,Int.fdiv_eq_ediv_of_nonneg _ (by have:(0:Int) < 2 ^ k:=Int.pow_pos (by decide);omega)]
 simp
theorem div8d {n:Nat} (h:n≤35184372088832):w64 (Int.tdiv (n:Int) 8)=((n / 8:Nat):Int):=by
 rw [Int.tdiv_eq_ediv_of_nonneg (by omega),w64_id (by omega) (by omega)]
 omega
theorem mod8d (n:Nat):Int.tmod (n:Int) 8=((n % 8:Nat):Int):=by
 rw [Int.tmod_eq_emod_of_nonneg (by omega)]
 omega
theorem or_nat (a v k:Nat) (hv:v < 2 ^ k):a*2 ^ k ||| v=a*2 ^ k+v:=by
 rw [←Nat.shiftLeft_eq,Nat.shiftLeft_add_eq_or_of_lt hv]
theorem or64 (a v:Nat) (ha:a < 2 ^ 63) (hv:v < 2 ^ 63):orI .u64 (a:Int) (v:Int)=((a ||| v:Nat):Int):=by
 have hor:a ||| v < 2 ^ 63:=Nat.or_lt_two_pow ha hv
 unfold orI
 have h1:(BitVec.ofInt IntKind.u64.bits (a:Int) ||| BitVec.ofInt IntKind.u64.bits (v:Int)).toNat=a ||| v:=by
  show (BitVec.ofInt 64 (a:Int) ||| BitVec.ofInt 64 (v:Int)).toNat=a ||| v
  rw [BitVec.ofInt_natCast,BitVec.ofInt_natCast,BitVec.toNat_or,BitVec.toNat_ofNat,BitVec.toNat_ofNat,Nat.mod_eq_of_lt (by omega:a < 2 ^ 64),Nat.mod_eq_of_lt (by omega:v < 2 ^ 64)]
 rw [h1]
 exact wu64_id (by omega) (by omega)
theorem or64i (a v:Nat) (ha:a < 2 ^ 63) (hv:v < 2 ^ 63):orI .i64 (a:Int) (v:Int)=((a ||| v:Nat):Int):=by
 have hor:a ||| v < 2 ^ 63:=Nat.or_lt_two_pow ha hv
 unfold orI
 have h1:(BitVec.ofInt IntKind.i64.bits (a:Int) ||| BitVec.ofInt IntKind.i64.bits (v:Int)).toNat=a ||| v:=by
  show (BitVec.ofInt 64 (a:Int) ||| BitVec.ofInt 64 (v:Int)).toNat=a ||| v
  rw [BitVec.ofInt_natCast,BitVec.ofInt_natCast,BitVec.toNat_or,BitVec.toNat_ofNat,BitVec.toNat_ofNat,Nat.mod_eq_of_lt (by omega:a < 2 ^ 64),Nat.mod_eq_of_lt (by omega:v < 2 ^ 64)]
 rw [h1]
 exact w64_id (by omega) (by omega)
theorem shl64 (a k:Nat) (hk:k≤64) (h:a*2 ^ k < 2 ^ 63):shlI .u64 (a:Int) (k:Int)=((a*2 ^ k:Nat):Int):=by
 unfold shlI
 have:min (Int.toNat (k:Int)) IntKind.u64.bits=k:=by simp [IntKind.bits];omega
 rw [this]
 have e:(a:Int)*2 ^ k=((a*2 ^ k:Nat):Int):=by simp
 rw [e]
 exact wu64_id (by omega) (by omega)
theorem shl64i (a k:Nat) (hk:k≤64) (h:a*2 ^ k < 2 ^ 63):shlI .i64 (a:Int) (k:Int)=((a*2 ^ k:Nat):Int):=by
 unfold shlI
 have:min (Int.toNat (k:Int)) IntKind.i64.bits=k:=by simp [IntKind.bits];omega
 rw [this]
 have e:(a:Int)*2 ^ k=((a*2 ^ k:Nat):Int):=by simp
 rw [e]
 exact w64_id (by omega) (by omega)
theorem shrI_nat (k:IntKind) (n s:Nat) (hs:s≤k.bits):shrI k (n:Int) (s:Int)=((n / 2 ^ s:Nat):Int):=by
 unfold shrI
 rw [Int.toNat_natCast,Nat.min_eq_left hs,Int.fdiv_eq_ediv_of_nonneg _ (by have:(0:Int) < 2 ^ s:=Int.pow_pos (by decide);omega)]
 simp
theorem u8_mod (n:Nat):wr .u8 (n:Int)=((n % 256:Nat):Int):=by rw [wu8_eq];omega
end Go.Proofs.V

set_option exponentiation.threshold 3000
namespace Go.Proofs.V
open Ieee
def fb (k:Nat) (x:Nat):Prop:=x % 2 ^ 63≤(k+1023)*2 ^ 52
theorem d_sw:double.signWeight=2 ^ 63:=rfl
theorem d_bin:double.binade=2 ^ 52:=rfl
theorem d_inf:double.infRung=2047*2 ^ 52:=rfl
theorem d_lp:double.leastPlace = -1074:=by decide
theorem d_fr:double.fractionBits=52:=rfl
theorem fb_mono {k l x:Nat} (h:fb k x) (hkl:k≤l):fb l x:=Nat.le_trans h (Nat.mul_le_mul_right _ (by omega))
def rdF (s:Bool) (r:Nat):Datum:=
 if r < 2 ^ 52 then .number s r (-1074)
 else if r < 2047*2 ^ 52 then .number s (2 ^ 52+r % 2 ^ 52) (-1074+((r / 2 ^ 52 - 1:Nat):Int))
 else if r=2047*2 ^ 52 then .infinity s else .nan s (r - 2047*2 ^ 52)
theorem read_eq (x:Nat):double.read x=rdF (x / 2 ^ 63 % 2 == 1) (x % 2 ^ 63):=by
 unfold Format.read rdF
 simp only [d_sw,d_bin,d_inf,d_lp]
 rfl
theorem read_fb {k x:Nat} (hk:k≤900) (h:fb k x):∃ (s:Bool) (m j:Nat),double.read x = .number s m ((j:Int) - 1074)∧m*2 ^ j≤2 ^ (k+1074)∧m < 2 ^ 53:=by
 unfold fb at h
 rw [read_eq]
 generalize hr:x % 2 ^ 63=r at h ⊢
 generalize (x / 2 ^ 63 % 2 == 1)=s
 unfold rdF
 by_cases h1:r < 2 ^ 52
 ·rw [if_pos h1]
  refine ⟨s,r,0,by simp,?_,by omega⟩
  have:2 ^ 52≤2 ^ (k+1074):=Nat.pow_le_pow_right (by omega) (by omega)
  omega
 ·rw [if_neg h1]
  have hlt:r < 2047*2 ^ 52:=Nat.lt_of_le_of_lt h (Nat.mul_lt_mul_of_pos_right (by omega) (Nat.two_pow_pos 52))
  rw [if_pos hlt]
  have hq1:1≤r / 2 ^ 52:=(Nat.one_le_div_iff (Nat.two_pow_pos 52)).2 (by omega)
  have hq2:r / 2 ^ 52≤k+1023:=Nat.div_le_of_le_mul (by rw [Nat.mul_comm];exact h)
  have hm:r % 2 ^ 52 < 2 ^ 52:=Nat.mod_lt _ (Nat.two_pow_pos 52)
  refine ⟨s,2 ^ 52+r % 2 ^ 52,r / 2 ^ 52 - 1,by first | (congr 1;done) | (congr 1;omega),?_,by omega⟩
  by_cases he:r / 2 ^ 52=k+1023
  ·have hz:r % 2 ^ 52=0:=by
    have:=Nat.div_add_mod r (2 ^ 52)
    rw [he,Nat.mul_comm] at this
    omega
   rw [hz,he,Nat.add_zero,←Nat.pow_add]
   exact Nat.pow_le_pow_right (by omega) (by omega)
  ·calc (2 ^ 52+r % 2 ^ 52)*2 ^ (r / 2 ^ 52 - 1)≤2 ^ 53*2 ^ (k+1021):=Nat.mul_le_mul (by omega) (Nat.pow_le_pow_right (by omega) (by omega))
    _=2 ^ (k+1074):=by rw [←Nat.pow_add,show 53+(k+1021)=k+1074 by omega]
theorem cut_le (neg:Bool) (n drop B:Nat) (h:n < B*2 ^ drop):Toward.even.cut neg n drop≤B:=by
 unfold Toward.cut
 simp only [Nat.one_shiftLeft]
 have key:n / 2 ^ min drop (n.log2+2) < B:=by
  by_cases hd:drop≤n.log2+2
  ·rw [Nat.min_eq_left hd]
   exact (Nat.div_lt_iff_lt_mul (Nat.two_pow_pos _)).2 h
  ·rw [Nat.min_eq_right (by omega)]
   have h1:n < 2 ^ (n.log2+2):=Nat.lt_of_lt_of_le Nat.lt_log2_self (Nat.pow_le_pow_right (by omega) (by omega))
   rw [Nat.div_eq_of_lt h1]
   rcases Nat.eq_zero_or_pos B with hB | hB
   ·subst hB;simp at h
   ·exact hB
 have hb:∀ b:Bool,b.toNat≤1:=by decide
 exact Nat.le_trans (Nat.add_le_add_left (hb _) _) key
theorem cut_exact (neg:Bool) (B drop:Nat):Toward.even.cut neg (B*2 ^ drop) drop≤B:=by
 rcases Nat.eq_zero_or_pos B with hB | hB
 ·subst hB
  simp [Toward.cut]
 unfold Toward.cut
 simp only [Nat.one_shiftLeft]
 have hl:drop≤(B*2 ^ drop).log2:=by
  refine (Nat.le_log2 (by have:=Nat.two_pow_pos drop;exact Nat.ne_of_gt (Nat.mul_pos hB this))).2 ?_
  exact Nat.le_mul_of_pos_left _ hB
 rw [Nat.min_eq_left (by omega),Nat.mul_div_cancel _ (Nat.two_pow_pos _),Nat.mul_mod_left]
 have h2:(decide (2 ^ drop < 2*0)||(2 ^ drop == 2*0&&B % 2 == 1))=false:=by
  simp
 rw [h2]
 simp
theorem nearest_fb {k:Nat} (hk:k≤900) (s:Bool) (m:Nat) (p:Int) (hp : -2148≤p) (h:m*2 ^ (p+2148).toNat≤2 ^ (k+2148)):fb k (double.nearest s m p):=by
 have hw:∀ r:Nat,r≤(k+1023)*2 ^ 52→fb k (double.word s r):=by
  intro r hr
  have hlt:r < 2 ^ 63:=Nat.lt_of_le_of_lt hr (Nat.lt_of_le_of_lt (Nat.mul_le_mul_right (2 ^ 52) (show k+1023≤2047 by omega)) (by decide))
  unfold fb Format.word
  rw [d_sw]
  cases s
  ·rw [if_neg (by decide),Nat.mod_eq_of_lt hlt]
   exact hr
  ·rw [if_pos rfl,Nat.add_mod_left,Nat.mod_eq_of_lt hlt]
   exact hr
 unfold Format.nearest
 rw [d_fr,d_lp,d_bin]
 by_cases h0:m=0
 ·rw [if_pos h0];exact hw 0 (Nat.zero_le _)
 rw [if_neg h0]
 simp only
 obtain ⟨P,hP⟩:∃ P:Nat,p=(P:Int) - 2148:=⟨(p+2148).toNat,by omega⟩
 subst hP
 rw [show ((P:Int) - 2148+2148).toNat=P by omega] at h
 generalize hL:m.log2=L
 have hm1:2 ^ L≤m:=by rw [←hL];exact Nat.log2_self_le h0
 have hm2:m < 2 ^ (L+1):=by rw [←hL];exact Nat.lt_log2_self
 have hLP:L+P≤k+2148:=by
  have:2 ^ (L+P)≤2 ^ (k+2148):=by rw [Nat.pow_add];exact Nat.le_trans (Nat.mul_le_mul_right _ hm1) h
  exact (Nat.pow_le_pow_iff_right (by omega)).1 this
 refine hw _ (Nat.le_trans (Nat.min_le_left _ _) ?_)
 obtain ⟨Q,hQ,hQ1,hQ2,hQ3⟩:∃ Q:Nat,max ((P:Int) - 2148+(L:Int) - 52) (-1074)=(Q:Int) - 1074∧L+P≤Q+52+1074∧Q≤k+1022∧(Q=k+1022→L+P=Q+52+1074):=by
  refine ⟨(max ((P:Int) - 2148+(L:Int) - 52) (-1074)+1074).toNat,by omega,by omega,by omega,by omega⟩
 rw [show ((52:Nat):Int)=52 from rfl,hQ,show ((Q:Int) - 1074 - -1074).toNat=Q by omega]
 by_cases hE:Q=k+1022
 ·
  have e1:=hQ3 hE
  have hm:m=2 ^ L:=by
   have h1:m*2 ^ P≤2 ^ L*2 ^ P:=by rw [←Nat.pow_add,show L+P=k+2148 by omega];exact h
   exact Nat.le_antisymm (Nat.le_of_mul_le_mul_right h1 (Nat.two_pow_pos _)) hm1
  have hc:Toward.even.cut s (m <<< ((P:Int) - 2148 - ((Q:Int) - 1074)).toNat) ((Q:Int) - 1074 - ((P:Int) - 2148)).toNat≤2 ^ 52:=by
   rw [Nat.shiftLeft_eq,hm,←Nat.pow_add]
   have e2:L+((P:Int) - 2148 - ((Q:Int) - 1074)).toNat=52+((Q:Int) - 1074 - ((P:Int) - 2148)).toNat:=by omega
   rw [e2,Nat.pow_add]
   exact cut_exact _ _ _
  rw [hE] at hc ⊢
  rw [show k+1023=(k+1022)+1 by omega,Nat.add_mul (k+1022) 1 (2 ^ 52),Nat.one_mul]
  exact Nat.add_le_add_left hc _
 ·have hc:Toward.even.cut s (m <<< ((P:Int) - 2148 - ((Q:Int) - 1074)).toNat) ((Q:Int) - 1074 - ((P:Int) - 2148)).toNat≤2 ^ 53:=by
   refine cut_le _ _ _ _ ?_
   rw [Nat.shiftLeft_eq,←Nat.pow_add]
   calc m*2 ^ ((P:Int) - 2148 - ((Q:Int) - 1074)).toNat < 2 ^ (L+1)*2 ^ ((P:Int) - 2148 - ((Q:Int) - 1074)).toNat:=Nat.mul_lt_mul_of_pos_right hm2 (Nat.two_pow_pos _)
    _=2 ^ (L+1+((P:Int) - 2148 - ((Q:Int) - 1074)).toNat):=by rw [←Nat.pow_add]
    _≤2 ^ (53+((Q:Int) - 1074 - ((P:Int) - 2148)).toNat):=Nat.pow_le_pow_right (by omega) (by omega)
  have h2:Q*2 ^ 52+2 ^ 53≤(k+1023)*2 ^ 52:=by
   have:Q*2 ^ 52+2 ^ 53=(Q+2)*2 ^ 52:=by rw [Nat.add_mul,show 2*2 ^ 52=2 ^ 53 from rfl]
   rw [this]
   exact Nat.mul_le_mul_right _ (by omega)
  exact Nat.le_trans (Nat.add_le_add_left hc _) h2
theorem signed_abs (s:Bool) (m u:Nat):(signed s m u).natAbs=m*2 ^ u:=by
 unfold signed
 rw [Nat.shiftLeft_eq]
 cases s
 ·exact Int.natAbs_natCast (m*2 ^ u)
 ·exact (Int.natAbs_neg _).trans (Int.natAbs_natCast (m*2 ^ u))
theorem opp_number (s:Bool) (m:Nat) (p:Int):(Datum.number s m p).opposite = .number (!s) m p:=rfl
theorem sum_fb {k:Nat} (hk:k≤800) {a b:Datum} (s t:Bool) (m n i j:Nat) (ha:a = .number s m ((i:Int) - 1074)) (hb:b = .number t n ((j:Int) - 1074)) (h1:m*2 ^ i≤2 ^ (k+1074)) (h2:n*2 ^ j≤2 ^ (k+1074)) :
  ∃ r,(a.sum b).map double.write=some r∧fb (k+1) r:=by
 subst ha;subst hb
 refine ⟨_,rfl,?_⟩
 refine nearest_fb (by omega) _ _ _ (by omega) ?_
 obtain ⟨B,hB,hBi,hBj⟩:∃ B:Nat,min ((i:Int) - 1074) ((j:Int) - 1074)=(B:Int) - 1074∧B≤i∧B≤j:=⟨min i j,by omega,by omega,by omega⟩
 rw [hB,show ((i:Int) - 1074 - ((B:Int) - 1074)).toNat=i - B by omega,show ((j:Int) - 1074 - ((B:Int) - 1074)).toNat=j - B by omega,show ((B:Int) - 1074+2148).toNat=B+1074 by omega]
 have h3:=Int.natAbs_add_le (signed s m (i - B)) (signed t n (j - B))
 rw [signed_abs,signed_abs] at h3
 calc (signed s m (i - B)+signed t n (j - B)).natAbs*2 ^ (B+1074)≤(m*2 ^ (i - B)+n*2 ^ (j - B))*2 ^ (B+1074):=Nat.mul_le_mul_right _ h3
  _=(m*2 ^ i+n*2 ^ j)*2 ^ 1074:=by
   rw [Nat.pow_add 2 B 1074,←Nat.mul_assoc,Nat.add_mul,Nat.mul_assoc,Nat.mul_assoc,←Nat.pow_add,←Nat.pow_add,Nat.sub_add_cancel hBi,Nat.sub_add_cancel hBj]
  _≤(2 ^ (k+1074)+2 ^ (k+1074))*2 ^ 1074:=Nat.mul_le_mul_right _ (Nat.add_le_add h1 h2)
  _=2 ^ (k+1+2148):=by rw [←Nat.mul_two,←Nat.pow_succ,←Nat.pow_add,show k+1074+1+1074=k+1+2148 by omega]
theorem add_fb {k x y:Nat} (hk:k≤800) (hx:fb k x) (hy:fb k y):∃ r,double.add x y=some r∧fb (k+1) r:=by
 obtain ⟨s,m,i,e1,h1,_⟩ :=read_fb (by omega) hx
 obtain ⟨t,n,j,e2,h2,_⟩ :=read_fb (by omega) hy
 exact sum_fb hk s t m n i j e1 e2 h1 h2
theorem sub_fb {k x y:Nat} (hk:k≤800) (hx:fb k x) (hy:fb k y):∃ r,double.sub x y=some r∧fb (k+1) r:=by
 obtain ⟨s,m,i,e1,h1,_⟩ :=read_fb (by omega) hx
 obtain ⟨t,n,j,e2,h2,_⟩ :=read_fb (by omega) hy
 exact sum_fb hk s (!t) m n i j e1 (by rw [e2];rfl) h1 h2
theorem mul_fb {k l x y:Nat} (hk:k+l≤800) (hx:fb k x) (hy:fb l y):∃ r,double.mul x y=some r∧fb (k+l) r:=by
 obtain ⟨s,m,i,e1,h1,_⟩ :=read_fb (by omega) hx
 obtain ⟨t,n,j,e2,h2,_⟩ :=read_fb (by omega) hy
 unfold Format.mul
 rw [e1,e2]
 refine ⟨_,rfl,?_⟩
 refine nearest_fb (by omega) _ _ _ (by omega) ?_
 rw [show ((i:Int) - 1074+((j:Int) - 1074)+2148).toNat=i+j by omega]
 calc m*n*2 ^ (i+j)=(m*2 ^ i)*(n*2 ^ j):=by rw [Nat.pow_add,Nat.mul_mul_mul_comm]
  _≤2 ^ (k+1074)*2 ^ (l+1074):=Nat.mul_le_mul h1 h2
  _=2 ^ (k+l+2148):=by rw [←Nat.pow_add,show k+1074+(l+1074)=k+l+2148 by omega]
theorem ofInt_fb {k:Nat} (hk:k≤800) (n:Int) (h:n.natAbs≤2 ^ k):fb k (double.nearest (n < 0) n.natAbs 0):=by
 refine nearest_fb (by omega) _ _ _ (by omega) ?_
 rw [show ((0:Int)+2148).toNat=2148 from rfl,Nat.pow_add]
 exact Nat.mul_le_mul_right _ h
theorem read_256:double.read 4643211215818981376 = .number false (2 ^ 52) (-44):=by
 rw [read_eq]
 rfl
theorem div_fb {k x:Nat} (hk:k≤800) (hx:fb k x):∃ r,double.div x 4643211215818981376=some r∧fb k r:=by
 obtain ⟨s,m,i,e1,h1,hm⟩ :=read_fb (by omega) hx
 unfold Format.div
 rw [e1,read_256]
 unfold Datum.quotient
 simp only [d_fr]
 rw [if_neg (Nat.ne_of_gt (Nat.two_pow_pos 52)),Nat.log2_two_pow]
 have hl:m.log2≤52:=by
  rcases Nat.eq_zero_or_pos m with h0 | h0
  ·subst h0;decide
  ·have:=(Nat.log2_lt (Nat.ne_of_gt h0)).2 hm
   omega
 obtain ⟨u,hu,hu2⟩:∃ u,52+2+52 - m.log2=u+52∧u≤54:=⟨54 - m.log2,by omega,by omega⟩
 rw [hu,Nat.shiftLeft_eq,Nat.pow_add 2 u 52,←Nat.mul_assoc,Nat.mul_div_cancel _ (Nat.two_pow_pos 52),Nat.mul_mod_left]
 refine ⟨_,rfl,?_⟩
 refine nearest_fb (by omega) _ _ _ (by omega) ?_
 rw [show ((i:Int) - 1074 - -44 - ((u+52:Nat):Int) - 1+2148).toNat=i+1065 - u by omega]
 have e2:(2*(m*2 ^ u)+(0 != 0).toNat)=m*2 ^ (u+1):=by
  show 2*(m*2 ^ u)+0=_
  rw [Nat.pow_succ,Nat.add_zero,Nat.mul_comm,Nat.mul_assoc]
 rw [e2,Nat.mul_assoc,←Nat.pow_add,show u+1+(i+1065 - u)=i+1066 by omega,Nat.pow_add,←Nat.mul_assoc]
 calc m*2 ^ i*2 ^ 1066≤2 ^ (k+1074)*2 ^ 1066:=Nat.mul_le_mul_right _ h1
  _=2 ^ (k+1074+1066):=by rw [←Nat.pow_add]
  _≤2 ^ (k+2148):=Nat.pow_le_pow_right (by omega) (by omega)
theorem cut0_le (neg:Bool) (n drop B:Nat) (h:n≤B*2 ^ drop):Toward.zero.cut neg n drop≤B:=by
 unfold Toward.cut
 simp only [Nat.one_shiftLeft,Bool.toNat_false,Nat.add_zero]
 by_cases hd:drop≤n.log2+2
 ·rw [Nat.min_eq_left hd]
  exact Nat.div_le_of_le_mul (by rw [Nat.mul_comm];exact h)
 ·rw [Nat.min_eq_right (by omega)]
  have h1:n < 2 ^ (n.log2+2):=Nat.lt_of_lt_of_le Nat.lt_log2_self (Nat.pow_le_pow_right (by omega) (by omega))
  rw [Nat.div_eq_of_lt h1]
  exact Nat.zero_le _
theorem toInt_fb {k x:Nat} (hk:k≤800) (hx:fb k x):∃ n:Int,(double.read x).toInt .zero=some n∧n.natAbs≤2 ^ k:=by
 obtain ⟨s,m,i,e1,h1,_⟩ :=read_fb (by omega) hx
 rw [e1]
 refine ⟨_,rfl,?_⟩
 rw [signed_abs,Nat.pow_zero,Nat.mul_one]
 refine cut0_le _ _ _ _ ?_
 rw [Nat.shiftLeft_eq]
 by_cases hi:1074≤i
 ·rw [show ((i:Int) - 1074).toNat=i - 1074 by omega,show (-((i:Int) - 1074)).toNat=0 by omega,Nat.pow_zero,Nat.mul_one]
  have h2:m*2 ^ (i - 1074)*2 ^ 1074≤2 ^ k*2 ^ 1074:=by
   rw [Nat.mul_assoc,←Nat.pow_add,Nat.sub_add_cancel hi,←Nat.pow_add]
   exact h1
  exact Nat.le_of_mul_le_mul_right h2 (Nat.two_pow_pos _)
 ·rw [show ((i:Int) - 1074).toNat=0 by omega,show (-((i:Int) - 1074)).toNat=1074 - i by omega,Nat.pow_zero,Nat.mul_one]
  have h2:m*2 ^ i≤2 ^ k*2 ^ (1074 - i)*2 ^ i:=by
   rw [Nat.mul_assoc,←Nat.pow_add,Nat.sub_add_cancel (by omega),←Nat.pow_add]
   exact h1
  exact Nat.le_of_mul_le_mul_right h2 (Nat.two_pow_pos _)
end Go.Proofs.V

set_option maxRecDepth 100000
namespace Go.Proofs.V
open Go
abbrev LI:=List Int
structure Za where
 rate:Int
 quality:Int
 length:Int
 slots:(List LI)
 grades:(List LI)
 deriving DecidableEq,Inhabited
structure Zb where
 re:Nat
 im:Nat
 deriving DecidableEq,Inhabited
abbrev LZ:=List Zb
structure Zc where
 e0:Nat
 e1:Nat
 deriving DecidableEq,Inhabited
def rZb (x:Zb):List T:=[.lit (.float .f64 x.re),.lit (.float .f64 x.im)]
def rZc (x:Zc):List T:=[.lit (.float .f64 x.e0),.lit (.float .f64 x.e1)]
def tb_0:List Zc:=[(Zc.mk 4607182418800017408 0),(Zc.mk 4606496786581982534 13823937468626282851),(Zc.mk 4604544271217802189 13827916308072577997),(Zc.mk 4600565431771507043 13829868823436758342),(Zc.mk 0 13830554455654793216),(Zc.mk 13823937468626282851 13829868823436758342),(Zc.mk 13827916308072577997 13827916308072577997),(Zc.mk 13829868823436758342 13823937468626282851)]
def tv_0:List Value:=tb_0.flatMap fun x:Zc=>[.float .f64 x.e0,.float .f64 x.e1]
theorem tb_0_t:TabT tv_0 tb_0 rZc 8 2:=tab_tie (fun x:Zc=>[.float .f64 x.e0,.float .f64 x.e1]) (fun _=>rfl) (fun _=>rfl) rfl
def tb_1:List Int:=[16384,16364,16305,16207,16069,15893,15679,15426,15137,14811,14449,14053,13623,13160,12665,12140,11585,11003,10394,9760,9102,8423,7723,7005,6270,5520,4756,3981,3196,2404,1606,804,0]
def tv_1:List Value:=tb_1.flatMap fun x:Int=>[.int .i64 x]
theorem tb_1_t:TabT tv_1 tb_1 (rI .i64) 33 1:=tab_tie (fun x:Int=>[.int .i64 x]) (fun _=>rfl) (fun _=>rfl) rfl
noncomputable section
def m_Lj_19 (a:LI):Option (LI):=
 some a
def m_Lj_9 (p0:LI) (a:Int) (b:LI):Option ((Int×LI)⊕((LI))):=
 if (decide (a < (p0.length:Int))) then
  (rd p0 a).bind fun c=>
  (rd b a).bind fun _=>
  some (.inl ((w64 (a+1)),(b.set (0+Int.toNat a) c)))
 else
  some (.inr b)
def lp_Lj_9 (p0:LI) (s:Int×LI):Option ((Int×LI)⊕((LI))):=m_Lj_9 p0 s.1 s.2
def m_Lj_0 (p0:LI):Option (LI):=
 (ck (decide ((0:Int)≤(p0.length:Int)∧(p0.length:Int)≤(17592186044416:Int)))).bind fun _=>
 (loopM (lp_Lj_9 p0) (0,(List.replicate (Int.toNat (p0.length:Int)) (0:Int)))).bind fun e=>m_Lj_19 e
def m_Lj (p0:LI):Option (LI):=m_Lj_0 p0
def m_Se_0 (p0 p1 p2:Int):Option (Bool):=
 if (decide (p0≥1)) then
  if (decide (p0≤1000000)) then
   if (decide (p1≥0)) then
    if (decide (p1≤15)) then
     if (decide (p2≥0)) then
      some (decide (p2≤4000))
     else
      some false
    else
     some false
   else
    some false
  else
   some false
 else
  some false
def m_Se (p0 p1 p2:Int):Option (Bool):=m_Se_0 p0 p1 p2
def m_Si_25 (p0:LI) (p1:Int):Option (Bool):=
 if (decide (p1 < 0)) then
  some true
 else
  some ((p0.length:Int) == p1)
def m_Si_7 (p0:LI) (p1 a:Int):Option ((Int)⊕((Bool)⊕((Unit)))):=
 if (decide (a < (p0.length:Int))) then
  (rd p0 a).bind fun b=>
  if (decide (b < (-32768))) then
   some (.inr (.inl false))
  else
   if (decide (b > 32767)) then
    some (.inr (.inl false))
   else
    some (.inl (w64 (a+1)))
 else
  some (.inr (.inr ()))
def lp_Si_7 (p0:LI) (p1 s:Int):Option ((Int)⊕((Bool)⊕((Unit)))):=m_Si_7 p0 p1 s
def m_Si_0 (p0:LI) (p1:Int):Option (Bool):=
 (loopM (lp_Si_7 p0 p1) 0).bind fun e=>match e with | .inl e=>some e | .inr e=>m_Si_25 p0 p1
def m_Si (p0:LI) (p1:Int):Option (Bool):=m_Si_0 p0 p1
def m_Sj_0 (p0:Int):Option (Int):=
 some (w64 ((w64 (Int.tdiv (w64 (p0+15)) 16))+1))
def m_Sj (p0:Int):Option (Int):=m_Sj_0 p0
def m_Sg_0:Option (LZ):=
 some ([(Zb.mk 4607182418800017408 0),(Zb.mk 4606496786581982534 13823937468626282851),(Zb.mk 4604544271217802189 13827916308072577997),(Zb.mk 4600565431771507043 13829868823436758342),(Zb.mk 0 13830554455654793216),(Zb.mk 13823937468626282851 13829868823436758342),(Zb.mk 13827916308072577997 13827916308072577997),(Zb.mk 13829868823436758342 13823937468626282851)]:LZ)
def m_Sg:Option (LZ):=m_Sg_0
def m_Sl_84 (a b:Int) (d c:LZ):Option ((Int×LZ)⊕((LZ))):=
 some (.inl ((w64 (b+(w64 (2*a)))),c))
def m_Sl_54 (b c:Int) (l:LZ) (a:Int) (d:LZ):Option ((Int×LZ)⊕((LZ))):=
 if (decide (a < b)) then
  (rd d (w64 (c+a))).bind fun e=>
  (rd d (w64 ((w64 (c+a))+b))).bind fun f=>
  (ck (decide ((b:Int)≠0))).bind fun _=>
  (rd l (w64 (Int.tdiv (w64 (a*8)) b))).bind fun g=>
  (vfl .mul .f64 f.re g.re).bind fun m=>
  (vfl .mul .f64 f.im g.im).bind fun n=>
  (vfl .mul .f64 f.re g.im).bind fun o=>
  (vfl .mul .f64 f.im g.re).bind fun p=>
  (vfl .sub .f64 m n).bind fun h=>
  (vfl .add .f64 o p).bind fun i=>
  (vfl .add .f64 e.re h).bind fun j=>
  (vfl .add .f64 e.im i).bind fun k=>
  (vfl .sub .f64 e.re h).bind fun q=>
  (vfl .sub .f64 e.im i).bind fun r=>
  (rd (d.set (0+Int.toNat (w64 (c+a))) (Zb.mk j k)) (w64 ((w64 (c+a))+b))).bind fun _=>
  some (.inl ((w64 (a+1)),((d.set (0+Int.toNat (w64 (c+a))) (Zb.mk j k)).set (0+Int.toNat (w64 ((w64 (c+a))+b))) (Zb.mk q r))))
 else
  some (.inr d)
def lp_Sl_54 (a b:Int) (c:LZ) (s:Int×LZ):Option ((Int×LZ)⊕((LZ))):=m_Sl_54 a b c s.1 s.2
def m_Sl_85 (a:Int) (c b:LZ):Option ((Int×LZ)⊕((LZ))):=
 some (.inl ((w64 (a*2)),b))
def m_Sl_42 (b:Int) (c:LZ) (a:Int) (d:LZ):Option ((Int×LZ)⊕((LZ))):=
 if (decide (a < 16)) then
  (loopM (lp_Sl_54 b a c) (0,d)).bind fun e=>m_Sl_84 b a c e
 else
  some (.inr d)
def lp_Sl_42 (a:Int) (b:LZ) (s:Int×LZ):Option ((Int×LZ)⊕((LZ))):=m_Sl_42 a b s.1 s.2
def m_Sl_86 (a:LZ):Option (LZ):=
 some a
def m_Sl_30 (b:LZ) (a:Int) (c:LZ):Option ((Int×LZ)⊕((LZ))):=
 if (decide (a < 16)) then
  (loopM (lp_Sl_42 a b) (0,c)).bind fun e=>m_Sl_85 a b e
 else
  some (.inr c)
def lp_Sl_30 (a:LZ) (s:Int×LZ):Option ((Int×LZ)⊕((LZ))):=m_Sl_30 a s.1 s.2
def m_Sl_25 (a b:LZ):Option (LZ):=
 (loopM (lp_Sl_30 a) (1,b)).bind fun e=>m_Sl_86 e
def m_Sl_11 (p0:LI) (e:LZ) (c a:Int) (b:LZ):Option ((Int×Int×LZ)⊕((LZ))):=
 if (decide (a < c)) then
  (rd p0 (orI .i64 (orI .i64 (orI .i64 (shlI .i64 (andI .i64 a 1) 3) (shlI .i64 (andI .i64 (shrI .i64 a 1) 1) 2)) (shlI .i64 (andI .i64 (shrI .i64 a 2) 1) 1)) (andI .i64 (shrI .i64 a 3) 1))).bind fun d=>
  (rd b a).bind fun _=>
  some (.inl (c,(w64 (a+1)),(b.set (0+Int.toNat a) (Zb.mk (FloatKind.nearest .f64 d) 0))))
 else
  some (.inr b)
def lp_Sl_11 (p0:LI) (a:LZ) (s:Int×Int×LZ):Option ((Int×Int×LZ)⊕((LZ))):=m_Sl_11 p0 a s.1 s.2.1 s.2.2
def m_Sl_0 (p0:LI):Option (LZ):=
 (m_Sg).bind fun a=>
 (ck (decide ((0:Int)≤16∧16≤(8796093022208:Int)))).bind fun _=>
 (loopM (lp_Sl_11 p0 a) (((Int.toNat 16):Int),0,(List.replicate (Int.toNat 16) ((Zb.mk 0 0):Zb)))).bind fun e=>m_Sl_25 a e
def m_Sl (p0:LI):Option (LZ):=m_Sl_0 p0
def m_Sh_29 (a:LI):Option (LI):=
 some a
def m_Sh_11 (e:LZ) (d a:Int) (c:LI):Option ((Int×Int×LI)⊕((LI))):=
 if (decide (a < d)) then
  (rd e a).bind fun b=>
  (vfl .mul .f64 b.re b.re).bind fun f=>
  (vfl .mul .f64 b.im b.im).bind fun g=>
  (vfl .add .f64 f g).bind fun h=>
  (vfl .quo .f64 h 4643211215818981376).bind fun i=>
  (vf2i .f64 i .i64).bind fun j=>
  (rd c a).bind fun _=>
  some (.inl (d,(w64 (a+1)),(c.set (0+Int.toNat a) j)))
 else
  some (.inr c)
def lp_Sh_11 (a:LZ) (s:Int×Int×LI):Option ((Int×Int×LI)⊕((LI))):=m_Sh_11 a s.1 s.2.1 s.2.2
def m_Sh_0 (p0:LI):Option (LI):=
 (m_Sl p0).bind fun a=>
 (ck (decide ((0:Int)≤8∧8≤(17592186044416:Int)))).bind fun _=>
 (loopM (lp_Sh_11 a) (((Int.toNat 8):Int),0,(List.replicate (Int.toNat 8) (0:Int)))).bind fun e=>m_Sh_29 e
def m_Sh (p0:LI):Option (LI):=m_Sh_0 p0
def m_Sa_25 (p1 a:Int):Option (Int):=
 if (decide ((w64 ((w64 (Int.tdiv (w64 (a+1)) 2)) - p1)) < 0)) then
  some 0
 else
  if (decide ((w64 ((w64 (Int.tdiv (w64 (a+1)) 2)) - p1)) > 12)) then
   some 12
  else
   some (w64 ((w64 (Int.tdiv (w64 (a+1)) 2)) - p1))
def m_Sa_15 (p1 a b:Int):Option ((Int×Int)⊕((Int))):=
 if (decide (a > 0)) then
  some (.inl ((w64 (Int.tdiv a 2)),(w64 (b+1))))
 else
  some (.inr b)
def lp_Sa_15 (p1:Int) (s:Int×Int):Option ((Int×Int)⊕((Int))):=m_Sa_15 p1 s.1 s.2
def m_Sa_0 (p0 p1:Int):Option (Int):=
 if (decide (p0 < 0)) then
  some 0
 else
  if (decide (p1 < 0)) then
   some 0
  else
   if (decide (p1 > 15)) then
    some 0
   else
    (loopM (lp_Sa_15 p1) (p0,0)).bind fun e=>m_Sa_25 p1 e
def m_Sa (p0 p1:Int):Option (Int):=m_Sa_0 p0 p1
def m_Sk_0:Option (LI):=
 some ([16384,16364,16305,16207,16069,15893,15679,15426,15137,14811,14449,14053,13623,13160,12665,12140,11585,11003,10394,9760,9102,8423,7723,7005,6270,5520,4756,3981,3196,2404,1606,804,0]:LI)
def m_Sk:Option (LI):=m_Sk_0
def m_Sd_0 (p0:LI) (p1:Int):Option (Int):=
 if (decide ((andI .i64 p1 127)≤32)) then
  (rd p0 (andI .i64 p1 127)).bind fun b=>
  some b
 else
  if (decide ((andI .i64 p1 127)≤64)) then
   (rd p0 (w64 (64 - (andI .i64 p1 127)))).bind fun c=>
   some (w64 (0 - c))
  else
   if (decide ((andI .i64 p1 127)≤96)) then
    (rd p0 (w64 ((andI .i64 p1 127) - 64))).bind fun a=>
    some (w64 (0 - a))
   else
    (rd p0 (w64 (128 - (andI .i64 p1 127)))).bind fun a=>
    some a
def m_Sd (p0:LI) (p1:Int):Option (Int):=m_Sd_0 p0 p1
def m_Sc_23 (a:LI):Option (LI):=
 some a
def m_Sc_11 (d:LI) (c a:Int) (b:LI):Option ((Int×Int×LI)⊕((LI))):=
 if (decide (a < c)) then
  (m_Sd d (w64 (31 - (w64 (2*a))))).bind fun e=>
  (rd b a).bind fun _=>
  some (.inl (c,(w64 (a+1)),(b.set (0+Int.toNat a) e)))
 else
  some (.inr b)
def lp_Sc_11 (a:LI) (s:Int×Int×LI):Option ((Int×Int×LI)⊕((LI))):=m_Sc_11 a s.1 s.2.1 s.2.2
def m_Sc_0:Option (LI):=
 (m_Sk).bind fun a=>
 (ck (decide ((0:Int)≤32∧32≤(17592186044416:Int)))).bind fun _=>
 (loopM (lp_Sc_11 a) (((Int.toNat 32):Int),0,(List.replicate (Int.toNat 32) (0:Int)))).bind fun e=>m_Sc_23 e
def m_Sc:Option (LI):=m_Sc_0
def m_Sf_65 (a c:Int) (e f b:LI) (d:Int):Option ((Int×Int×LI)⊕((LI))):=
 (rd b a).bind fun _=>
 some (.inl (c,(w64 (a+1)),(b.set (0+Int.toNat a) (shrI .i64 d 14))))
def m_Sf_53 (d h:Int) (b e i:LI) (c a:Int):Option ((Int×Int)⊕((Int))):=
 if (decide (a < (b.length:Int))) then
  (rd b a).bind fun f=>
  (m_Sd e (w64 ((w64 ((w64 (2*a))+17))*(w64 ((w64 (2*d))+1))))).bind fun g=>
  some (.inl ((w64 (c+(w64 (f*g)))),(w64 (a+1))))
 else
  some (.inr c)
def lp_Sf_53 (a b:Int) (c d e:LI) (s:Int×Int):Option ((Int×Int)⊕((Int))):=m_Sf_53 a b c d e s.1 s.2
def m_Sf_67 (a:LI):Option (LI):=
 some a
def m_Sf_36 (d f:LI) (a b:Int) (c:LI):Option ((Int×Int×LI)⊕((LI))):=
 if (decide (b < a)) then
  (loopM (lp_Sf_53 b a f d c) (8192,0)).bind fun e=>m_Sf_65 b a d f c e
 else
  some (.inr c)
def lp_Sf_36 (a b:LI) (s:Int×Int×LI):Option ((Int×Int×LI)⊕((LI))):=m_Sf_36 a b s.1 s.2.1 s.2.2
def m_Sf_29 (a b:LI):Option (LI):=
 (ck (decide ((0:Int)≤16∧16≤(17592186044416:Int)))).bind fun _=>
 (loopM (lp_Sf_36 a b) (((Int.toNat 16):Int),0,(List.replicate (Int.toNat 16) (0:Int)))).bind fun e=>m_Sf_67 e
def m_Sf_17 (g d:LI) (c a:Int) (b:LI):Option ((Int×Int×LI)⊕((LI))):=
 if (decide (a < c)) then
  (rd b a).bind fun e=>
  (rd d a).bind fun f=>
  some (.inl (c,(w64 (a+1)),(b.set (0+Int.toNat a) (shrI .i64 (w64 ((w64 (e*f))+8192)) 14))))
 else
  some (.inr b)
def lp_Sf_17 (a b:LI) (s:Int×Int×LI):Option ((Int×Int×LI)⊕((LI))):=m_Sf_17 a b s.1 s.2.1 s.2.2
def m_Sf_0 (p0 p1:LI):Option (LI):=
 (m_Sk).bind fun a=>
 (m_Sc).bind fun b=>
 (ck (decide (([]:LI).length+p0.length≤17592186044416))).bind fun _=>
 (ck (decide ((([]:LI)++p0).length+p1.length≤17592186044416))).bind fun _=>
 (loopM (lp_Sf_17 a b) ((((([]:LI)++p0)++p1).length:Int),0,((([]:LI)++p0)++p1))).bind fun e=>m_Sf_29 a e
def m_Sf (p0 p1:LI):Option (LI):=m_Sf_0 p0 p1
def m_Sb_96 (p1 f e p0:Int) (p2 g a:LI) (b:(List LI)) (c:(List LI)) (d:LI):Option ((Int×(List LI)×(List LI))⊕(((List LI)×(List LI)))):=
 (ck (decide (b.length+([d]:List LI).length≤5864062014805))).bind fun _=>
 (ck (decide (c.length+([a]:List LI).length≤5864062014805))).bind fun _=>
 some (.inl ((w64 (e+1)),(b++([d]:List LI)),(c++([a]:List LI))))
def m_Sb_78 (p1 g h:Int) (e:LI) (p0:Int) (p2 i f:LI) (j:(List LI)) (k:(List LI)) (a:Int) (c:LI):Option ((Int×LI)⊕((LI))):=
 if (decide (a < (e.length:Int))) then
  (rd c a).bind fun d=>
  (rd f (w64 (Int.tdiv a 2))).bind fun b=>
  (ck (decide ((0:Int)≤(wr .u64 b)))).bind fun _=>
  if (decide (d < 0)) then
   (ck (decide (((shlI .i64 1 (wr .u64 b)):Int)≠0))).bind fun _=>
   some (.inl ((w64 (a+1)),(c.set (0+Int.toNat a) (w64 (0 - (w64 (Int.tdiv (w64 ((w64 (0 - d))+(w64 (Int.tdiv (shlI .i64 1 (wr .u64 b)) 2)))) (shlI .i64 1 (wr .u64 b)))))))))
  else
   (ck (decide (((shlI .i64 1 (wr .u64 b)):Int)≠0))).bind fun _=>
   some (.inl ((w64 (a+1)),(c.set (0+Int.toNat a) (w64 (Int.tdiv (w64 (d+(w64 (Int.tdiv (shlI .i64 1 (wr .u64 b)) 2)))) (shlI .i64 1 (wr .u64 b)))))))
 else
  some (.inr c)
def lp_Sb_78 (p1 a b:Int) (c:LI) (p0:Int) (p2 d e:LI) (f:(List LI)) (g:(List LI)) (s:Int×LI):Option ((Int×LI)⊕((LI))):=m_Sb_78 p1 a b c p0 p2 d e f g s.1 s.2
def m_Sb_71 (p1 b c p0:Int) (p2 a:LI) (d:(List LI)) (f:(List LI)) (n71_0:Nat) (n71_1:Nat) (g:LI) (n71_3:Nat) (n71_4:Nat):Option ((Int×(List LI)×(List LI))⊕(((List LI)×(List LI)))):=
 (ck (decide (n71_0+n71_3≤a.length))).bind fun _=>
 (ck (decide (n71_1+n71_4≤a.length))).bind fun _=>
 (m_Sf ((a.drop n71_0).take n71_3) ((a.drop n71_1).take n71_4)).bind fun h=>
 (loopM (lp_Sb_78 p1 b c h p0 p2 a g d f) (0,h)).bind fun e=>m_Sb_96 p1 b c p0 p2 a g d f e
def m_Sb_59 (p1 g h p0:Int) (p2 i d:LI) (j:(List LI)) (k:(List LI)) (n59_0:Nat) (n59_1:Nat) (c a:Int) (b:LI) (n59_5:Nat) (n59_6:Nat):Option ((Nat×Nat×Int×Int×LI×Nat×Nat)⊕((Nat×Nat×LI×Nat×Nat))):=
 if (decide (a < c)) then
  (rd d a).bind fun e=>
  (m_Sa e p1).bind fun f=>
  (rd b a).bind fun _=>
  some (.inl (n59_0,n59_1,c,(w64 (a+1)),(b.set (0+Int.toNat a) f),n59_5,n59_6))
 else
  some (.inr (n59_0,n59_1,b,n59_5,n59_6))
def lp_Sb_59 (p1 a b p0:Int) (p2 c d:LI) (e:(List LI)) (f:(List LI)) (s:Nat×Nat×Int×Int×LI×Nat×Nat):Option ((Nat×Nat×Int×Int×LI×Nat×Nat)⊕((Nat×Nat×LI×Nat×Nat))):=m_Sb_59 p1 a b p0 p2 c d e f s.1 s.2.1 s.2.2.1 s.2.2.2.1 s.2.2.2.2.1 s.2.2.2.2.2.1 s.2.2.2.2.2.2
def m_Sb_100 (p0 p1:Int) (p2:LI) (a:(List LI)) (b:(List LI)):Option (Za):=
 some (Za.mk p0 p1 (p2.length:Int) a b)
def m_Sb_38 (p1 c p0:Int) (p2 b:LI) (a:Int) (d:(List LI)) (f:(List LI)):Option ((Int×(List LI)×(List LI))⊕(((List LI)×(List LI)))):=
 if (decide (a < c)) then
  (ck (decide ((0:Int)≤(w64 ((w64 (16*a))+16))∧(w64 ((w64 (16*a))+16))≤(b.length:Int)))).bind fun _=>
  (ck (decide ((0:Int)≤(w64 (16*a))∧(w64 (16*a))≤((Int.toNat (w64 ((w64 (16*a))+16))):Int)))).bind fun _=>
  (ck (decide ((0:Int)≤(w64 ((w64 (16*a))+32))∧(w64 ((w64 (16*a))+32))≤(b.length:Int)))).bind fun _=>
  (ck (decide ((0:Int)≤(w64 ((w64 (16*a))+16))∧(w64 ((w64 (16*a))+16))≤((Int.toNat (w64 ((w64 (16*a))+32))):Int)))).bind fun _=>
  (ck (decide ((0+(Int.toNat (w64 ((w64 (16*a))+16))))+((Int.toNat (w64 ((w64 (16*a))+32))) - (Int.toNat (w64 ((w64 (16*a))+16))))≤b.length))).bind fun _=>
  (m_Sh ((b.drop (0+(Int.toNat (w64 ((w64 (16*a))+16))))).take ((Int.toNat (w64 ((w64 (16*a))+32))) - (Int.toNat (w64 ((w64 (16*a))+16)))))).bind fun g=>
  (ck (decide ((0:Int)≤8∧8≤(17592186044416:Int)))).bind fun _=>
  (loopM (lp_Sb_59 p1 c a p0 p2 b g d f) ((0+(Int.toNat (w64 (16*a)))),(0+(Int.toNat (w64 ((w64 (16*a))+16)))),((Int.toNat 8):Int),0,(List.replicate (Int.toNat 8) (0:Int)),((Int.toNat (w64 ((w64 (16*a))+16))) - (Int.toNat (w64 (16*a)))),((Int.toNat (w64 ((w64 (16*a))+32))) - (Int.toNat (w64 ((w64 (16*a))+16)))))).bind fun e=>m_Sb_71 p1 c a p0 p2 b d f e.1 e.2.1 e.2.2.1 e.2.2.2.1 e.2.2.2.2
 else
  some (.inr (d,f))
def lp_Sb_38 (p1 a p0:Int) (p2 b:LI) (s:Int×(List LI)×(List LI)):Option ((Int×(List LI)×(List LI))⊕(((List LI)×(List LI)))):=m_Sb_38 p1 a p0 p2 b s.1 s.2.1 s.2.2
def m_Sb_33 (p1 a p0:Int) (p2 b:LI):Option (Za):=
 (loopM (lp_Sb_38 p1 a p0 p2 b) (0,([]:List LI),([]:List LI))).bind fun e=>m_Sb_100 p0 p1 p2 e.1 e.2
def m_Sb_21 (p1 d:Int) (p2:LI) (p0 a:Int) (b:LI):Option ((Int×LI)⊕((LI))):=
 if (decide (a < (p2.length:Int))) then
  (rd p2 a).bind fun c=>
  (rd b (w64 (16+a))).bind fun _=>
  some (.inl ((w64 (a+1)),(b.set (0+Int.toNat (w64 (16+a))) c)))
 else
  some (.inr b)
def lp_Sb_21 (p1 a:Int) (p2:LI) (p0:Int) (s:Int×LI):Option ((Int×LI)⊕((LI))):=m_Sb_21 p1 a p2 p0 s.1 s.2
def m_Sb_5 (p0 p1:Int) (p2:LI) (b:Bool):Option (Za):=
 if b then
  some (Za.mk 0 0 0 ([]:List LI) ([]:List LI))
 else
  (m_Sj (p2.length:Int)).bind fun a=>
  (ck (decide ((0:Int)≤(w64 ((w64 (16*a))+16))∧(w64 ((w64 (16*a))+16))≤(17592186044416:Int)))).bind fun _=>
  (loopM (lp_Sb_21 p1 a p2 p0) (0,(List.replicate (Int.toNat (w64 ((w64 (16*a))+16))) (0:Int)))).bind fun e=>m_Sb_33 p1 a p0 p2 e
def m_Sb_0 (p0 p1:Int) (p2:LI):Option (Za):=
 (m_Se p0 p1 (p2.length:Int)).bind fun a=>
 if a then
  (m_Si p2 (-1)).bind fun b=>
  m_Sb_5 p0 p1 p2 (!b)
 else
  m_Sb_5 p0 p1 p2 true
def m_Sb (p0 p1:Int) (p2:LI):Option (Za):=m_Sb_0 p0 p1 p2
def m_Ij_33:Option (Bool):=
 some true
def m_Ij_15 (p1 p2:Int) (p0:LI) (a:Int):Option ((Int)⊕((Bool)⊕((Unit)))):=
 if (decide (a < (p0.length:Int))) then
  (rd p0 a).bind fun b=>
  if (decide (b < p1)) then
   some (.inr (.inl false))
  else
   if (decide (b > p2)) then
    some (.inr (.inl false))
   else
    some (.inl (w64 (a+1)))
 else
  some (.inr (.inr ()))
def lp_Ij_15 (p1 p2:Int) (p0:LI) (s:Int):Option ((Int)⊕((Bool)⊕((Unit)))):=m_Ij_15 p1 p2 p0 s
def m_Ij_0 (p0:LI) (p1 p2 p3:Int):Option (Bool):=
 if (decide ((p0.length:Int) > p3)) then
  some false
 else
  (loopM (lp_Ij_15 p1 p2 p0) 0).bind fun e=>match e with | .inl e=>some e | .inr e=>m_Ij_33
def m_Ij (p0:LI) (p1 p2 p3:Int):Option (Bool):=m_Ij_0 p0 p1 p2 p3
def m_Ik_0 (p0:LI) (p1:Int):Option (Bool):=
 if ((p0.length:Int) == p1) then
  (m_Ij p0 (-32768) 32767 p1).bind fun a=>
  some a
 else
  some false
def m_Ik (p0:LI) (p1:Int):Option (Bool):=m_Ik_0 p0 p1
def m_Ie_78 (a b:Int) (c:LZ):Option ((Int×LZ)⊕((LZ))):=
 some (.inl ((w64 (b+(w64 (2*a)))),c))
def m_Ie_58 (b c a:Int) (d:LZ):Option ((Int×LZ)⊕((LZ))):=
 if (decide (a < b)) then
  (rd d (w64 (c+a))).bind fun e=>
  (rd d (w64 ((w64 (c+a))+b))).bind fun f=>
  (ck (decide ((b:Int)≠0))).bind fun _=>
  (rd tb_0 (w64 (Int.tdiv (w64 (a*8)) b))).bind fun g=>
  (vfl .mul .f64 f.re g.e0).bind fun l=>
  (vfl .mul .f64 f.im g.e1).bind fun m=>
  (vfl .sub .f64 l m).bind fun h=>
  (vfl .mul .f64 f.re g.e1).bind fun n=>
  (vfl .mul .f64 f.im g.e0).bind fun o=>
  (vfl .add .f64 n o).bind fun i=>
  (vfl .add .f64 e.re h).bind fun j=>
  (vfl .add .f64 e.im i).bind fun k=>
  (vfl .sub .f64 e.re h).bind fun p=>
  (vfl .sub .f64 e.im i).bind fun q=>
  (rd (d.set (0+Int.toNat (w64 (c+a))) (Zb.mk j k)) (w64 ((w64 (c+a))+b))).bind fun _=>
  some (.inl ((w64 (a+1)),((d.set (0+Int.toNat (w64 (c+a))) (Zb.mk j k)).set (0+Int.toNat (w64 ((w64 (c+a))+b))) (Zb.mk p q))))
 else
  some (.inr d)
def lp_Ie_58 (a b:Int) (s:Int×LZ):Option ((Int×LZ)⊕((LZ))):=m_Ie_58 a b s.1 s.2
def m_Ie_79 (a:Int) (b:LZ):Option ((Int×LZ)⊕((LZ))):=
 some (.inl ((w64 (a*2)),b))
def m_Ie_46 (b a:Int) (c:LZ):Option ((Int×LZ)⊕((LZ))):=
 if (decide (a < 16)) then
  (loopM (lp_Ie_58 b a) (0,c)).bind fun e=>m_Ie_78 b a e
 else
  some (.inr c)
def lp_Ie_46 (a:Int) (s:Int×LZ):Option ((Int×LZ)⊕((LZ))):=m_Ie_46 a s.1 s.2
def m_Ie_80 (a:LZ):Option (LZ):=
 some a
def m_Ie_34 (a:Int) (b:LZ):Option ((Int×LZ)⊕((LZ))):=
 if (decide (a < 16)) then
  (loopM (lp_Ie_46 a) (0,b)).bind fun e=>m_Ie_79 a e
 else
  some (.inr b)
def lp_Ie_34 (s:Int×LZ):Option ((Int×LZ)⊕((LZ))):=m_Ie_34 s.1 s.2
def m_Ie_29 (a:LZ):Option (LZ):=
 (loopM (lp_Ie_34) (1,a)).bind fun e=>m_Ie_80 e
def m_Ie_17 (p0:LI) (c a:Int) (b:LZ):Option ((Int×Int×LZ)⊕((LZ))):=
 if (decide (a < c)) then
  (rd p0 (orI .i64 (orI .i64 (orI .i64 (shlI .i64 (andI .i64 a 1) 3) (shlI .i64 (andI .i64 a 2) 1)) (shrI .i64 (andI .i64 a 4) 1)) (shrI .i64 (andI .i64 a 8) 3))).bind fun d=>
  (rd b a).bind fun e=>
  some (.inl (c,(w64 (a+1)),(b.set (0+Int.toNat a) (Zb.mk (FloatKind.nearest .f64 d) e.im))))
 else
  some (.inr b)
def lp_Ie_17 (p0:LI) (s:Int×Int×LZ):Option ((Int×Int×LZ)⊕((LZ))):=m_Ie_17 p0 s.1 s.2.1 s.2.2
def m_Ie_0 (p0:LI):Option (LZ):=
 (m_Ik p0 16).bind fun a=>
 if a then
  (ck (decide ((0:Int)≤16∧16≤(8796093022208:Int)))).bind fun _=>
  (loopM (lp_Ie_17 p0) (((Int.toNat 16):Int),0,(List.replicate (Int.toNat 16) ((Zb.mk 0 0):Zb)))).bind fun e=>m_Ie_29 e
 else
  some ([]:LZ)
def m_Ie (p0:LI):Option (LZ):=m_Ie_0 p0
def m_Ic_25 (a:LI):Option (LI):=
 some a
def m_Ic_9 (d:LZ) (a:Int) (b:LI):Option ((Int×LI)⊕((LI))):=
 if (decide (a < (d.length:Int))) then
  (rd d a).bind fun c=>
  if (decide (a < 8)) then
   (vfl .mul .f64 c.re c.re).bind fun f=>
   (vfl .mul .f64 c.im c.im).bind fun g=>
   (vfl .add .f64 f g).bind fun h=>
   (vfl .quo .f64 h 4643211215818981376).bind fun i=>
   (vf2i .f64 i .i64).bind fun e=>
   (ck (decide (b.length+([e]:LI).length≤17592186044416))).bind fun _=>
   some (.inl ((w64 (a+1)),(b++([e]:LI))))
  else
   some (.inl ((w64 (a+1)),b))
 else
  some (.inr b)
def lp_Ic_9 (a:LZ) (s:Int×LI):Option ((Int×LI)⊕((LI))):=m_Ic_9 a s.1 s.2
def m_Ic_0 (p0:LI):Option (LI):=
 (m_Ie p0).bind fun a=>
 (loopM (lp_Ic_9 a) (0,([]:LI))).bind fun e=>m_Ic_25 e
def m_Ic (p0:LI):Option (LI):=m_Ic_0 p0
def m_Ig_17 (a:Int):Option (Int):=
 some a
def m_Ig_7 (a b:Int):Option ((Int×Int)⊕((Int))):=
 if (decide (a > 0)) then
  some (.inl ((shrI .u64 a 1),(w64 (b+1))))
 else
  some (.inr b)
def lp_Ig_7 (s:Int×Int):Option ((Int×Int)⊕((Int))):=m_Ig_7 s.1 s.2
def m_Ig_0 (p0:Int):Option (Int):=
 (loopM (lp_Ig_7) (p0,0)).bind fun e=>m_Ig_17 e
def m_Ig (p0:Int):Option (Int):=m_Ig_0 p0
def m_Ia_0 (p0 p1:Int):Option (Int):=
 if (decide (p0 < 0)) then
  some 0
 else
  if (decide (p1 < 0)) then
   some 0
  else
   if (decide (p1 > 15)) then
    some 0
   else
    (m_Ig (wr .u64 p0)).bind fun a=>
    some (mnI (mxI (w64 ((w64 (Int.tdiv (w64 (a+1)) 2)) - p1)) 0) 12)
def m_Ia (p0 p1:Int):Option (Int):=m_Ia_0 p0 p1
def m_Ii_0 (p0:LI):Option (LI):=
 (ck (decide (([]:LI).length+p0.length≤17592186044416))).bind fun _=>
 some (([]:LI)++p0)
def m_Ii (p0:LI):Option (LI):=m_Ii_0 p0
def m_Ih_0 (p0:Int):Option (Int):=
 if (decide ((andI .i64 p0 127)≤32)) then
  (rd tb_1 (andI .i64 p0 127)).bind fun b=>
  some b
 else
  if (decide ((andI .i64 p0 127)≤64)) then
   (rd tb_1 (w64 (64 - (andI .i64 p0 127)))).bind fun c=>
   some (w64 (0 - c))
  else
   if (decide ((andI .i64 p0 127)≤96)) then
    (rd tb_1 (w64 ((andI .i64 p0 127) - 64))).bind fun a=>
    some (w64 (0 - a))
   else
    (rd tb_1 (w64 (128 - (andI .i64 p0 127)))).bind fun a=>
    some a
def m_Ih (p0:Int):Option (Int):=m_Ih_0 p0
def m_If_21 (a:LI):Option (LI):=
 some a
def m_If_9 (a:Int) (b:LI):Option ((Int×LI)⊕((LI))):=
 if (decide (a < 32)) then
  (m_Ih (w64 (31 - (w64 (2*a))))).bind fun c=>
  (ck (decide (b.length+([c]:LI).length≤17592186044416))).bind fun _=>
  some (.inl ((w64 (a+1)),(b++([c]:LI))))
 else
  some (.inr b)
def lp_If_9 (s:Int×LI):Option ((Int×LI)⊕((LI))):=m_If_9 s.1 s.2
def m_If_0:Option (LI):=
 (loopM (lp_If_9) (0,([]:LI))).bind fun e=>m_If_21 e
def m_If:Option (LI):=m_If_0
def m_Ib_50 (c:Int) (d e a:LI) (b:Int):Option ((Int×LI×LI)⊕((LI))):=
 (ck (decide (a.length+([(shrI .i64 b 14)]:LI).length≤17592186044416))).bind fun _=>
 some (.inl ((w64 (c+1)),d,(a++([(shrI .i64 b 14)]:LI))))
def m_Ib_38 (d:Int) (b e i:LI) (c a:Int):Option ((Int×Int)⊕((Int))):=
 if (decide (a < (b.length:Int))) then
  (rd b a).bind fun f=>
  (rd e a).bind fun g=>
  (m_Ih (w64 ((w64 ((w64 (2*a))+17))*(w64 ((w64 (2*d))+1))))).bind fun h=>
  some (.inl ((w64 (c+(w64 ((shrI .i64 (w64 ((w64 (f*g))+8192)) 14)*h)))),(w64 (a+1))))
 else
  some (.inr c)
def lp_Ib_38 (a:Int) (b c d:LI) (s:Int×Int):Option ((Int×Int)⊕((Int))):=m_Ib_38 a b c d s.1 s.2
def m_Ib_52 (a:LI):Option (LI):=
 some a
def m_Ib_21 (c:LI) (a:Int) (d b:LI):Option ((Int×LI×LI)⊕((LI))):=
 if (decide (a < 16)) then
  (loopM (lp_Ib_38 a d c b) (8192,0)).bind fun e=>m_Ib_50 a d c b e
 else
  some (.inr b)
def lp_Ib_21 (a:LI) (s:Int×LI×LI):Option ((Int×LI×LI)⊕((LI))):=m_Ib_21 a s.1 s.2.1 s.2.2
def m_Ib_0 (p0 p1:LI):Option (LI):=
 (m_Ik p0 16).bind fun b=>
 if b then
  (m_Ik p1 16).bind fun c=>
  if c then
   (m_Ii p0).bind fun a=>
   (ck (decide (a.length+p1.length≤17592186044416))).bind fun _=>
   (m_If).bind fun d=>
   (loopM (lp_Ib_21 d) (0,(a++p1),([]:LI))).bind fun e=>m_Ib_52 e
  else
   some ([]:LI)
 else
  some ([]:LI)
def m_Ib (p0 p1:LI):Option (LI):=m_Ib_0 p0 p1
def m_Id_79 (p1 e f p0:Int) (p2 g a:LI) (b:(List LI)) (c:(List LI)) (d:LI):Option ((Int×Int×LI×(List LI)×(List LI))⊕(((List LI)×(List LI)))):=
 (ck (decide (b.length+([d]:List LI).length≤5864062014805))).bind fun _=>
 (ck (decide (c.length+([a]:List LI).length≤5864062014805))).bind fun _=>
 some (.inl (e,(w64 (f+1)),g,(b++([d]:List LI)),(c++([a]:List LI))))
def m_Id_61 (p1 g h:Int) (e:LI) (p0:Int) (p2 i f:LI) (j:(List LI)) (k:(List LI)) (a:Int) (c:LI):Option ((Int×LI)⊕((LI))):=
 if (decide (a < (e.length:Int))) then
  (rd c a).bind fun d=>
  (rd f (w64 (Int.tdiv a 2))).bind fun b=>
  (ck (decide ((0:Int)≤b))).bind fun _=>
  if (decide (d < 0)) then
   (ck (decide (((shlI .i64 1 b):Int)≠0))).bind fun _=>
   some (.inl ((w64 (a+1)),(c.set (0+Int.toNat a) (w64 (0 - (w64 (Int.tdiv (w64 ((w64 (0 - d))+(w64 (Int.tdiv (shlI .i64 1 b) 2)))) (shlI .i64 1 b))))))))
  else
   (ck (decide (((shlI .i64 1 b):Int)≠0))).bind fun _=>
   some (.inl ((w64 (a+1)),(c.set (0+Int.toNat a) (w64 (Int.tdiv (w64 (d+(w64 (Int.tdiv (shlI .i64 1 b) 2)))) (shlI .i64 1 b))))))
 else
  some (.inr c)
def lp_Id_61 (p1 a b:Int) (c:LI) (p0:Int) (p2 d e:LI) (f:(List LI)) (g:(List LI)) (s:Int×LI):Option ((Int×LI)⊕((LI))):=m_Id_61 p1 a b c p0 p2 d e f g s.1 s.2
def m_Id_54 (p1 a c p0:Int) (p2 b:LI) (d:(List LI)) (f:(List LI)) (n54_0:Nat) (g:LI) (n54_2:Nat):Option ((Int×Int×LI×(List LI)×(List LI))⊕(((List LI)×(List LI)))):=
 (ck (decide ((0:Int)≤(w64 ((w64 (16*a))+16))∧(w64 ((w64 (16*a))+16))≤(b.length:Int)))).bind fun _=>
 (ck (decide ((0:Int)≤(w64 (16*a))∧(w64 (16*a))≤((Int.toNat (w64 ((w64 (16*a))+16))):Int)))).bind fun _=>
 (ck (decide ((0+(Int.toNat (w64 (16*a))))+((Int.toNat (w64 ((w64 (16*a))+16))) - (Int.toNat (w64 (16*a))))≤b.length))).bind fun _=>
 (ck (decide (n54_0+n54_2≤b.length))).bind fun _=>
 (m_Ib ((b.drop (0+(Int.toNat (w64 (16*a))))).take ((Int.toNat (w64 ((w64 (16*a))+16))) - (Int.toNat (w64 (16*a))))) ((b.drop n54_0).take n54_2)).bind fun h=>
 (loopM (lp_Id_61 p1 c a h p0 p2 b g d f) (0,h)).bind fun e=>m_Id_79 p1 c a p0 p2 b g d f e
def m_Id_42 (p1 f g:Int) (c:LI) (p0:Int) (p2 h:LI) (i:(List LI)) (j:(List LI)) (n42_0:Nat) (a:Int) (b:LI) (n42_3:Nat):Option ((Nat×Int×LI×Nat)⊕((Nat×LI×Nat))):=
 if (decide (a < (c.length:Int))) then
  (rd c a).bind fun e=>
  (m_Ia e p1).bind fun d=>
  (ck (decide (b.length+([d]:LI).length≤17592186044416))).bind fun _=>
  some (.inl (n42_0,(w64 (a+1)),(b++([d]:LI)),n42_3))
 else
  some (.inr (n42_0,b,n42_3))
def lp_Id_42 (p1 a b:Int) (c:LI) (p0:Int) (p2 d:LI) (e:(List LI)) (f:(List LI)) (s:Nat×Int×LI×Nat):Option ((Nat×Int×LI×Nat)⊕((Nat×LI×Nat))):=m_Id_42 p1 a b c p0 p2 d e f s.1 s.2.1 s.2.2.1 s.2.2.2
def m_Id_83 (p0 p1:Int) (p2:LI) (a:(List LI)) (b:(List LI)):Option (Za):=
 some (Za.mk p0 p1 (p2.length:Int) a b)
def m_Id_23 (p1 p0:Int) (p2:LI) (c a:Int) (b:LI) (d:(List LI)) (f:(List LI)):Option ((Int×Int×LI×(List LI)×(List LI))⊕(((List LI)×(List LI)))):=
 if (decide (a < c)) then
  (ck (decide ((0:Int)≤(w64 ((w64 (16*a))+32))∧(w64 ((w64 (16*a))+32))≤(b.length:Int)))).bind fun _=>
  (ck (decide ((0:Int)≤(w64 ((w64 (16*a))+16))∧(w64 ((w64 (16*a))+16))≤((Int.toNat (w64 ((w64 (16*a))+32))):Int)))).bind fun _=>
  (ck (decide ((0+(Int.toNat (w64 ((w64 (16*a))+16))))+((Int.toNat (w64 ((w64 (16*a))+32))) - (Int.toNat (w64 ((w64 (16*a))+16))))≤b.length))).bind fun _=>
  (m_Ic ((b.drop (0+(Int.toNat (w64 ((w64 (16*a))+16))))).take ((Int.toNat (w64 ((w64 (16*a))+32))) - (Int.toNat (w64 ((w64 (16*a))+16)))))).bind fun g=>
  (loopM (lp_Id_42 p1 a c g p0 p2 b d f) ((0+(Int.toNat (w64 ((w64 (16*a))+16)))),0,([]:LI),((Int.toNat (w64 ((w64 (16*a))+32))) - (Int.toNat (w64 ((w64 (16*a))+16)))))).bind fun e=>m_Id_54 p1 a c p0 p2 b d f e.1 e.2.1 e.2.2
 else
  some (.inr (d,f))
def lp_Id_23 (p1 p0:Int) (p2:LI) (s:Int×Int×LI×(List LI)×(List LI)):Option ((Int×Int×LI×(List LI)×(List LI))⊕(((List LI)×(List LI)))):=m_Id_23 p1 p0 p2 s.1 s.2.1 s.2.2.1 s.2.2.2.1 s.2.2.2.2
def m_Id_5 (p0 p1:Int) (p2:LI) (a:Bool):Option (Za):=
 if a then
  some (Za.mk 0 0 0 ([]:List LI) ([]:List LI))
 else
  (ck (decide ((0:Int)≤(w64 (16*(w64 ((w64 ((w64 (Int.tdiv (w64 ((p2.length:Int)+15)) 16))+1))+1))))∧(w64 (16*(w64 ((w64 ((w64 (Int.tdiv (w64 ((p2.length:Int)+15)) 16))+1))+1))))≤(17592186044416:Int)))).bind fun _=>
  (ck (decide ((0:Int)≤16∧16≤((Int.toNat (w64 (16*(w64 ((w64 ((w64 (Int.tdiv (w64 ((p2.length:Int)+15)) 16))+1))+1))))):Int)))).bind fun _=>
  (ck (decide (p2.length≤((Int.toNat (w64 (16*(w64 ((w64 ((w64 (Int.tdiv (w64 ((p2.length:Int)+15)) 16))+1))+1))))) - (Int.toNat 16))∧(0+(Int.toNat 16))+((Int.toNat (w64 (16*(w64 ((w64 ((w64 (Int.tdiv (w64 ((p2.length:Int)+15)) 16))+1))+1))))) - (Int.toNat 16))≤(List.replicate (Int.toNat (w64 (16*(w64 ((w64 ((w64 (Int.tdiv (w64 ((p2.length:Int)+15)) 16))+1))+1))))) (0:Int)).length))).bind fun _=>
  (loopM (lp_Id_23 p1 p0 p2) ((w64 ((w64 (Int.tdiv (w64 ((p2.length:Int)+15)) 16))+1)),0,(((List.replicate (Int.toNat (w64 (16*(w64 ((w64 ((w64 (Int.tdiv (w64 ((p2.length:Int)+15)) 16))+1))+1))))) (0:Int)).take (0+(Int.toNat 16))++p2)++(List.replicate (Int.toNat (w64 (16*(w64 ((w64 ((w64 (Int.tdiv (w64 ((p2.length:Int)+15)) 16))+1))+1))))) (0:Int)).drop ((0+(Int.toNat 16))+p2.length)),([]:List LI),([]:List LI))).bind fun e=>m_Id_83 p0 p1 p2 e.1 e.2
def m_Id_0 (p0 p1:Int) (p2:LI):Option (Za):=
 if (decide (p0 < 1)) then
  m_Id_5 p0 p1 p2 true
 else
  if (decide (p0 > 1000000)) then
   m_Id_5 p0 p1 p2 true
  else
   if (decide (p1 < 0)) then
    m_Id_5 p0 p1 p2 true
   else
    if (decide (p1 > 15)) then
     m_Id_5 p0 p1 p2 true
    else
     (m_Ij p2 (-32768) 32767 4000).bind fun a=>
     m_Id_5 p0 p1 p2 (!a)
def m_Id (p0 p1:Int) (p2:LI):Option (Za):=m_Id_0 p0 p1 p2
def m_La_31:Option (Bool):=
 some true
def m_La_15 (p0 p1:LI) (a:Int):Option ((Int)⊕((Bool)⊕((Unit)))):=
 if (decide (a < (p0.length:Int))) then
  (rd p0 a).bind fun b=>
  (rd p1 a).bind fun c=>
  if (b != c) then
   some (.inr (.inl false))
  else
   some (.inl (w64 (a+1)))
 else
  some (.inr (.inr ()))
def lp_La_15 (p0 p1:LI) (s:Int):Option ((Int)⊕((Bool)⊕((Unit)))):=m_La_15 p0 p1 s
def m_La_0 (p0 p1:LI):Option (Bool):=
 if ((p0.length:Int) != (p1.length:Int)) then
  some false
 else
  (loopM (lp_La_15 p0 p1) 0).bind fun e=>match e with | .inl e=>some e | .inr e=>m_La_31
def m_La (p0 p1:LI):Option (Bool):=m_La_0 p0 p1
def m_Lb_31:Option (Bool):=
 some true
def m_Lb_15 (p0:(List LI)) (p1:(List LI)) (a:Int):Option ((Int)⊕((Bool)⊕((Unit)))):=
 if (decide (a < (p0.length:Int))) then
  (rd p0 a).bind fun b=>
  (rd p1 a).bind fun c=>
  (m_La b c).bind fun d=>
  if d then
   some (.inl (w64 (a+1)))
  else
   some (.inr (.inl false))
 else
  some (.inr (.inr ()))
def lp_Lb_15 (p0:(List LI)) (p1:(List LI)) (s:Int):Option ((Int)⊕((Bool)⊕((Unit)))):=m_Lb_15 p0 p1 s
def m_Lb_0 (p0:(List LI)) (p1:(List LI)):Option (Bool):=
 if ((p0.length:Int) != (p1.length:Int)) then
  some false
 else
  (loopM (lp_Lb_15 p0 p1) 0).bind fun e=>match e with | .inl e=>some e | .inr e=>m_Lb_31
def m_Lb (p0:(List LI)) (p1:(List LI)):Option (Bool):=m_Lb_0 p0 p1
def m_Lc_0 (p0 p1:Za):Option (Bool):=
 if (p0.rate != p1.rate) then
  some false
 else
  if (p0.quality != p1.quality) then
   some false
  else
   if (p0.length != p1.length) then
    some false
   else
    (m_Lb p0.slots p1.slots).bind fun a=>
    if a then
     (m_Lb p0.grades p1.grades).bind fun b=>
     if b then
      some true
     else
      some false
    else
     some false
def m_Lc (p0 p1:Za):Option (Bool):=m_Lc_0 p0 p1
def m_Lg_19 (a:Int) (b:LI):Option (Int×LI):=
 some (a,b)
def m_Lg_7 (c a:Int) (b:LI):Option ((Int×Int×LI)⊕((Int×LI))):=
 if (decide (a < (b.length:Int))) then
  (rd b a).bind fun _=>
  some (.inl ((w64 (c+1)),(w64 (a+1)),(b.set (0+Int.toNat a) c)))
 else
  some (.inr (c,b))
def lp_Lg_7 (s:Int×Int×LI):Option ((Int×Int×LI)⊕((Int×LI))):=m_Lg_7 s.1 s.2.1 s.2.2
def m_Lg_0 (p1:Int) (p0:LI):Option (Int×LI):=
 (loopM (lp_Lg_7) (p1,0,p0)).bind fun e=>m_Lg_19 e.1 e.2
def m_Lg (p0:LI) (p1:Int):Option (Int×LI):=m_Lg_0 p1 p0
def m_Lh_17 (a:Int) (b:(List LI)):Option (Int×(List LI)):=
 some (a,b)
def m_Lh_7 (d a:Int) (b:(List LI)):Option ((Int×Int×(List LI))⊕((Int×(List LI)))):=
 if (decide (a < (b.length:Int))) then
  (rd b a).bind fun e=>
  (m_Lg e d).bind fun c=>
  (ck (decide (c.2.length=e.length))).bind fun _=>
  some (.inl (c.1,(w64 (a+1)),(b.set (0+Int.toNat a) c.2)))
 else
  some (.inr (d,b))
def lp_Lh_7 (s:Int×Int×(List LI)):Option ((Int×Int×(List LI))⊕((Int×(List LI)))):=m_Lh_7 s.1 s.2.1 s.2.2
def m_Lh_0 (p1:Int) (p0:(List LI)):Option (Int×(List LI)):=
 (loopM (lp_Lh_7) (p1,0,p0)).bind fun e=>m_Lh_17 e.1 e.2
def m_Lh (p0:(List LI)) (p1:Int):Option (Int×(List LI)):=m_Lh_0 p1 p0
def m_Li_0 (p0:Za) (p1:Int):Option (Int×Za):=
 (m_Lh p0.slots p1).bind fun a=>
 (ck (decide (a.2.length=p0.slots.length))).bind fun _=>
 (m_Lh p0.grades a.1).bind fun b=>
 (ck (decide (b.2.length=p0.grades.length))).bind fun _=>
 some (b.1,(Za.mk p0.rate p0.quality p0.length a.2 b.2))
def m_Li (p0:Za) (p1:Int):Option (Int×Za):=m_Li_0 p0 p1
def m_Ld_25 (a:Int):Option (Int):=
 some a
def m_Ld_7 (p0:LI) (a b:Int):Option ((Int×Int)⊕((Int)⊕((Int)))):=
 if (decide (b < (p0.length:Int))) then
  (rd p0 b).bind fun c=>
  if (c != a) then
   some (.inr (.inl (-1)))
  else
   some (.inl ((w64 (a+1)),(w64 (b+1))))
 else
  some (.inr (.inr a))
def lp_Ld_7 (p0:LI) (s:Int×Int):Option ((Int×Int)⊕((Int)⊕((Int)))):=m_Ld_7 p0 s.1 s.2
def m_Ld_0 (p0:LI) (p1:Int):Option (Int):=
 (loopM (lp_Ld_7 p0) (p1,0)).bind fun e=>match e with | .inl e=>some e | .inr e=>m_Ld_25 e
def m_Ld (p0:LI) (p1:Int):Option (Int):=m_Ld_0 p0 p1
def m_Le_25 (a:Int):Option (Int):=
 some a
def m_Le_7 (p0:(List LI)) (b a:Int):Option ((Int×Int)⊕((Int)⊕((Int)))):=
 if (decide (a < (p0.length:Int))) then
  (rd p0 a).bind fun d=>
  (m_Ld d b).bind fun c=>
  if (decide (c < 0)) then
   some (.inr (.inl (-1)))
  else
   some (.inl (c,(w64 (a+1))))
 else
  some (.inr (.inr b))
def lp_Le_7 (p0:(List LI)) (s:Int×Int):Option ((Int×Int)⊕((Int)⊕((Int)))):=m_Le_7 p0 s.1 s.2
def m_Le_0 (p0:(List LI)) (p1:Int):Option (Int):=
 (loopM (lp_Le_7 p0) (p1,0)).bind fun e=>match e with | .inl e=>some e | .inr e=>m_Le_25 e
def m_Le (p0:(List LI)) (p1:Int):Option (Int):=m_Le_0 p0 p1
def m_Lf_0 (p0:Za) (p1:Int):Option (Int):=
 (m_Le p0.slots p1).bind fun a=>
 if (decide (a < 0)) then
  some (-1)
 else
  (m_Le p0.grades a).bind fun b=>
  if (decide (b < 0)) then
   some (-1)
  else
   some b
def m_Lf (p0:Za) (p1:Int):Option (Int):=m_Lf_0 p0 p1
def m_laws_FnExactTonesOf_0 (p0 p1:Int) (p2:LI):Option (Bool):=
 if (decide ((p2.length:Int) > 1048576)) then
  some true
 else
  (m_Lj p2).bind fun b=>
  (m_Sb p0 p1 b).bind fun f=>
  (m_Id p0 p1 b).bind fun a=>
  (m_Lc a f).bind fun g=>
  if g then
   (m_La b b).bind fun h=>
   if h then
    (m_Lg b 1).bind fun d=>
    (ck (decide (d.2.length=b.length))).bind fun _=>
    if (decide (d.1 < 0)) then
     some false
    else
     (m_Li a 1).bind fun c=>
     (ck (decide (c.2.slots.length=a.slots.length))).bind fun _=>
     (ck (decide (c.2.grades.length=a.grades.length))).bind fun _=>
     (m_Lf (Za.mk a.rate a.quality a.length c.2.slots c.2.grades) 1).bind fun e=>
     if (decide (e < 0)) then
      some false
     else
      if (e != c.1) then
       some false
      else
       some true
   else
    some false
  else
   some false
def m_laws_FnExactTonesOf (p0 p1:Int) (p2:LI):Option (Bool):=m_laws_FnExactTonesOf_0 p0 p1 p2
end
end Go.Proofs.V

namespace Go.Proofs.V
open Go
def FA (x y:Nat):Nat:=(vfl .add .f64 x y).getD 0
def FS (x y:Nat):Nat:=(vfl .sub .f64 x y).getD 0
def FM (x y:Nat):Nat:=(vfl .mul .f64 x y).getD 0
def FQ (x:Nat):Nat:=(vfl .quo .f64 x 4643211215818981376).getD 0
def FI (x:Nat):Int:=(vf2i .f64 x .i64).getD 0
theorem getD_of {α:Type} {o:Option α} {r z:α} (h:o=some r):o=some (o.getD z):=by rw [h];rfl
theorem fa_ok {k x y:Nat} (hk:k≤800) (hx:fb k x) (hy:fb k y):vfl .add .f64 x y=some (FA x y)∧fb (k+1) (FA x y):=by
 obtain ⟨r,h1,h2⟩ :=add_fb hk hx hy
 have h1' : vfl .add .f64 x y=some r:=h1
 unfold FA
 rw [h1']
 exact ⟨rfl,h2⟩
theorem fs_ok {k x y:Nat} (hk:k≤800) (hx:fb k x) (hy:fb k y):vfl .sub .f64 x y=some (FS x y)∧fb (k+1) (FS x y):=by
 obtain ⟨r,h1,h2⟩ :=sub_fb hk hx hy
 have h1' : vfl .sub .f64 x y=some r:=h1
 unfold FS
 rw [h1']
 exact ⟨rfl,h2⟩
theorem fm_ok {k l x y:Nat} (hk:k+l≤800) (hx:fb k x) (hy:fb l y):vfl .mul .f64 x y=some (FM x y)∧fb (k+l) (FM x y):=by
 obtain ⟨r,h1,h2⟩ :=mul_fb hk hx hy
 have h1' : vfl .mul .f64 x y=some r:=h1
 unfold FM
 rw [h1']
 exact ⟨rfl,h2⟩
theorem fq_ok {k x:Nat} (hk:k≤800) (hx:fb k x):vfl .quo .f64 x 4643211215818981376=some (FQ x)∧fb k (FQ x):=by
 obtain ⟨r,h1,h2⟩ :=div_fb hk hx
 have h1' : vfl .quo .f64 x 4643211215818981376=some r:=h1
 unfold FQ
 rw [h1']
 exact ⟨rfl,h2⟩
theorem fi_ok {k x:Nat} (hk:k≤62) (hx:fb k x):vf2i .f64 x .i64=some (FI x)∧(FI x).natAbs≤2 ^ k:=by
 obtain ⟨n,h1,h2⟩ :=toInt_fb (by omega) hx
 have h3:2 ^ k≤2 ^ 62:=Nat.pow_le_pow_right (by decide) hk
 have h4:vf2i .f64 x .i64=some n:=by
  unfold vf2i
  have h1' : (FloatKind.f64.decode x).toInt .zero=some n:=h1
  rw [h1']
  simp only
  have e1:IntKind.min .i64 = -9223372036854775808:=by decide
  have e2:IntKind.max .i64=9223372036854775807:=by decide
  rw [if_pos]
  rw [e1,e2]
  have:(2:Nat) ^ 62=4611686018427387904:=by decide
  omega
 unfold FI
 rw [h4]
 exact ⟨rfl,h2⟩
theorem nearest_ok (n:Int) (h:n.natAbs≤2 ^ 15):fb 15 (FloatKind.nearest .f64 n):=ofInt_fb (by decide) n h
def wv (k:Nat) (x:Zb):Prop:=fb k x.re∧fb k x.im
theorem wv_mono {k l:Nat} {x:Zb} (h:wv k x) (hkl:k≤l):wv l x:=⟨fb_mono h.1 hkl,fb_mono h.2 hkl⟩
def zW:Zb:=⟨0,0⟩
def trF (p b:Zb):Nat:=FS (FM b.re p.re) (FM b.im p.im)
def tiF (p b:Zb):Nat:=FA (FM b.re p.im) (FM b.im p.re)
def bfA (p a b:Zb):Zb:=⟨FA a.re (trF p b),FA a.im (tiF p b)⟩
def bfB (p a b:Zb):Zb:=⟨FS a.re (trF p b),FS a.im (tiF p b)⟩
structure BfOk (p a b:Zb):Prop where
 h1:vfl .mul .f64 b.re p.re=some (FM b.re p.re)
 h2:vfl .mul .f64 b.im p.im=some (FM b.im p.im)
 h3:vfl .mul .f64 b.re p.im=some (FM b.re p.im)
 h4:vfl .mul .f64 b.im p.re=some (FM b.im p.re)
 h5:vfl .sub .f64 (FM b.re p.re) (FM b.im p.im)=some (trF p b)
 h6:vfl .add .f64 (FM b.re p.im) (FM b.im p.re)=some (tiF p b)
 h7:vfl .add .f64 a.re (trF p b)=some (bfA p a b).re
 h8:vfl .add .f64 a.im (tiF p b)=some (bfA p a b).im
 h9:vfl .sub .f64 a.re (trF p b)=some (bfB p a b).re
 h10:vfl .sub .f64 a.im (tiF p b)=some (bfB p a b).im
theorem bf_ok {k:Nat} {p a b:Zb} (hk:k≤700) (hp:wv 0 p) (ha:wv k a) (hb:wv k b):BfOk p a b∧∀ m,m=k+2→wv m (bfA p a b)∧wv m (bfB p a b):=by
 obtain ⟨e1,f1⟩ :=fm_ok (by omega) hb.1 hp.1
 obtain ⟨e2,f2⟩ :=fm_ok (by omega) hb.2 hp.2
 obtain ⟨e3,f3⟩ :=fm_ok (by omega) hb.1 hp.2
 obtain ⟨e4,f4⟩ :=fm_ok (by omega) hb.2 hp.1
 obtain ⟨e5,f5⟩ :=fs_ok (by omega) f1 f2
 obtain ⟨e6,f6⟩ :=fa_ok (by omega) f3 f4
 obtain ⟨e7,f7⟩ :=fa_ok (k:=k+1) (by omega) (fb_mono ha.1 (by omega)) f5
 obtain ⟨e8,f8⟩ :=fa_ok (k:=k+1) (by omega) (fb_mono ha.2 (by omega)) f6
 obtain ⟨e9,f9⟩ :=fs_ok (k:=k+1) (by omega) (fb_mono ha.1 (by omega)) f5
 obtain ⟨e10,f10⟩ :=fs_ok (k:=k+1) (by omega) (fb_mono ha.2 (by omega)) f6
 exact ⟨⟨e1,e2,e3,e4,e5,e6,e7,e8,e9,e10⟩,fun m hm=>by subst hm;exact ⟨⟨f7,f8⟩,f9,f10⟩⟩
def P8:List Zb:=[(Zb.mk 4607182418800017408 0),(Zb.mk 4606496786581982534 13823937468626282851),(Zb.mk 4604544271217802189 13827916308072577997),(Zb.mk 4600565431771507043 13829868823436758342),(Zb.mk 0 13830554455654793216),(Zb.mk 13823937468626282851 13829868823436758342),(Zb.mk 13827916308072577997 13827916308072577997),(Zb.mk 13829868823436758342 13823937468626282851)]
theorem P8_ok:∀ i,i < 8→wv 0 (P8.getD i zW):=by
 have:∀ i,i < 8→((P8.getD i zW).re % 2 ^ 63≤(0+1023)*2 ^ 52∧(P8.getD i zW).im % 2 ^ 63≤(0+1023)*2 ^ 52):=by decide +kernel
 exact fun i h=>this i h
def zP:Zc:=⟨0,0⟩
theorem tb0_P8:∀ i,i < 8→(tb_0.getD i zP).e0=(P8.getD i zW).re∧(tb_0.getD i zP).e1=(P8.getD i zW).im:=by decide +kernel
def stepL (h g:Nat) (l:List Zb) (j:Nat):List Zb:=
 (l.set (g+j) (bfA (P8.getD (j*8 / h) zW) (l.getD (g+j) zW) (l.getD (g+j+h) zW))).set (g+j+h) (bfB (P8.getD (j*8 / h) zW) (l.getD (g+j) zW) (l.getD (g+j+h) zW))
def inn (h g:Nat) (l:List Zb):List Zb:=(List.range h).foldl (stepL h g) l
def mid (h:Nat) (l:List Zb):List Zb:=(List.range (8 / h)).foldl (fun l n=>inn h (2*h*n) l) l
def Inn (h g k j:Nat) (l:List Zb):Prop:=l.length=16∧∀ i,i < 16→wv (if i < g∨(g≤i∧i < g+j)∨(g+h≤i∧i < g+h+j) then k+2 else k) (l.getD i zW)
theorem getD_set (l:List Zb) (i j:Nat) (x:Zb) (h:i < l.length):(l.set i x).getD j zW=if i=j then x else l.getD j zW:=by
 simp only [List.getD_eq_getElem?_getD,List.getElem?_set]
 split
 ·rename_i e;subst e;simp [h]
 ·rfl
theorem Inn_step {h g k j:Nat} {l:List Zb} (hk:k≤700) (hj:j < h) (hg:g+2*h≤16) (hI:Inn h g k j l):wv k (l.getD (g+j) zW)∧wv k (l.getD (g+j+h) zW)∧Inn h g k (j+1) (stepL h g l j):=by
 obtain ⟨hl,hw⟩ :=hI
 have ha:wv k (l.getD (g+j) zW):=by
  have:=hw (g+j) (by omega)
  rwa [if_neg (by omega)] at this
 have hb:wv k (l.getD (g+j+h) zW):=by
  have:=hw (g+j+h) (by omega)
  rwa [if_neg (by omega)] at this
 have hi:j*8 / h < 8:=by
  rw [Nat.div_lt_iff_lt_mul (by omega)]
  omega
 obtain ⟨_,hbf⟩ :=bf_ok hk (P8_ok _ hi) ha hb
 obtain ⟨b1,b2⟩ :=hbf _ rfl
 refine ⟨ha,hb,by simp [stepL,hl],fun i hi=>?_⟩
 unfold stepL
 rw [getD_set _ _ _ _ (by simp [hl];omega),getD_set _ _ _ _ (by omega)]
 by_cases h1:g+j+h=i
 ·rw [if_pos h1,if_pos (by omega)];exact b2
 ·rw [if_neg h1]
  by_cases h2:g+j=i
  ·rw [if_pos h2,if_pos (by omega)];exact b1
  ·rw [if_neg h2]
   have:=hw i hi
   by_cases h3:i < g∨(g≤i∧i < g+j)∨(g+h≤i∧i < g+h+j)
   ·rw [if_pos h3] at this;rw [if_pos (by omega)];exact this
   ·rw [if_neg h3] at this;rw [if_neg (by omega)];exact this
theorem inner_gen {b:Int×List Zb→Option ((Int×List Zb)⊕List Zb)} {h g k:Nat} (hk:k≤700) (hg:g+2*h≤16)
  (hb:∀ (j:Nat) (l:List Zb),j < h→l.length=16→wv k (l.getD (g+j) zW)→wv k (l.getD (g+j+h) zW)→b ((j:Int),l)=some (.inl (((j+1:Nat):Int),stepL h g l j)))
  (hd:∀ l,b ((h:Int),l)=some (.inr l)) {l:List Zb} (hI:Inn h g k 0 l):loopM b (0,l)=some (inn h g l)∧Inn h g k h (inn h g l):=
 fold_range (n:=h) (fun (s:List Zb) i=>((i:Int),s)) (g:=stepL h g) (I:=fun j l=>Inn h g k j l) (b:=b) (e1:=fun l=>l)
  (fun j l hj hI=>by
   obtain ⟨h1,h2,h3⟩ :=Inn_step hk hj hg hI
   exact ⟨hb j l hj hI.1 h1 h2,h3⟩) (fun l _=>hd l) l hI
def Mid (k g:Nat) (l:List Zb):Prop:=l.length=16∧∀ i,i < 16→wv (if i < g then k+2 else k) (l.getD i zW)
theorem Mid_Inn {h g k:Nat} {l:List Zb} (hm:Mid k g l):Inn h g k 0 l:=⟨hm.1,fun i hi=>by
 have:=hm.2 i hi
 by_cases h1:i < g
 ·rw [if_pos h1] at this;rw [if_pos (by omega)];exact this
 ·rw [if_neg h1] at this;rw [if_neg (by omega)];exact this⟩
theorem Inn_Mid {h g k:Nat} {l:List Zb} (hm:Inn h g k h l):Mid k (g+2*h) l:=⟨hm.1,fun i hi=>by
 have:=hm.2 i hi
 by_cases h1:i < g+2*h
 ·rw [if_pos (by omega)] at this;rw [if_pos h1];exact this
 ·rw [if_neg (by omega)] at this;rw [if_neg h1];exact this⟩
theorem middle_gen {b:Int×List Zb→Option ((Int×List Zb)⊕List Zb)} {h k N:Nat} (hN:2*h*N=16) (hN2:8 / h=N)
  (hb:∀ (g:Nat) (l:List Zb),g+2*h≤16→Inn h g k 0 l→b ((g:Int),l)=some (.inl (((g+2*h:Nat):Int),inn h g l))∧Inn h g k h (inn h g l))
  (hd:∀ l,b ((16:Int),l)=some (.inr l)) {l:List Zb} (hm:Mid k 0 l):loopM b (0,l)=some (mid h l)∧∀ i,i < 16→(mid h l).length=16∧wv (k+2) ((mid h l).getD i zW):=by
 have:=fold_range (n:=N) (fun (s:List Zb) i=>(((2*h*i:Nat):Int),s)) (g:=fun l n=>inn h (2*h*n) l) (I:=fun n l=>Mid k (2*h*n) l) (b:=b) (e1:=fun l=>l)
  (fun n l hn hI=>by
   have hle:2*h*n+2*h≤16:=by
    have:2*h*(n+1)≤2*h*N:=Nat.mul_le_mul_left _ hn
    rw [Nat.mul_add] at this
    omega
   obtain ⟨h1,h2⟩ :=hb (2*h*n) l hle (Mid_Inn hI)
   refine ⟨by rw [h1,Nat.mul_add,Nat.mul_one],?_⟩
   have:=Inn_Mid h2
   rwa [show 2*h*n+2*h=2*h*(n+1) by rw [Nat.mul_add,Nat.mul_one]] at this)
  (fun l _=>by rw [hN];exact hd l) l (by rw [Nat.mul_zero];exact hm)
 have e:(List.range N).foldl (fun l n=>inn h (2*h*n) l) l=mid h l:=by unfold mid;rw [hN2]
 rw [e] at this
 refine ⟨by simpa using this.1,fun i hi=>⟨this.2.1,?_⟩⟩
 have h2:=this.2.2 i hi
 rwa [if_pos (by omega)] at h2
end Go.Proofs.V

namespace Go.Proofs.V
open Go
theorem w_add {a b:Nat} (h:a+b < 4611686018427387904):w64 ((a:Int)+b)=((a+b:Nat):Int):=by rw [w64_id (by omega) (by omega)];omega
theorem w_tw {j h:Nat} (hj:j < 1000):w64 (Int.tdiv (w64 ((j:Int)*8)) (h:Int))=((j*8 / h:Nat):Int):=by
 have e1:w64 ((j:Int)*8)=((j*8:Nat):Int):=by rw [w64_id (by omega) (by omega)];omega
 rw [e1,←Int.ofNat_tdiv]
 have:j*8 / h≤j*8:=Nat.div_le_self _ _
 generalize j*8 / h=q at *
 rw [w64_id (by omega) (by omega)]
theorem sp54 {h g j k:Nat} {l:List Zb} (hk:k≤700) (hg:g+2*h≤16) (hj:j < h) (hl:l.length=16) (ha:wv k (l.getD (g+j) zW)) (hb:wv k (l.getD (g+j+h) zW)) :
  lp_Sl_54 (h:Int) (g:Int) P8 ((j:Int),l)=some (.inl (((j+1:Nat):Int),stepL h g l j)):=by
 have hi:j*8 / h < 8:=by
  rw [Nat.div_lt_iff_lt_mul (by omega)]
  omega
 obtain ⟨⟨h1,h2,h3,h4,h5,h6,h7,h8,h9,h10⟩,_⟩ :=bf_ok hk (P8_ok _ hi) ha hb
 simp only [lp_Sl_54,m_Sl_54]
 rw [if_pos (by simp;omega)]
 simp only [w_add (a:=g) (b:=j) (by omega),w_add (a:=g+j) (b:=h) (by omega),w_tw (j:=j) (h:=h) (by omega)]
 rw [rd_d zW (by omega)]
 simp only [Option.bind_some]
 rw [rd_d zW (by omega)]
 simp only [Option.bind_some]
 rw [ck_eq (by omega)]
 simp only [Option.bind_some]
 rw [rd_d zW hi]
 simp only [Option.bind_some,h1,h2,h3,h4,h5,h6,h7,h8,h9,h10]
 rw [rd_d zW (by simp;omega)]
 simp only [Option.bind_some]
 rw [w64_succ (by omega)]
 simp only [Nat.zero_add,Int.toNat_natCast]
 rfl
theorem im58 {h g j k:Nat} {l:List Zb} (hk:k≤700) (hg:g+2*h≤16) (hj:j < h) (hl:l.length=16) (ha:wv k (l.getD (g+j) zW)) (hb:wv k (l.getD (g+j+h) zW)) :
  lp_Ie_58 (h:Int) (g:Int) ((j:Int),l)=some (.inl (((j+1:Nat):Int),stepL h g l j)):=by
 have hi:j*8 / h < 8:=by
  rw [Nat.div_lt_iff_lt_mul (by omega)]
  omega
 obtain ⟨⟨h1,h2,h3,h4,h5,h6,h7,h8,h9,h10⟩,_⟩ :=bf_ok hk (P8_ok _ hi) ha hb
 obtain ⟨t1,t2⟩ :=tb0_P8 _ hi
 simp only [lp_Ie_58,m_Ie_58]
 rw [if_pos (by simp;omega)]
 simp only [w_add (a:=g) (b:=j) (by omega),w_add (a:=g+j) (b:=h) (by omega),w_tw (j:=j) (h:=h) (by omega)]
 rw [rd_d zW (by omega)]
 simp only [Option.bind_some]
 rw [rd_d zW (by omega)]
 simp only [Option.bind_some]
 rw [ck_eq (by omega)]
 simp only [Option.bind_some]
 rw [rd_d zP hi]
 simp only [Option.bind_some,t1,t2,h1,h2,h3,h4,h5,h6,h7,h8,h9,h10]
 rw [rd_d zW (by simp;omega)]
 simp only [Option.bind_some]
 rw [w64_succ (by omega)]
 simp only [Nat.zero_add,Int.toNat_natCast]
 rfl
theorem sp42 {h k N:Nat} (hk:k≤700) (hh:h≤8) (hN:2*h*N=16) (hN2:8 / h=N) {l:List Zb} (hm:Mid k 0 l) :
  loopM (lp_Sl_42 (h:Int) P8) (0,l)=some (mid h l)∧∀ i,i < 16→(mid h l).length=16∧wv (k+2) ((mid h l).getD i zW):=by
 refine middle_gen hN hN2 (fun g l hg hI=>?_) (fun l=>?_) hm
 ·obtain ⟨h1,h2⟩ :=inner_gen (b:=lp_Sl_54 (h:Int) (g:Int) P8) hk hg (fun j l hj hl ha hb=>sp54 hk hg hj hl ha hb) (fun l=>by
   simp only [lp_Sl_54,m_Sl_54]
   rw [if_neg (by simp)]) hI
  refine ⟨?_,h2⟩
  simp only [lp_Sl_42,m_Sl_42]
  by_cases h0:g < 16
  ·rw [if_pos (by simp;omega),h1]
   simp only [Option.bind_some,m_Sl_84]
   rw [show w64 (2*(h:Int))=((2*h:Nat):Int) by rw [w64_id (by omega) (by omega)];omega,w_add (by omega)]
  ·have:h=0:=by omega
   subst this
   omega
 ·simp only [lp_Sl_42,m_Sl_42]
  rw [if_neg (by simp)]
theorem im46 {h k N:Nat} (hk:k≤700) (hh:h≤8) (hN:2*h*N=16) (hN2:8 / h=N) {l:List Zb} (hm:Mid k 0 l) :
  loopM (lp_Ie_46 (h:Int)) (0,l)=some (mid h l)∧∀ i,i < 16→(mid h l).length=16∧wv (k+2) ((mid h l).getD i zW):=by
 refine middle_gen hN hN2 (fun g l hg hI=>?_) (fun l=>?_) hm
 ·obtain ⟨h1,h2⟩ :=inner_gen (b:=lp_Ie_58 (h:Int) (g:Int)) hk hg (fun j l hj hl ha hb=>im58 hk hg hj hl ha hb) (fun l=>by
   simp only [lp_Ie_58,m_Ie_58]
   rw [if_neg (by simp)]) hI
  refine ⟨?_,h2⟩
  simp only [lp_Ie_46,m_Ie_46]
  by_cases h0:g < 16
  ·rw [if_pos (by simp;omega),h1]
   simp only [Option.bind_some,m_Ie_78]
   rw [show w64 (2*(h:Int))=((2*h:Nat):Int) by rw [w64_id (by omega) (by omega)];omega,w_add (by omega)]
  ·have:h=0:=by omega
   subst this
   omega
 ·simp only [lp_Ie_46,m_Ie_46]
  rw [if_neg (by simp)]
theorem Mid_of {k:Nat} {l:List Zb} (h:∀ i,i < 16→l.length=16∧wv k (l.getD i zW)):Mid k 0 l:=⟨(h 0 (by omega)).1,fun i hi=>by rw [if_neg (by omega)];exact (h i hi).2⟩
def rounds (l:List Zb):List Zb:=mid 8 (mid 4 (mid 2 (mid 1 l)))
theorem rounds_gen {b:Int×List Zb→Option ((Int×List Zb)⊕List Zb)}
  (hb:∀ (h k N:Nat) (l:List Zb),k≤700→h≤8→2*h*N=16→8 / h=N→Mid k 0 l→b ((h:Int),l)=some (.inl (((h*2:Nat):Int),mid h l))∧∀ i,i < 16→(mid h l).length=16∧wv (k+2) ((mid h l).getD i zW))
  (hd:∀ l,b (16,l)=some (.inr l)) {k:Nat} {l:List Zb} (hk:k≤600) (hm:Mid k 0 l):loopM b (1,l)=some (rounds l)∧(rounds l).length=16∧∀ i,i < 16→wv (k+8) ((rounds l).getD i zW):=by
 obtain ⟨a1,b1⟩ :=hb 1 k 8 l (by omega) (by omega) (by omega) (by decide) hm
 obtain ⟨a2,b2⟩ :=hb 2 (k+2) 4 (mid 1 l) (by omega) (by omega) (by omega) (by decide) (Mid_of b1)
 obtain ⟨a3,b3⟩ :=hb 4 (k+4) 2 (mid 2 (mid 1 l)) (by omega) (by omega) (by omega) (by decide) (Mid_of b2)
 obtain ⟨a4,b4⟩ :=hb 8 (k+6) 1 (mid 4 (mid 2 (mid 1 l))) (by omega) (by omega) (by omega) (by decide) (Mid_of b3)
 refine ⟨?_,(b4 0 (by omega)).1,fun i hi=>(b4 i hi).2⟩
 rw [loopM_eq,show ((1:Int),l)=(((1:Nat):Int),l) from rfl,a1]
 simp only
 rw [loopM_eq,a2]
 simp only
 rw [loopM_eq,a3]
 simp only
 rw [loopM_eq,a4]
 simp only
 rw [loopM_eq]
 have:=hd (mid 8 (mid 4 (mid 2 (mid 1 l))))
 simp only [show (((8*2:Nat):Int))=16 from rfl,this]
 rfl
theorem sp30 {k:Nat} {l:List Zb} (hk:k≤600) (hm:Mid k 0 l):loopM (lp_Sl_30 P8) (1,l)=some (rounds l)∧(rounds l).length=16∧∀ i,i < 16→wv (k+8) ((rounds l).getD i zW):=by
 refine rounds_gen (fun h k N l h1 h2 h3 h4 h5=>?_) (fun l=>?_) hk hm
 ·obtain ⟨a,b⟩ :=sp42 h1 h2 h3 h4 h5
  refine ⟨?_,b⟩
  simp only [lp_Sl_30,m_Sl_30]
  rw [if_pos (by simp;omega),a]
  simp only [Option.bind_some,m_Sl_85]
  rw [w64_id (by omega) (by omega)]
  rfl
 ·simp only [lp_Sl_30,m_Sl_30]
  rw [if_neg (by simp)]
theorem im34 {k:Nat} {l:List Zb} (hk:k≤600) (hm:Mid k 0 l):loopM lp_Ie_34 (1,l)=some (rounds l)∧(rounds l).length=16∧∀ i,i < 16→wv (k+8) ((rounds l).getD i zW):=by
 refine rounds_gen (fun h k N l h1 h2 h3 h4 h5=>?_) (fun l=>?_) hk hm
 ·obtain ⟨a,b⟩ :=im46 h1 h2 h3 h4 h5
  refine ⟨?_,b⟩
  simp only [lp_Ie_34,m_Ie_34]
  rw [if_pos (by simp;omega),a]
  simp only [Option.bind_some,m_Ie_79]
  rw [w64_id (by omega) (by omega)]
  rfl
 ·simp only [lp_Ie_34,m_Ie_34]
  rw [if_neg (by simp)]
def rv:List Nat:=[0,8,4,12,2,10,6,14,1,9,5,13,3,11,7,15]
theorem rv_lt:∀ i,i < 16→rv.getD i 0 < 16:=by decide
theorem rv_sp:∀ i:Nat,i < 16→orI .i64 (orI .i64 (orI .i64 (shlI .i64 (andI .i64 (i:Int) 1) 3) (shlI .i64 (andI .i64 (shrI .i64 (i:Int) 1) 1) 2)) (shlI .i64 (andI .i64 (shrI .i64 (i:Int) 2) 1) 1)) (andI .i64 (shrI .i64 (i:Int) 3) 1)=((rv.getD i 0:Nat):Int):=by decide +kernel
theorem rv_im:∀ i:Nat,i < 16→orI .i64 (orI .i64 (orI .i64 (shlI .i64 (andI .i64 (i:Int) 1) 3) (shlI .i64 (andI .i64 (i:Int) 2) 1)) (shrI .i64 (andI .i64 (i:Int) 4) 1)) (shrI .i64 (andI .i64 (i:Int) 8) 3)=((rv.getD i 0:Nat):Int):=by decide +kernel
def stg (p:List Int) (i:Nat):Zb:=⟨FloatKind.nearest .f64 (p.getD (rv.getD i 0) 0),0⟩
def st16 (p:List Int):List Zb:=(List.range 16).map (stg p)
def In15 (p:List Int):Prop:=p.length=16∧∀ x ∈ p,-32768≤x∧x≤32767
theorem st16_ok {p:List Int} (hp:In15 p):Mid 15 0 (st16 p):=by
 refine ⟨by simp [st16],fun i hi=>?_⟩
 rw [if_neg (by omega)]
 have e:(st16 p).getD i zW=stg p i:=by simp [st16,List.getD_eq_getElem?_getD,hi]
 rw [e]
 refine ⟨nearest_ok _ ?_,by show 0 % 2 ^ 63≤_;omega⟩
 have h1:=rv_lt i hi
 have h2:p.getD (rv.getD i 0) 0 ∈ p:=by
  rw [List.getD_eq_getElem?_getD,List.getElem?_eq_getElem (by rw [hp.1];exact h1)]
  exact List.getElem_mem _
 have:=hp.2 _ h2
 have e2:(2:Nat) ^ 15=32768:=by decide
 omega
theorem fill16 {b:Int×Int×List Zb→Option ((Int×Int×List Zb)⊕List Zb)} (p:List Int) (c:Int)
  (hb:∀ (i:Nat) (l:List Zb),i < 16→l.length=16→(l.getD i zW)=zW→b (c,(i:Int),l)=some (.inl (c,((i+1:Nat):Int),l.set (0+Int.toNat (i:Int)) (stg p i))))
  (hd:∀ l,b (c,16,l)=some (.inr l)):loopM b (c,0,List.replicate 16 zW)=some (st16 p):=by
 refine loopM_fun (b:=b) (fun i (s:List Zb)=>(c,(i:Int),s)) 16 (fun i=>(List.range i).map (stg p)++(List.replicate 16 zW).drop i) (e:=st16 p) (fun i hi=>?_) ?_ |> fun h=>by simpa using h
 ·rw [hb i _ hi (by simp;omega) (by
   rw [List.getD_eq_getElem?_getD,List.getElem?_append_right (by simp),List.getElem?_drop,List.getElem?_replicate]
   split <;> rfl),mark_set (stg p) _ i (by simpa using hi)]
 ·rw [show ((16:Nat):Int)=16 from rfl,hd]
  simp [st16]
theorem spWaves {p:List Int} (hp:In15 p):m_Sl p=some (rounds (st16 p))∧(rounds (st16 p)).length=16∧∀ i,i < 16→wv 23 ((rounds (st16 p)).getD i zW):=by
 obtain ⟨a,b,c⟩ :=sp30 (k:=15) (by omega) (st16_ok hp)
 refine ⟨?_,b,c⟩
 simp only [m_Sl,m_Sl_0,m_Sg,m_Sg_0,Option.bind_some]
 rw [ck_eq (by omega)]
 simp only [Option.bind_some]
 have:=fill16 (b:=lp_Sl_11 p P8) p ((Int.toNat 16:Nat):Int) (fun i l hi hl hz=>by
  simp only [lp_Sl_11,m_Sl_11]
  rw [if_pos (by simp;omega),rv_sp i hi,rd_d 0 (by rw [hp.1];exact rv_lt i hi)]
  simp only [Option.bind_some]
  rw [rd_d zW (by omega)]
  simp only [Option.bind_some]
  rw [w64_succ (by omega)]
  rfl) (fun l=>by
  simp only [lp_Sl_11,m_Sl_11]
  rw [if_neg (by simp)])
 have e:List.replicate (Int.toNat 16) ((Zb.mk 0 0):Zb)=List.replicate 16 zW:=rfl
 rw [e]
 show (loopM (lp_Sl_11 p P8) _).bind _=_
 rw [this]
 simp only [Option.bind_some,m_Sl_25]
 show (loopM (lp_Sl_30 P8) _).bind _=_
 rw [a]
 rfl
end Go.Proofs.V

namespace Go.Proofs.V
open Go
def inRg (lo hi x:Int):Bool:=decide (lo≤x)&&decide (x≤hi)
theorem im_zrange (l:List Int) (lo hi most:Int) (hl:l.length≤4611686018427387903):m_Ij l lo hi most=some (decide ((l.length:Int)≤most)&&l.all (inRg lo hi)):=by
 simp only [m_Ij,m_Ij_0]
 by_cases h:(l.length:Int) > most
 ·rw [if_pos (by simpa using h)]
  have : ¬ (l.length:Int)≤most:=by omega
  simp [this]
 ·rw [if_neg (by simpa using h)]
  have:=all_list (l:=l) (q:=inRg lo hi) (b:=lp_Ij_15 lo hi l) hl (fun i hi'=>by
   simp only [lp_Ij_15,m_Ij_15]
   rw [if_pos (by simp <;> omega),rd_eq hi']
   simp only [Option.bind_some]
   unfold inRg
   by_cases h1:l[i] < lo
   ·rw [if_pos (by simpa using h1),if_neg (by simp;omega)]
   ·rw [if_neg (by simpa using h1)]
    by_cases h2:l[i] > hi
    ·rw [if_pos (by simpa using h2),if_neg (by simp;omega)]
    ·rw [if_neg (by simpa using h2),if_pos (by simp;omega),w64_succ (by omega)]) (by
   simp only [lp_Ij_15,m_Ij_15]
   rw [if_neg (by simp)])
  rw [this]
  have h' : (l.length:Int)≤most:=by omega
  simp only [Option.bind_some,decide_eq_true h',Bool.true_and]
  cases l.all (inRg lo hi) <;> rfl
theorem im_zsamples {p:List Int} (hp:In15 p):m_Ik p 16=some true:=by
 simp only [m_Ik,m_Ik_0]
 rw [if_pos (by simp [hp.1]),im_zrange _ _ _ _ (by rw [hp.1];omega)]
 have:p.all (inRg (-32768) 32767)=true:=by
  rw [List.all_eq_true]
  intro x hx
  have:=hp.2 x hx
  simp [inRg,this]
 simp [this,hp.1]
theorem imWaves {p:List Int} (hp:In15 p):m_Ie p=some (rounds (st16 p)):=by
 obtain ⟨a,b,c⟩ :=im34 (k:=15) (by omega) (st16_ok hp)
 simp only [m_Ie,m_Ie_0]
 rw [im_zsamples hp]
 simp only [Option.bind_some,if_true]
 rw [ck_eq (by omega)]
 simp only [Option.bind_some]
 have:=fill16 (b:=lp_Ie_17 p) p ((Int.toNat 16:Nat):Int) (fun i l hi hl hz=>by
  simp only [lp_Ie_17,m_Ie_17]
  rw [if_pos (by simp;omega),rv_im i hi,rd_d 0 (by rw [hp.1];exact rv_lt i hi)]
  simp only [Option.bind_some]
  rw [rd_d zW (by omega),hz]
  simp only [Option.bind_some]
  rw [w64_succ (by omega)]
  rfl) (fun l=>by
  simp only [lp_Ie_17,m_Ie_17]
  rw [if_neg (by simp)])
 have e:List.replicate (Int.toNat 16) ((Zb.mk 0 0):Zb)=List.replicate 16 zW:=rfl
 rw [e,this]
 simp only [Option.bind_some,m_Ie_29]
 rw [a]
 rfl
def pw (x:Zb):Int:=FI (FQ (FA (FM x.re x.re) (FM x.im x.im)))
structure PwOk (x:Zb):Prop where
 h1:vfl .mul .f64 x.re x.re=some (FM x.re x.re)
 h2:vfl .mul .f64 x.im x.im=some (FM x.im x.im)
 h3:vfl .add .f64 (FM x.re x.re) (FM x.im x.im)=some (FA (FM x.re x.re) (FM x.im x.im))
 h4:vfl .quo .f64 (FA (FM x.re x.re) (FM x.im x.im)) 4643211215818981376=some (FQ (FA (FM x.re x.re) (FM x.im x.im)))
 h5:vf2i .f64 (FQ (FA (FM x.re x.re) (FM x.im x.im))) .i64=some (pw x)
 le:(pw x).natAbs≤2 ^ 47
theorem pw_ok {x:Zb} (h:wv 23 x):PwOk x:=by
 obtain ⟨a1,b1⟩ :=fm_ok (by omega) h.1 h.1
 obtain ⟨a2,b2⟩ :=fm_ok (by omega) h.2 h.2
 obtain ⟨a3,b3⟩ :=fa_ok (by omega) b1 b2
 obtain ⟨a4,b4⟩ :=fq_ok (by omega) b3
 obtain ⟨a5,b5⟩ :=fi_ok (by omega) b4
 exact ⟨a1,a2,a3,a4,a5,b5⟩
def powF (p:List Int):List Int:=(List.range 8).map fun i=>pw ((rounds (st16 p)).getD i zW)
theorem powF_le {p:List Int} (hp:In15 p):∀ x ∈ powF p,x.natAbs≤2 ^ 47:=by
 intro x hx
 simp only [powF,List.mem_map,List.mem_range] at hx
 obtain ⟨i,hi,rfl⟩ :=hx
 exact (pw_ok ((spWaves hp).2.2 i (by omega))).le
theorem spPowers {p:List Int} (hp:In15 p):m_Sh p=some (powF p):=by
 obtain ⟨h1,h2,h3⟩ :=spWaves hp
 simp only [m_Sh,m_Sh_0]
 rw [h1]
 simp only [Option.bind_some]
 rw [ck_eq (by omega)]
 simp only [Option.bind_some]
 generalize hw:rounds (st16 p)=W at *
 have key:loopM (lp_Sh_11 W) (((Int.toNat 8:Nat):Int),0,List.replicate (Int.toNat 8) (0:Int))=some ((List.range 8).map fun i=>pw (W.getD i zW)):=by
  refine loopM_fun (b:=lp_Sh_11 W) (fun i (s:List Int)=>(((Int.toNat 8:Nat):Int),(i:Int),s)) 8 (fun i=>((List.range i).map fun i=>pw (W.getD i zW))++(List.replicate 8 (0:Int)).drop i) (e:=(List.range 8).map fun i=>pw (W.getD i zW)) (fun i hi=>?_) ?_ |> fun h=>by simpa using h
  ·obtain ⟨e1,e2,e3,e4,e5,_⟩ :=pw_ok (h3 i (by omega))
   simp only [lp_Sh_11,m_Sh_11]
   rw [if_pos (by simp;omega),rd_d zW (by omega)]
   simp only [Option.bind_some,e1,e2,e3,e4,e5]
   rw [rd_d 0 (by simp;omega)]
   simp only [Option.bind_some]
   rw [w64_succ (by omega),mark_set (fun i=>pw (W.getD i zW)) _ i (by simpa using hi)]
  ·simp only [lp_Sh_11,m_Sh_11]
   rw [if_neg (by simp)]
   simp
 rw [key]
 simp only [Option.bind_some,m_Sh_29,powF,hw]
theorem imPowers {p:List Int} (hp:In15 p):m_Ic p=some (powF p):=by
 obtain ⟨h1,h2,h3⟩ :=spWaves hp
 simp only [m_Ic,m_Ic_0]
 rw [imWaves hp]
 simp only [Option.bind_some]
 generalize hw:rounds (st16 p)=W at *
 have key:loopM (lp_Ic_9 W) (0,([]:List Int))=some ((List.range 8).map fun i=>pw (W.getD i zW)):=by
  refine loopM_fun (b:=lp_Ic_9 W) (fun i (s:List Int)=>((i:Int),s)) 16 (fun i=>(List.range (min i 8)).map fun i=>pw (W.getD i zW)) (e:=(List.range 8).map fun i=>pw (W.getD i zW)) (fun i hi=>?_) ?_
  ·simp only [lp_Ic_9,m_Ic_9]
   rw [if_pos (by simp [h2];omega),rd_d zW (by omega)]
   simp only [Option.bind_some]
   by_cases h8:i < 8
   ·obtain ⟨e1,e2,e3,e4,e5,_⟩ :=pw_ok (h3 i (by omega))
    rw [if_pos (by simp;omega)]
    simp only [Option.bind_some,e1,e2,e3,e4,e5]
    rw [ck_eq (by simp;omega)]
    simp only [Option.bind_some]
    rw [w64_succ (by omega),Nat.min_eq_left (by omega),Nat.min_eq_left (by omega),List.range_succ,List.map_append]
    rfl
   ·rw [if_neg (by simp;omega),w64_succ (by omega),Nat.min_eq_right (by omega),Nat.min_eq_right (by omega)]
  ·simp only [lp_Ic_9,m_Ic_9]
   rw [if_neg (by simp [h2])]
   rfl
 rw [key]
 simp only [Option.bind_some,m_Ic_25,powF,hw]
def bln:Nat→Nat→Nat
 | 0,_=>0
 | f+1,n=>if n=0 then 0 else bln f (n / 2)+1
theorem bln_le:∀ f n,bln f n≤f
 | 0,_=>Nat.le_refl _
 | f+1,n=>by
  simp only [bln]
  split
  ·omega
  ·have:=bln_le f (n / 2);omega
theorem half_loop {b:Int×Int→Option ((Int×Int)⊕Int)} (hb:∀ n c:Nat,0 < n→n < 2 ^ 60→c < 1000→b ((n:Int),(c:Int))=some (.inl (((n / 2:Nat):Int),((c+1:Nat):Int)))) (hd:∀ c:Int,b (0,c)=some (.inr c)) :
  ∀ (f n c:Nat),n < 2 ^ f→f≤60→c+f≤1000→loopM b ((n:Int),(c:Int))=some ((c+bln f n:Nat):Int)
 | 0,n,c,hn,hf,hc=>by
  have:n=0:=by simpa using hn
  subst this
  rw [loopM_eq]
  have:=hd c
  simp only [Int.natCast_zero,this]
  rfl
 | f+1,n,c,hn,hf,hc=>by
  by_cases h0:n=0
  ·subst h0
   rw [loopM_eq]
   have:=hd c
   simp only [Int.natCast_zero,this,bln,if_true,Nat.add_zero]
  ·have hn2:n < 2 ^ 60:=Nat.lt_of_lt_of_le hn (Nat.pow_le_pow_right (by decide) hf)
   rw [loopM_eq,hb n c (by omega) hn2 (by omega)]
   simp only
   rw [half_loop hb hd f (n / 2) (c+1) (by rw [Nat.pow_succ] at hn;omega) (by omega) (by omega)]
   simp only [bln,if_neg h0]
   congr 2
   omega
def grF (p q:Int):Int:=if p < 0 then 0 else (if ((bln 48 p.toNat+1) / 2:Nat) - q < 0 then 0 else if ((bln 48 p.toNat+1) / 2:Nat) - q > 12 then 12 else ((bln 48 p.toNat+1) / 2:Nat) - q)
theorem grF_in (p q:Int):0≤grF p q∧grF p q≤12:=by
 unfold grF
 split
 ·omega
 ·split
  ·omega
  ·split <;> omega
theorem half_w {v:Nat} (hv:v≤100) {q:Int} (h1:0≤q) (h2:q≤15):w64 (w64 (Int.tdiv (w64 ((v:Int)+1)) 2) - q)=((v+1) / 2:Nat) - q:=by
 rw [w64_succ (by omega),show (2:Int)=((2:Nat):Int) from rfl,←Int.ofNat_tdiv]
 have:(v+1) / 2≤51:=by omega
 generalize (v+1) / 2=u at *
 rw [w64_id (x:=((u:Nat):Int)) (by omega) (by omega),w64_id (by omega) (by omega)]
theorem spGrade {p q:Int} (hp:p.natAbs≤2 ^ 47) (h1:0≤q) (h2:q≤15):m_Sa p q=some (grF p q):=by
 simp only [m_Sa,m_Sa_0]
 have e47:(2:Nat) ^ 47=140737488355328:=by decide
 by_cases h0:p < 0
 ·rw [if_pos (by simpa using h0)]
  simp [grF,h0]
 ·rw [if_neg (by simpa using h0),if_neg (by simp;omega),if_neg (by simp;omega)]
  have key:=half_loop (b:=lp_Sa_15 q) (fun n c hn hn2 hc=>by
   simp only [lp_Sa_15,m_Sa_15]
   rw [if_pos (by simp;omega),w64_succ (by omega),show (2:Int)=((2:Nat):Int) from rfl,←Int.ofNat_tdiv]
   have:n / 2≤n:=Nat.div_le_self _ _
   have e60:(2:Nat) ^ 60=1152921504606846976:=by decide
   generalize n / 2=u at *
   rw [w64_id (by omega) (by omega)]) (fun c=>by
   simp only [lp_Sa_15,m_Sa_15]
   rw [if_neg (by simp)]) 48 p.toNat 0 (by
    have e48:(2:Nat) ^ 48=281474976710656:=by decide
    omega) (by omega) (by omega)
  have e:((p.toNat:Nat):Int)=p:=by omega
  rw [e] at key
  have key' : loopM (lp_Sa_15 q) (p,0)=some ((0+bln 48 p.toNat:Nat):Int):=key
  rw [key']
  have hb:=bln_le 48 p.toNat
  simp only [Option.bind_some,m_Sa_25,Nat.zero_add]
  unfold grF
  rw [if_neg h0]
  generalize bln 48 p.toNat=v at *
  rw [half_w (by omega) h1 h2]
  by_cases h3:(((v+1) / 2:Nat):Int) - q < 0
  ·rw [if_pos (by simpa using h3),if_pos h3]
  ·rw [if_neg (by simpa using h3),if_neg h3]
   by_cases h4:(((v+1) / 2:Nat):Int) - q > 12
   ·rw [if_pos (by simpa using h4),if_pos h4]
   ·rw [if_neg (by simpa using h4),if_neg h4]
theorem imGrade {p q:Int} (hp:p.natAbs≤2 ^ 47) (h1:0≤q) (h2:q≤15):m_Ia p q=some (grF p q):=by
 simp only [m_Ia,m_Ia_0]
 have e47:(2:Nat) ^ 47=140737488355328:=by decide
 by_cases h0:p < 0
 ·rw [if_pos (by simpa using h0)]
  simp [grF,h0]
 ·rw [if_neg (by simpa using h0),if_neg (by simp;omega),if_neg (by simp;omega)]
  have key:=half_loop (b:=lp_Ig_7) (fun n c hn hn2 hc=>by
   simp only [lp_Ig_7,m_Ig_7]
   rw [if_pos (by simp;omega),w64_succ (by omega),show (1:Int)=((1:Nat):Int) from rfl,shrI_nat _ _ _ (by decide)]) (fun c=>by
   simp only [lp_Ig_7,m_Ig_7]
   rw [if_neg (by simp)]) 48 p.toNat 0 (by
    have e48:(2:Nat) ^ 48=281474976710656:=by decide
    omega) (by omega) (by omega)
  have e:((p.toNat:Nat):Int)=p:=by omega
  rw [e] at key
  have key' : loopM lp_Ig_7 (p,0)=some ((0+bln 48 p.toNat:Nat):Int):=key
  have hb:=bln_le 48 p.toNat
  rw [wu64_id (by omega) (by omega)]
  simp only [m_Ig,m_Ig_0]
  rw [key']
  simp only [Option.bind_some,m_Ig_17,Nat.zero_add]
  unfold grF
  rw [if_neg h0]
  generalize bln 48 p.toNat=v at *
  rw [half_w (by omega) h1 h2]
  unfold mnI mxI
  by_cases h3:(((v+1) / 2:Nat):Int) - q < 0
  ·rw [if_pos (show (0:Int) > _ by omega),if_neg (by omega),if_pos h3]
  ·rw [if_neg (show ¬ (0:Int) > _ by omega),if_neg h3]
end Go.Proofs.V

namespace Go.Proofs.V
open Go
theorem spC (m:Int):m_Sd tb_1 m=m_Ih m:=rfl
noncomputable def cW (i:Nat):Int:=(m_Ih (w64 (31 - w64 (2*(i:Int))))).getD 0
noncomputable def cC (i n:Nat):Int:=(m_Ih (w64 (w64 (w64 (2*(i:Int))+17)*w64 (w64 (2*(n:Int))+1)))).getD 0
theorem cW_some:∀ i:Nat,i < 32→(m_Ih (w64 (31 - w64 (2*(i:Int))))).isSome=true:=by decide +kernel
theorem cC_some:∀ i:Nat,i < 32→∀ n:Nat,n < 16→(m_Ih (w64 (w64 (w64 (2*(i:Int))+17)*w64 (w64 (2*(n:Int))+1)))).isSome=true:=by decide +kernel
theorem some_getD {α:Type} {o:Option α} (h:o.isSome=true) (z:α):o=some (o.getD z):=by
 cases o with
 | none=>simp at h
 | some x=>rfl
theorem cW_eq {i:Nat} (h:i < 32):m_Ih (w64 (31 - w64 (2*(i:Int))))=some (cW i):=some_getD (cW_some i h) 0
theorem cC_eq {i n:Nat} (h:i < 32) (hn:n < 16):m_Ih (w64 (w64 (w64 (2*(i:Int))+17)*w64 (w64 (2*(n:Int))+1)))=some (cC i n):=some_getD (cC_some i h n hn) 0
noncomputable def winF:List Int:=(List.range 32).map cW
theorem win_get {i:Nat} (h:i < 32):winF.getD i 0=cW i:=by simp [winF,List.getD_eq_getElem?_getD,h]
theorem spWindow:m_Sc=some winF:=by
 simp only [m_Sc,m_Sc_0,m_Sk,m_Sk_0,Option.bind_some]
 rw [ck_eq (by omega)]
 simp only [Option.bind_some]
 have key:loopM (lp_Sc_11 tb_1) (((Int.toNat 32:Nat):Int),0,List.replicate (Int.toNat 32) (0:Int))=some winF:=by
  refine loopM_fun (b:=lp_Sc_11 tb_1) (fun i (s:List Int)=>(((Int.toNat 32:Nat):Int),(i:Int),s)) 32 (fun i=>(List.range i).map cW++(List.replicate 32 (0:Int)).drop i) (e:=winF) (fun i hi=>?_) ?_ |> fun h=>by simpa using h
  ·simp only [lp_Sc_11,m_Sc_11]
   rw [if_pos (by simp;omega),spC,cW_eq hi]
   simp only [Option.bind_some]
   rw [rd_d 0 (by simp;omega)]
   simp only [Option.bind_some]
   rw [w64_succ (by omega),mark_set cW _ i (by simpa using hi)]
  ·simp only [lp_Sc_11,m_Sc_11]
   rw [if_neg (by simp)]
   simp [winF]
 show (loopM (lp_Sc_11 tb_1) _).bind _=_
 rw [key]
 rfl
theorem imWindow:m_If=some winF:=by
 simp only [m_If,m_If_0]
 have key:loopM lp_If_9 (0,([]:List Int))=some winF:=by
  refine loopM_fun (b:=lp_If_9) (fun i (s:List Int)=>((i:Int),s)) 32 (fun i=>(List.range i).map cW) (e:=winF) (fun i hi=>?_) ?_
  ·simp only [lp_If_9,m_If_9]
   rw [if_pos (by simp;omega),cW_eq hi]
   simp only [Option.bind_some]
   rw [ck_eq (by simp;omega)]
   simp only [Option.bind_some]
   rw [w64_succ (by omega),List.range_succ,List.map_append]
   rfl
  ·simp only [lp_If_9,m_If_9]
   rw [if_neg (by simp)]
   rfl
 rw [key]
 rfl
noncomputable def yv (X:List Int) (i:Nat):Int:=shrI .i64 (w64 (w64 (X.getD i 0*cW i)+8192)) 14
noncomputable def sumF (X:List Int) (n:Nat):Int:=(List.range 32).foldl (fun s i=>w64 (s+w64 (yv X i*cC i n))) 8192
noncomputable def lapF (X:List Int):List Int:=(List.range 16).map fun n=>shrI .i64 (sumF X n) 14
theorem lapF_len (X:List Int):(lapF X).length=16:=by simp [lapF]
theorem set_map (g:Nat→Int) (l:List Int) (i:Nat) (h:i < l.length):((List.range i).map g++l.drop i).getD i 0=l.getD i 0:=by
 rw [List.getD_eq_getElem?_getD,List.getElem?_append_right (by simp),List.getElem?_drop,List.getD_eq_getElem?_getD]
 congr 2
 simp
theorem spLap {p0 p1:List Int} (h0:p0.length=16) (h1:p1.length=16):m_Sf p0 p1=some (lapF (p0++p1)):=by
 have hX:(p0++p1).length=32:=by simp [h0,h1]
 simp only [m_Sf,m_Sf_0,m_Sk,m_Sk_0,Option.bind_some]
 rw [spWindow]
 simp only [Option.bind_some]
 rw [ck_eq (by simp;omega)]
 simp only [Option.bind_some]
 rw [ck_eq (by simp;omega)]
 simp only [Option.bind_some,List.nil_append]
 generalize p0++p1=X at *
 rw [hX]
 have k1:loopM (lp_Sf_17 tb_1 winF) (((32:Nat):Int),0,X)=some ((List.range 32).map (yv X)):=by
  refine loopM_fun (b:=lp_Sf_17 tb_1 winF) (fun i (s:List Int)=>(((32:Nat):Int),(i:Int),s)) 32 (fun i=>(List.range i).map (yv X)++X.drop i) (e:=(List.range 32).map (yv X)) (fun i hi=>?_) ?_ |> fun h=>by simpa using h
  ·simp only [lp_Sf_17,m_Sf_17]
   rw [if_pos (by simp;omega),rd_d 0 (by simp;omega),set_map _ _ _ (by omega)]
   simp only [Option.bind_some]
   rw [rd_d 0 (by simp [winF];omega),win_get hi]
   simp only [Option.bind_some]
   rw [w64_succ (by omega)]
   have:=mark_set (yv X) X i (by omega)
   rw [show shrI .i64 (w64 (w64 (X.getD i 0*cW i)+8192)) 14=yv X i from rfl,this]
  ·simp only [lp_Sf_17,m_Sf_17]
   rw [if_neg (by simp)]
   rw [List.drop_eq_nil_of_le (by omega),List.append_nil]
 show (loopM (lp_Sf_17 tb_1 winF) _).bind _=_
 rw [k1]
 simp only [Option.bind_some,m_Sf_29]
 rw [ck_eq (by omega)]
 simp only [Option.bind_some]
 have k2:∀ (n:Nat) (c:Int) (l:List Int),n < 16→loopM (lp_Sf_53 (n:Int) c ((List.range 32).map (yv X)) tb_1 l) (8192,0)=some (sumF X n):=by
  intro n c l hn
  have:=(fold_range (n:=32) (fun (s:Int) i=>(s,(i:Int))) (g:=fun s i=>w64 (s+w64 (yv X i*cC i n))) (I:=fun _ _=>True) (b:=lp_Sf_53 (n:Int) c ((List.range 32).map (yv X)) tb_1 l) (e1:=fun s=>s)
   (fun i s hi _=>by
    refine ⟨?_,trivial⟩
    simp only [lp_Sf_53,m_Sf_53]
    rw [if_pos (by simp;omega),rd_d 0 (by simp;omega)]
    simp only [Option.bind_some]
    rw [spC,cC_eq hi hn]
    simp only [Option.bind_some]
    rw [w64_succ (by omega)]
    have:((List.range 32).map (yv X)).getD i 0=yv X i:=by simp [List.getD_eq_getElem?_getD,hi]
    rw [this]) (fun s _=>by
    simp only [lp_Sf_53,m_Sf_53]
    rw [if_neg (by simp)]) 8192 trivial).1
  exact this
 have k3:loopM (lp_Sf_36 tb_1 ((List.range 32).map (yv X))) (((Int.toNat 16:Nat):Int),0,List.replicate (Int.toNat 16) (0:Int))=some (lapF X):=by
  refine loopM_fun (b:=lp_Sf_36 tb_1 ((List.range 32).map (yv X))) (fun i (s:List Int)=>(((Int.toNat 16:Nat):Int),(i:Int),s)) 16 (fun i=>(List.range i).map (fun n=>shrI .i64 (sumF X n) 14)++(List.replicate 16 (0:Int)).drop i) (e:=lapF X) (fun i hi=>?_) ?_ |> fun h=>by simpa using h
  ·simp only [lp_Sf_36,m_Sf_36]
   rw [if_pos (by simp;omega),k2 i _ _ hi]
   simp only [Option.bind_some,m_Sf_65]
   rw [rd_d 0 (by simp;omega)]
   simp only [Option.bind_some]
   rw [w64_succ (by omega),mark_set (fun n=>shrI .i64 (sumF X n) 14) _ i (by simpa using hi)]
  ·simp only [lp_Sf_36,m_Sf_36]
   rw [if_neg (by simp)]
   simp [lapF]
 show (loopM (lp_Sf_36 tb_1 _) _).bind _=_
 rw [k3]
 rfl
theorem imLap {p0 p1:List Int} (h0:In15 p0) (h1:In15 p1):m_Ib p0 p1=some (lapF (p0++p1)):=by
 have hX:(p0++p1).length=32:=by simp [h0.1,h1.1]
 simp only [m_Ib,m_Ib_0]
 rw [im_zsamples h0]
 simp only [Option.bind_some,if_true]
 rw [im_zsamples h1]
 simp only [Option.bind_some,if_true,m_Ii,m_Ii_0]
 rw [ck_eq (by simp [h0.1])]
 simp only [Option.bind_some,List.nil_append]
 rw [ck_eq (by rw [h0.1,h1.1];omega)]
 simp only [Option.bind_some]
 rw [imWindow]
 simp only [Option.bind_some]
 generalize p0++p1=X at *
 have k2:∀ (n:Nat) (l:List Int),n < 16→loopM (lp_Ib_38 (n:Int) X winF l) (8192,0)=some (sumF X n):=by
  intro n l hn
  have:=(fold_range (n:=32) (fun (s:Int) i=>(s,(i:Int))) (g:=fun s i=>w64 (s+w64 (yv X i*cC i n))) (I:=fun _ _=>True) (b:=lp_Ib_38 (n:Int) X winF l) (e1:=fun s=>s)
   (fun i s hi _=>by
    refine ⟨?_,trivial⟩
    simp only [lp_Ib_38,m_Ib_38]
    rw [if_pos (by simp;omega),rd_d 0 (by omega)]
    simp only [Option.bind_some]
    rw [rd_d 0 (by simp [winF];omega),win_get hi]
    simp only [Option.bind_some]
    rw [cC_eq hi hn]
    simp only [Option.bind_some]
    rw [w64_succ (by omega)]
    rfl) (fun s _=>by
    simp only [lp_Ib_38,m_Ib_38]
    rw [if_neg (by simp [hX])]) 8192 trivial).1
  exact this
 have k3:loopM (lp_Ib_21 winF) (0,X,([]:List Int))=some (lapF X):=by
  refine loopM_fun (b:=lp_Ib_21 winF) (fun i (s:List Int)=>((i:Int),X,s)) 16 (fun i=>(List.range i).map (fun n=>shrI .i64 (sumF X n) 14)) (e:=lapF X) (fun i hi=>?_) ?_
  ·simp only [lp_Ib_21,m_Ib_21]
   rw [if_pos (by simp;omega),k2 i _ hi]
   simp only [Option.bind_some,m_Ib_50]
   rw [ck_eq (by simp;omega)]
   simp only [Option.bind_some]
   rw [w64_succ (by omega),List.range_succ,List.map_append]
   rfl
  ·simp only [lp_Ib_21,m_Ib_21]
   rw [if_neg (by simp)]
   rfl
 rw [k3]
 rfl
end Go.Proofs.V

namespace Go.Proofs.V
open Go
noncomputable def qF (n g:Int):Int:=
 if n < 0 then w64 (0 - w64 (Int.tdiv (w64 (w64 (0 - n)+w64 (Int.tdiv (shlI .i64 1 g) 2))) (shlI .i64 1 g)))
 else w64 (Int.tdiv (w64 (n+w64 (Int.tdiv (shlI .i64 1 g) 2))) (shlI .i64 1 g))
def befF (A:List Int) (j:Nat):List Int:=(A.drop (16*j)).take 16
def nowF (A:List Int) (j:Nat):List Int:=(A.drop (16*j+16)).take 16
noncomputable def grsF (A:List Int) (q:Int) (j:Nat):List Int:=(powF (nowF A j)).map fun p=>grF p q
noncomputable def slF (A:List Int) (q:Int) (j:Nat):List Int:=(List.range 16).map fun i=>qF ((lapF (befF A j++nowF A j)).getD i 0) ((grsF A q j).getD (i / 2) 0)
theorem powF_len (p:List Int):(powF p).length=8:=by simp [powF]
theorem grsF_len (A:List Int) (q:Int) (j:Nat):(grsF A q j).length=8:=by simp [grsF,powF_len]
theorem grsF_in (A:List Int) (q:Int) (j k:Nat) (hk:k < 8):0≤(grsF A q j).getD k 0∧(grsF A q j).getD k 0≤12:=by
 have:(grsF A q j).getD k 0=grF ((powF (nowF A j)).getD k 0) q:=by
  have h:k < (powF (nowF A j)).length:=by rw [powF_len];exact hk
  simp [grsF,List.getD_eq_getElem?_getD,h]
 rw [this]
 exact grF_in _ _
theorem shl_ne:∀ g:Nat,g≤12→shlI .i64 1 (g:Int)≠0:=by decide +kernel
theorem shl_ne' {g:Int} (h0:0≤g) (h:g≤12):shlI .i64 1 g≠0:=by
 have:=shl_ne g.toNat (by omega)
 rwa [show ((g.toNat:Nat):Int)=g by omega] at this
theorem half_i {i:Nat} (h:i < 100):w64 (Int.tdiv (i:Int) 2)=((i / 2:Nat):Int):=by
 rw [show (2:Int)=((2:Nat):Int) from rfl,←Int.ofNat_tdiv]
 have:i / 2≤i:=Nat.div_le_self _ _
 generalize i / 2=u at *
 rw [w64_id (by omega) (by omega)]
theorem quant_gen {b:Int×List Int→Option ((Int×List Int)⊕List Int)} {X G:List Int} (hX:X.length=16)
  (hb:∀ (i:Nat) (l:List Int),i < 16→l.length=16→l.getD i 0=X.getD i 0→b ((i:Int),l)=some (.inl (((i+1:Nat):Int),l.set (0+Int.toNat (i:Int)) (qF (X.getD i 0) (G.getD (i / 2) 0)))))
  (hd:∀ l,b (16,l)=some (.inr l)):loopM b (0,X)=some ((List.range 16).map fun i=>qF (X.getD i 0) (G.getD (i / 2) 0)):=by
 refine loopM_fun (b:=b) (fun i (s:List Int)=>((i:Int),s)) 16 (fun i=>(List.range i).map (fun i=>qF (X.getD i 0) (G.getD (i / 2) 0))++X.drop i) (e:=(List.range 16).map fun i=>qF (X.getD i 0) (G.getD (i / 2) 0)) (fun i hi=>?_) ?_ |> fun h=>by simpa using h
 ·rw [hb i _ hi (by simp;omega) (set_map _ _ _ (by omega)),mark_set (fun i=>qF (X.getD i 0) (G.getD (i / 2) 0)) X i (by omega)]
 ·rw [show ((16:Nat):Int)=16 from rfl,hd,List.drop_eq_nil_of_le (by omega),List.append_nil]
theorem sp78 {X G:List Int} (hX:X.length=16) (hG:G.length=8) (hg:∀ k,k < 8→0≤G.getD k 0∧G.getD k 0≤12) (p1 x5 j p0:Int) (p2 A:List Int) (l1 l2:List (List Int)) :
  loopM (lp_Sb_78 p1 x5 j X p0 p2 A G l1 l2) (0,X)=some ((List.range 16).map fun i=>qF (X.getD i 0) (G.getD (i / 2) 0)):=by
 refine quant_gen hX (fun i l hi hl hx=>?_) (fun l=>?_)
 ·obtain ⟨g0,g1⟩ :=hg (i / 2) (by omega)
  simp only [lp_Sb_78,m_Sb_78]
  rw [if_pos (by simp;omega),rd_d 0 (by omega),hx]
  simp only [Option.bind_some]
  rw [half_i (by omega),rd_d 0 (by omega)]
  simp only [Option.bind_some]
  rw [wu64_id g0 (by omega),ck_eq g0]
  simp only [Option.bind_some]
  rw [ck_eq (shl_ne' g0 g1),w64_succ (by omega)]
  simp only [Option.bind_some]
  unfold qF
  by_cases h0:X.getD i 0 < 0
  ·rw [if_pos (by simpa using h0),if_pos h0]
  ·rw [if_neg (by simpa using h0),if_neg h0]
 ·simp only [lp_Sb_78,m_Sb_78]
  rw [if_neg (by simp [hX])]
theorem im61 {X G:List Int} (hX:X.length=16) (hG:G.length=8) (hg:∀ k,k < 8→0≤G.getD k 0∧G.getD k 0≤12) (p1 a j p0:Int) (p2 A:List Int) (l1 l2:List (List Int)) :
  loopM (lp_Id_61 p1 a j X p0 p2 A G l1 l2) (0,X)=some ((List.range 16).map fun i=>qF (X.getD i 0) (G.getD (i / 2) 0)):=by
 refine quant_gen hX (fun i l hi hl hx=>?_) (fun l=>?_)
 ·obtain ⟨g0,g1⟩ :=hg (i / 2) (by omega)
  simp only [lp_Id_61,m_Id_61]
  rw [if_pos (by simp;omega),rd_d 0 (by omega),hx]
  simp only [Option.bind_some]
  rw [half_i (by omega),rd_d 0 (by omega)]
  simp only [Option.bind_some]
  rw [ck_eq g0]
  simp only [Option.bind_some]
  rw [ck_eq (shl_ne' g0 g1),w64_succ (by omega)]
  simp only [Option.bind_some]
  unfold qF
  by_cases h0:X.getD i 0 < 0
  ·rw [if_pos (by simpa using h0),if_pos h0]
  ·rw [if_neg (by simpa using h0),if_neg h0]
 ·simp only [lp_Id_61,m_Id_61]
  rw [if_neg (by simp [hX])]
theorem grs_get (A:List Int) (q:Int) (j k:Nat) (hk:k < 8):(grsF A q j).getD k 0=grF ((powF (nowF A j)).getD k 0) q:=by
 have h:k < (powF (nowF A j)).length:=by rw [powF_len];exact hk
 simp [grsF,List.getD_eq_getElem?_getD,h]
theorem grs_range (A:List Int) (q:Int) (j:Nat):grsF A q j=(List.range 8).map fun k=>grF ((powF (nowF A j)).getD k 0) q:=by
 apply List.ext_getElem?
 intro k
 by_cases hk:k < 8
 ·have:=grs_get A q j k hk
  rw [List.getD_eq_getElem?_getD,List.getElem?_eq_getElem (by rw [grsF_len];exact hk)] at this
  rw [List.getElem?_eq_getElem (by rw [grsF_len];exact hk)]
  simp at this
  simp [hk,this]
 ·rw [List.getElem?_eq_none (by rw [grsF_len];omega),List.getElem?_eq_none (by simp;omega)]
structure AllOk (A:List Int) (H:Nat):Prop where
 len:A.length=16*H+16
 rng:∀ x ∈ A,-32768≤x∧x≤32767
theorem now_in {A:List Int} {H j:Nat} (hA:AllOk A H) (hj:j < H):In15 (nowF A j):=
 ⟨by simp [nowF,hA.len];omega,fun x hx=>hA.rng x (List.mem_of_mem_drop (List.mem_of_mem_take hx))⟩
theorem bef_in {A:List Int} {H j:Nat} (hA:AllOk A H) (hj:j < H):In15 (befF A j):=
 ⟨by simp [befF,hA.len];omega,fun x hx=>hA.rng x (List.mem_of_mem_drop (List.mem_of_mem_take hx))⟩
theorem w16 {j:Nat} (h:j < 100000):w64 (16*(j:Int))=((16*j:Nat):Int):=by rw [w64_id (by omega) (by omega)];omega
theorem w16a {j:Nat} (h:j < 100000):w64 (((16*j:Nat):Int)+16)=((16*j+16:Nat):Int):=by rw [w64_id (by omega) (by omega)];omega
theorem w16b {j:Nat} (h:j < 100000):w64 (((16*j:Nat):Int)+32)=((16*j+32:Nat):Int):=by rw [w64_id (by omega) (by omega)];omega
theorem sp38 {A:List Int} {H j:Nat} (hA:AllOk A H) (hH:H≤1000) (hj:j < H) {q:Int} (hq0:0≤q) (hq1:q≤15) (p0:Int) (p2:List Int) {l1 l2:List (List Int)} (h1:l1.length=j) (h2:l2.length=j) :
  lp_Sb_38 q (H:Int) p0 p2 A ((j:Int),l1,l2)=some (.inl (((j+1:Nat):Int),l1++[slF A q j],l2++[grsF A q j])):=by
 simp only [lp_Sb_38,m_Sb_38]
 rw [if_pos (by simp;omega)]
 simp only [w16 (j:=j) (by omega),w16a (j:=j) (by omega),w16b (j:=j) (by omega),Int.toNat_natCast]
 rw [ck_eq (by have:=hA.len;omega)]
 simp only [Option.bind_some]
 rw [ck_eq (by omega)]
 simp only [Option.bind_some]
 rw [ck_eq (by have:=hA.len;omega)]
 simp only [Option.bind_some]
 rw [ck_eq (by omega)]
 simp only [Option.bind_some]
 rw [ck_eq (by have:=hA.len;omega)]
 simp only [Option.bind_some,Nat.zero_add]
 have e1:16*j+32 - (16*j+16)=16:=by omega
 have e2:16*j+16 - 16*j=16:=by omega
 rw [e1,e2]
 rw [show (A.drop (16*j+16)).take 16=nowF A j from rfl,spPowers (now_in hA hj)]
 simp only [Option.bind_some]
 rw [ck_eq (by omega)]
 simp only [Option.bind_some]
 have k1:loopM (lp_Sb_59 q (H:Int) (j:Int) p0 p2 A (powF (nowF A j)) l1 l2) (16*j,16*j+16,((Int.toNat 8:Nat):Int),0,List.replicate (Int.toNat 8) (0:Int),16,16)=some (16*j,16*j+16,grsF A q j,16,16):=by
  refine loopM_fun (b:=lp_Sb_59 q (H:Int) (j:Int) p0 p2 A (powF (nowF A j)) l1 l2) (fun i (s:List Int)=>(16*j,16*j+16,((Int.toNat 8:Nat):Int),(i:Int),s,16,16)) 8 (fun i=>(List.range i).map (fun k=>grF ((powF (nowF A j)).getD k 0) q)++(List.replicate 8 (0:Int)).drop i) (e:=(16*j,16*j+16,grsF A q j,16,16)) (fun i hi=>?_) ?_ |> fun h=>by simpa using h
  ·simp only [lp_Sb_59,m_Sb_59]
   have hp:((powF (nowF A j)).getD i 0).natAbs≤2 ^ 47:=by
    refine powF_le (now_in hA hj) _ ?_
    rw [List.getD_eq_getElem?_getD,List.getElem?_eq_getElem (by rw [powF_len];exact hi)]
    exact List.getElem_mem _
   rw [if_pos (by simp;omega),rd_d 0 (by rw [powF_len];exact hi)]
   simp only [Option.bind_some]
   rw [spGrade hp hq0 hq1]
   simp only [Option.bind_some]
   rw [rd_d 0 (by simp;omega)]
   simp only [Option.bind_some]
   rw [w64_succ (by omega),mark_set (fun k=>grF ((powF (nowF A j)).getD k 0) q) _ i (by simpa using hi)]
  ·simp only [lp_Sb_59,m_Sb_59]
   rw [if_neg (by simp),grs_range]
   simp
 rw [k1]
 simp only [Option.bind_some,m_Sb_71]
 rw [ck_eq (by have:=hA.len;omega)]
 simp only [Option.bind_some]
 rw [ck_eq (by have:=hA.len;omega)]
 simp only [Option.bind_some]
 rw [show (A.drop (16*j+16)).take 16=nowF A j from rfl,show (A.drop (16*j)).take 16=befF A j from rfl,spLap (bef_in hA hj).1 (now_in hA hj).1]
 simp only [Option.bind_some]
 rw [sp78 (lapF_len _) (grsF_len A q j) (fun k hk=>grsF_in A q j k hk)]
 simp only [Option.bind_some,m_Sb_96]
 rw [ck_eq (by simp;omega)]
 simp only [Option.bind_some]
 rw [ck_eq (by simp;omega)]
 simp only [Option.bind_some]
 rw [w64_succ (by omega)]
 rfl
theorem im23 {A:List Int} {H j:Nat} (hA:AllOk A H) (hH:H≤1000) (hj:j < H) {q:Int} (hq0:0≤q) (hq1:q≤15) (p0:Int) (p2:List Int) {l1 l2:List (List Int)} (h1:l1.length=j) (h2:l2.length=j) :
  lp_Id_23 q p0 p2 ((H:Int),(j:Int),A,l1,l2)=some (.inl ((H:Int),((j+1:Nat):Int),A,l1++[slF A q j],l2++[grsF A q j])):=by
 simp only [lp_Id_23,m_Id_23]
 rw [if_pos (by simp;omega)]
 simp only [w16 (j:=j) (by omega),w16a (j:=j) (by omega),w16b (j:=j) (by omega),Int.toNat_natCast]
 rw [ck_eq (by have:=hA.len;omega)]
 simp only [Option.bind_some]
 rw [ck_eq (by omega)]
 simp only [Option.bind_some]
 rw [ck_eq (by have:=hA.len;omega)]
 simp only [Option.bind_some,Nat.zero_add]
 have e1:16*j+32 - (16*j+16)=16:=by omega
 have e2:16*j+16 - 16*j=16:=by omega
 rw [e1]
 rw [show (A.drop (16*j+16)).take 16=nowF A j from rfl,imPowers (now_in hA hj)]
 simp only [Option.bind_some]
 have k1:loopM (lp_Id_42 q (j:Int) (H:Int) (powF (nowF A j)) p0 p2 A l1 l2) (16*j+16,0,([]:List Int),16)=some (16*j+16,grsF A q j,16):=by
  refine loopM_fun (b:=lp_Id_42 q (j:Int) (H:Int) (powF (nowF A j)) p0 p2 A l1 l2) (fun i (s:List Int)=>(16*j+16,(i:Int),s,16)) 8 (fun i=>(List.range i).map (fun k=>grF ((powF (nowF A j)).getD k 0) q)) (e:=(16*j+16,grsF A q j,16)) (fun i hi=>?_) ?_
  ·simp only [lp_Id_42,m_Id_42]
   have hp:((powF (nowF A j)).getD i 0).natAbs≤2 ^ 47:=by
    refine powF_le (now_in hA hj) _ ?_
    rw [List.getD_eq_getElem?_getD,List.getElem?_eq_getElem (by rw [powF_len];exact hi)]
    exact List.getElem_mem _
   rw [if_pos (by rw [powF_len];simp;omega),rd_d 0 (by rw [powF_len];exact hi)]
   simp only [Option.bind_some]
   rw [imGrade hp hq0 hq1]
   simp only [Option.bind_some]
   rw [ck_eq (by simp;omega)]
   simp only [Option.bind_some]
   rw [w64_succ (by omega),List.range_succ,List.map_append]
   rfl
  ·simp only [lp_Id_42,m_Id_42]
   rw [if_neg (by rw [powF_len];simp),grs_range]
 rw [k1]
 simp only [Option.bind_some,m_Id_54]
 simp only [w16 (j:=j) (by omega),w16a (j:=j) (by omega),Int.toNat_natCast]
 rw [ck_eq (by have:=hA.len;omega)]
 simp only [Option.bind_some]
 rw [ck_eq (by omega)]
 simp only [Option.bind_some]
 rw [ck_eq (by have:=hA.len;omega)]
 simp only [Option.bind_some]
 rw [ck_eq (by have:=hA.len;omega)]
 simp only [Option.bind_some,Nat.zero_add]
 rw [e2]
 rw [show (A.drop (16*j+16)).take 16=nowF A j from rfl,show (A.drop (16*j)).take 16=befF A j from rfl,imLap (bef_in hA hj) (now_in hA hj)]
 simp only [Option.bind_some]
 rw [im61 (lapF_len _) (grsF_len A q j) (fun k hk=>grsF_in A q j k hk)]
 simp only [Option.bind_some,m_Id_79]
 rw [ck_eq (by simp;omega)]
 simp only [Option.bind_some]
 rw [ck_eq (by simp;omega)]
 simp only [Option.bind_some]
 rw [w64_succ (by omega)]
 rfl
end Go.Proofs.V

namespace Go.Proofs.V
open Go
def slotsF (p:List Int):Nat:=(p.length+15) / 16+1
def allF (p:List Int):List Int:=(List.replicate 16 0++p)++List.replicate (16*slotsF p - p.length) 0
theorem slots_eq {p:List Int} (h:p.length≤4000):w64 (w64 (Int.tdiv (w64 ((p.length:Int)+15)) 16)+1)=(slotsF p:Int):=by
 have e1:w64 ((p.length:Int)+15)=((p.length+15:Nat):Int):=by rw [w64_id (by omega) (by omega)];omega
 rw [e1,show (16:Int)=((16:Nat):Int) from rfl,←Int.ofNat_tdiv]
 unfold slotsF
 have:(p.length+15) / 16≤p.length+15:=Nat.div_le_self _ _
 generalize (p.length+15) / 16=u at *
 rw [w64_id (x:=((u:Nat):Int)) (by omega) (by omega),w64_succ (by omega)]
theorem slots_le {p:List Int} (h:p.length≤4000):slotsF p≤252∧p.length+16≤16*slotsF p+15:=by unfold slotsF;omega
theorem all_ok {p:List Int} (h:p.length≤4000) (hr:∀ x ∈ p,-32768≤x∧x≤32767):AllOk (allF p) (slotsF p):=by
 have:=slots_le h
 refine ⟨by simp [allF];omega,fun x hx=>?_⟩
 simp only [allF,List.mem_append,List.mem_replicate] at hx
 rcases hx with (⟨_,rfl⟩ | hx) | ⟨_,rfl⟩
 ·omega
 ·exact hr x hx
 ·omega
noncomputable def tonesF (p0 p1:Int) (p2:List Int):Za:=⟨p0,p1,(p2.length:Int),(List.range (slotsF p2)).map (slF (allF p2) p1),(List.range (slotsF p2)).map (grsF (allF p2) p1)⟩
theorem sp5 {p0 p1:Int} {p2:List Int} (h:p2.length≤4000) (hr:∀ x ∈ p2,-32768≤x∧x≤32767) (hq0:0≤p1) (hq1:p1≤15):m_Sb_5 p0 p1 p2 false=some (tonesF p0 p1 p2):=by
 have hs:=slots_le h
 have hA:=all_ok h hr
 simp only [m_Sb_5,m_Sj,m_Sj_0,Bool.false_eq_true,if_false,Option.bind_some]
 rw [slots_eq h]
 generalize hH:slotsF p2=H at *
 rw [w16 (by omega),w16a (by omega),ck_eq (by omega)]
 simp only [Option.bind_some,Int.toNat_natCast]
 have k1:loopM (lp_Sb_21 p1 (H:Int) p2 p0) (0,List.replicate (16*H+16) (0:Int))=some (allF p2):=by
  refine loopM_fun (b:=lp_Sb_21 p1 (H:Int) p2 p0) (fun i (s:List Int)=>((i:Int),s)) p2.length (fun i=>(List.replicate 16 (0:Int)++p2.take i)++List.replicate (16*H - i) 0) (e:=allF p2) (fun i hi=>?_) ?_ |> fun h=>by
    have e:(List.replicate 16 (0:Int)++p2.take 0)++List.replicate (16*H - 0) 0=List.replicate (16*H+16) 0:=by
     rw [List.take_zero,List.append_nil,List.replicate_append_replicate]
     congr 1
     omega
    have h':=h
    simp only [e] at h'
    exact h'
  ·simp only [lp_Sb_21,m_Sb_21]
   have e1:w64 (16+(i:Int))=((16+i:Nat):Int):=by rw [w64_id (by omega) (by omega)];omega
   rw [if_pos (by simp;omega),rd_eq hi,e1]
   simp only [Option.bind_some]
   rw [rd_d 0 (by simp;omega)]
   simp only [Option.bind_some]
   rw [w64_succ (by omega)]
   congr 4
   apply List.ext_getElem?
   intro k
   have m1:min i p2.length=i:=by omega
   have m2:min (i+1) p2.length=i+1:=by omega
   simp only [Nat.zero_add,Int.toNat_natCast,List.getElem?_set,List.getElem?_append,List.length_append,List.length_replicate,List.length_take,List.getElem?_replicate,List.getElem?_take,m1,m2]
   by_cases hk:16+i=k
   ·subst hk
    rw [if_pos rfl]
    repeat' split
    all_goals first
     | rfl
     | (exfalso;omega)
     | (rw [show 16+i - 16=i by omega,List.getElem?_eq_getElem hi])
   ·rw [if_neg hk]
    repeat' split
    all_goals first
     | rfl
     | (exfalso;omega)
  ·simp only [lp_Sb_21,m_Sb_21]
   rw [if_neg (by simp),List.take_length]
   simp only [allF,hH]
 rw [k1]
 simp only [Option.bind_some,m_Sb_33]
 have k2:loopM (lp_Sb_38 p1 (H:Int) p0 p2 (allF p2)) (0,([]:List (List Int)),([]:List (List Int)))=some ((List.range H).map (slF (allF p2) p1),(List.range H).map (grsF (allF p2) p1)):=by
  refine loopM_fun (b:=lp_Sb_38 p1 (H:Int) p0 p2 (allF p2)) (fun i (s:List (List Int)×List (List Int))=>((i:Int),s)) H (fun i=>((List.range i).map (slF (allF p2) p1),(List.range i).map (grsF (allF p2) p1))) (e:=((List.range H).map (slF (allF p2) p1),(List.range H).map (grsF (allF p2) p1))) (fun i hi=>?_) ?_
  ·rw [sp38 hA (by omega) hi hq0 hq1 p0 p2 (by simp) (by simp),List.range_succ,List.map_append,List.map_append]
   rfl
  ·simp only [lp_Sb_38,m_Sb_38]
   rw [if_neg (by simp)]
 rw [k2]
 simp only [Option.bind_some,m_Sb_100,tonesF,hH]
theorem im5 {p0 p1:Int} {p2:List Int} (h:p2.length≤4000) (hr:∀ x ∈ p2,-32768≤x∧x≤32767) (hq0:0≤p1) (hq1:p1≤15):m_Id_5 p0 p1 p2 false=some (tonesF p0 p1 p2):=by
 have hs:=slots_le h
 have hA:=all_ok h hr
 simp only [m_Id_5,Bool.false_eq_true,if_false]
 rw [slots_eq h]
 generalize hH:slotsF p2=H at *
 have e1:w64 (16*w64 ((H:Int)+1))=((16*H+16:Nat):Int):=by
  rw [w64_succ (by omega),w64_id (by omega) (by omega)]
  omega
 rw [e1]
 simp only [Int.toNat_natCast]
 rw [ck_eq (by omega)]
 simp only [Option.bind_some]
 rw [ck_eq (by omega)]
 simp only [Option.bind_some]
 rw [ck_eq (by rw [List.length_replicate,show Int.toNat 16=16 from rfl];omega)]
 simp only [Option.bind_some]
 have e2:((List.replicate (16*H+16) (0:Int)).take (0+(Int.toNat 16))++p2)++(List.replicate (16*H+16) (0:Int)).drop ((0+(Int.toNat 16))+p2.length)=allF p2:=by
  rw [List.take_replicate,List.drop_replicate,show Int.toNat 16=16 from rfl,Nat.zero_add,Nat.min_eq_left (by omega)]
  simp only [allF,hH]
  congr 2
  omega
 rw [e2]
 have k2:loopM (lp_Id_23 p1 p0 p2) ((H:Int),0,allF p2,([]:List (List Int)),([]:List (List Int)))=some ((List.range H).map (slF (allF p2) p1),(List.range H).map (grsF (allF p2) p1)):=by
  refine loopM_fun (b:=lp_Id_23 p1 p0 p2) (fun i (s:List (List Int)×List (List Int))=>((H:Int),(i:Int),allF p2,s)) H (fun i=>((List.range i).map (slF (allF p2) p1),(List.range i).map (grsF (allF p2) p1))) (e:=((List.range H).map (slF (allF p2) p1),(List.range H).map (grsF (allF p2) p1))) (fun i hi=>?_) ?_
  ·rw [im23 hA (by omega) hi hq0 hq1 p0 p2 (by simp) (by simp),List.range_succ,List.map_append,List.map_append]
   rfl
  ·simp only [lp_Id_23,m_Id_23]
   rw [if_neg (by simp)]
 rw [k2]
 simp only [Option.bind_some,m_Id_83,tonesF,hH]
theorem sp_samples (l:List Int) (hl:l.length≤4611686018427387903):m_Si l (-1)=some (l.all (inRg (-32768) 32767)):=by
 simp only [m_Si,m_Si_0]
 have:=all_list (l:=l) (q:=inRg (-32768) 32767) (b:=lp_Si_7 l (-1)) hl (fun i hi'=>by
  simp only [lp_Si_7,m_Si_7]
  rw [if_pos (by simp <;> omega),rd_eq hi']
  simp only [Option.bind_some]
  unfold inRg
  by_cases h1:l[i] < -32768
  ·rw [if_pos (by simpa using h1),if_neg (by simp;omega)]
  ·rw [if_neg (by simpa using h1)]
   by_cases h2:l[i] > 32767
   ·rw [if_pos (by simpa using h2),if_neg (by simp;omega)]
   ·rw [if_neg (by simpa using h2),if_pos (by simp;omega),w64_succ (by omega)]) (by
  simp only [lp_Si_7,m_Si_7]
  rw [if_neg (by simp)])
 rw [this]
 simp only [Option.bind_some]
 cases l.all (inRg (-32768) 32767)
 ·rfl
 ·simp only [cond_true,m_Si_25]
  rw [if_pos (by decide)]
theorem sp_head (r q n:Int):m_Se r q n=some (decide (1≤r∧r≤1000000∧0≤q∧q≤15∧0≤n∧n≤4000)):=by
 simp only [m_Se,m_Se_0]
 by_cases h1:r≥1
 ·rw [if_pos (by simpa using h1)]
  by_cases h2:r≤1000000
  ·rw [if_pos (by simpa using h2)]
   by_cases h3:q≥0
   ·rw [if_pos (by simpa using h3)]
    by_cases h4:q≤15
    ·rw [if_pos (by simpa using h4)]
     by_cases h5:n≥0
     ·rw [if_pos (by simpa using h5)]
      congr 1
      simp only [decide_eq_decide]
      omega
     ·rw [if_neg (by simpa using h5),decide_eq_false (by omega)]
    ·rw [if_neg (by simpa using h4),decide_eq_false (by omega)]
   ·rw [if_neg (by simpa using h3),decide_eq_false (by omega)]
  ·rw [if_neg (by simpa using h2),decide_eq_false (by omega)]
 ·rw [if_neg (by simpa using h1),decide_eq_false (by omega)]
def Sm_T (x:Za):Prop:=(x.slots.length≤1048576∧∀ y0 ∈ x.slots,y0.length≤1048576)∧(x.grades.length≤1048576∧∀ y0 ∈ x.grades,y0.length≤1048576)
theorem core_Tones (p0 p1:Int) (p2:List Int) (hl:p2.length≤1048576):∃ w:Za,m_Sb p0 p1 p2=some w∧m_Id p0 p1 p2=some w∧Sm_T w:=by
 have hz:Sm_T (Za.mk 0 0 0 ([]:List (List Int)) ([]:List (List Int))):=⟨⟨by simp,by simp⟩,by simp,by simp⟩
 have z1:∀ a b c,m_Sb_5 a b c true=some (Za.mk 0 0 0 ([]:List (List Int)) ([]:List (List Int))):=fun _ _ _=>rfl
 have z2:∀ a b c,m_Id_5 a b c true=some (Za.mk 0 0 0 ([]:List (List Int)) ([]:List (List Int))):=fun _ _ _=>rfl
 simp only [m_Sb,m_Sb_0,m_Id,m_Id_0]
 rw [sp_head]
 simp only [Option.bind_some]
 rw [im_zrange _ _ _ _ (by omega),sp_samples _ (by omega)]
 by_cases hr:1≤p0∧p0≤1000000∧0≤p1∧p1≤15
 ·rw [if_neg (show ¬ decide (p0 < 1)=true by simp;omega),if_neg (show ¬ decide (p0 > 1000000)=true by simp;omega),if_neg (show ¬ decide (p1 < 0)=true by simp;omega),if_neg (show ¬ decide (p1 > 15)=true by simp;omega)]
  simp only [Option.bind_some]
  by_cases h4:p2.length≤4000
  ·rw [if_pos (by simp;omega),decide_eq_true (show ((p2.length:Nat):Int)≤4000 by omega),Bool.true_and]
   cases ha:p2.all (inRg (-32768) 32767) with
   | false=>simp only [Bool.not_false,z1,z2];exact ⟨_,rfl,rfl,hz⟩
   | true=>
    have hin:∀ x ∈ p2,-32768≤x∧x≤32767:=by
     intro x hx
     have:=List.all_eq_true.1 ha x hx
     simpa [inRg] using this
    simp only [Bool.not_true]
    rw [sp5 h4 hin hr.2.2.1 hr.2.2.2,im5 h4 hin hr.2.2.1 hr.2.2.2]
    have:=slots_le h4
    refine ⟨_,rfl,rfl,⟨by simp [tonesF];omega,?_⟩,by simp [tonesF];omega,?_⟩
    ·intro y hy
     simp only [tonesF,List.mem_map] at hy
     obtain ⟨j,_,rfl⟩ :=hy
     simp [slF]
    ·intro y hy
     simp only [tonesF,List.mem_map] at hy
     obtain ⟨j,_,rfl⟩ :=hy
     rw [grsF_len]
     omega
  ·rw [if_neg (by simp;omega),decide_eq_false (show ¬ ((p2.length:Nat):Int)≤4000 by omega),Bool.false_and]
   simp only [Bool.not_false,z1,z2]
   exact ⟨_,rfl,rfl,hz⟩
 ·rw [if_neg (by simp;omega)]
  refine ⟨_,z1 _ _ _,?_,hz⟩
  by_cases a1:p0 < 1
  ·rw [if_pos (by simpa using a1),z2]
  ·rw [if_neg (by simpa using a1)]
   by_cases a2:p0 > 1000000
   ·rw [if_pos (by simpa using a2),z2]
   ·rw [if_neg (by simpa using a2)]
    by_cases a3:p1 < 0
    ·rw [if_pos (by simpa using a3),z2]
    ·rw [if_neg (by simpa using a3),if_pos (by simp;omega),z2]
end Go.Proofs.V

namespace Go.Proofs.V
open Go
theorem to_IntS (x:(List Int)) (hx:x.length≤1048576):m_Lj x=some x:=by
 have hl:x.length≤1048576:=hx
 simp only [m_Lj,m_Lj_0,m_Lj_19]
 rw [ck_eq (by omega)]
 simp only [Option.bind_some]
 suffices key:∀ z,loopM (lp_Lj_9 x) (0,List.replicate (Int.toNat (x.length:Int)) z)=some x by
  rw [key]
  rfl
 intro z
 refine to_list (l:=x) (fun i out hi ho=>?_) (fun out=>?_) z
 ·simp only [lp_Lj_9,m_Lj_9]
  rw [if_pos (by simp <;> omega),rd_eq hi]
  simp only [Option.bind_some]
  rw [rd_eq (by omega)]
  simp only [Option.bind_some]
  rw [w64_succ (by omega)]
 ·simp only [lp_Lj_9,m_Lj_9]
  rw [if_neg (by simp)]
theorem eq_IntS (x:(List Int)) (hx:x.length≤1048576):m_La x x=some true:=by
 have hl:x.length≤1048576:=hx
 simp only [m_La,m_La_0,m_La_31]
 rw [if_neg (by simp)]
 suffices key:loopM (lp_La_15 x x) 0=some (.inr ()) by
  rw [key]
  rfl
 refine eq_list (n:=x.length) (fun i hi=>?_) ?_
 ·simp only [lp_La_15,m_La_15]
  rw [if_pos (by simp <;> omega),rd_eq hi]
  simp only [Option.bind_some]
  rw [if_neg (by simp),w64_succ (by omega)]
 ·simp only [lp_La_15,m_La_15]
  rw [if_neg (by simp)]
theorem eq_IntSS (x:(List (List Int))) (hx:(x.length≤1048576∧∀ y0 ∈ x,y0.length≤1048576)):m_Lb x x=some true:=by
 have hl:x.length≤1048576:=hx.1
 simp only [m_Lb,m_Lb_0,m_Lb_31]
 rw [if_neg (by simp)]
 suffices key:loopM (lp_Lb_15 x x) 0=some (.inr ()) by
  rw [key]
  rfl
 refine eq_list (n:=x.length) (fun i hi=>?_) ?_
 ·simp only [lp_Lb_15,m_Lb_15]
  rw [if_pos (by simp <;> omega),rd_eq hi]
  simp only [Option.bind_some]
  rw [eq_IntS x[i] (hx.2 _ (List.getElem_mem hi))]
  simp only [Option.bind_some,if_true]
  rw [w64_succ (by omega)]
 ·simp only [lp_Lb_15,m_Lb_15]
  rw [if_neg (by simp)]
def Sm_S_Tones (x:Za):Prop:=(x.slots.length≤1048576∧∀ y0 ∈ x.slots,y0.length≤1048576)∧(x.grades.length≤1048576∧∀ y0 ∈ x.grades,y0.length≤1048576)
theorem eq_Tones (x:Za) (hx:Sm_S_Tones x):m_Lc x x=some true:=by
 simp only [m_Lc,m_Lc_0]
 rw [if_neg (by simp)]
 rw [if_neg (by simp)]
 rw [if_neg (by simp)]
 rw [eq_IntSS x.slots hx.1]
 simp only [Option.bind_some,if_true]
 rw [eq_IntSS x.grades hx.2]
 simp only [Option.bind_some,if_true]
theorem mark_IntS (x:(List Int)) (k:Nat) (hx:x.length≤1048576) (hk:k+1048576≤4611686018427387904):∃ (x' : (List Int)) (k' : Nat),m_Lg x k=some ((k' : Int),x')∧x'.length=x.length∧k≤k'∧k'≤k+1048576∧m_Ld x' k=some (k' : Int):=by
 have hl:x.length≤1048576:=hx
 have hlc:x.length*1≤1048576:=by omega
 have key:=mark_list (Sm:=fun y=>True) 1 (b:=lp_Lg_7) (bh:=lp_Ld_7) (fun l i k hi hl hk hs=>?_) (fun l k=>?_) (fun l k=>?_) x k hl (by omega) (fun _ _=>trivial)
 ·obtain ⟨l1,k1,e1,e2,e3,e4,e5⟩ :=key
  refine ⟨l1,k1,?_,e2,e3,by omega,?_⟩
  ·simp only [m_Lg,m_Lg_0]
   rw [e1]
   rfl
  ·simp only [m_Ld,m_Ld_0]
   rw [e5]
   rfl
 ·refine ⟨(k:Int),k+1,?_,by omega,by omega,fun l' h' hl' hx'=>?_⟩
  ·simp only [lp_Lg_7,m_Lg_7]
   rw [if_pos (by simp <;> omega),rd_eq hi]
   simp only [Option.bind_some]
   rw [w64_succ (by omega),w64_succ (by omega)]
   simp
  ·simp only [lp_Ld_7,m_Ld_7]
   rw [if_pos (by simp <;> omega),rd_eq h',hx']
   simp only [Option.bind_some]
   rw [if_neg (by simp),w64_succ (by omega),w64_succ (by omega)]
 ·simp only [lp_Lg_7,m_Lg_7]
  rw [if_neg (by simp)]
 ·simp only [lp_Ld_7,m_Ld_7]
  rw [if_neg (by simp)]
theorem mark_IntSS (x:(List (List Int))) (k:Nat) (hx:(x.length≤1048576∧∀ y0 ∈ x,y0.length≤1048576)) (hk:k+1099511627776≤4611686018427387904):∃ (x' : (List (List Int))) (k' : Nat),m_Lh x k=some ((k' : Int),x')∧x'.length=x.length∧k≤k'∧k'≤k+1099511627776∧m_Le x' k=some (k' : Int):=by
 have hl:x.length≤1048576:=hx.1
 have hlc:x.length*1048576≤1099511627776:=by omega
 have key:=mark_list (Sm:=fun y=>y.length≤1048576) 1048576 (b:=lp_Lh_7) (bh:=lp_Le_7) (fun l i k hi hl hk hs=>?_) (fun l k=>?_) (fun l k=>?_) x k hl (by omega) hx.2
 ·obtain ⟨l1,k1,e1,e2,e3,e4,e5⟩ :=key
  refine ⟨l1,k1,?_,e2,e3,by omega,?_⟩
  ·simp only [m_Lh,m_Lh_0]
   rw [e1]
   rfl
  ·simp only [m_Le,m_Le_0]
   rw [e5]
   rfl
 ·obtain ⟨y,k2,f1,f2,f3,f4,f5⟩ :=mark_IntS l[i] k hs (by omega)
  refine ⟨y,k2,?_,f3,f4,fun l' h' hl' hx'=>?_⟩
  ·simp only [lp_Lh_7,m_Lh_7]
   rw [if_pos (by simp <;> omega),rd_eq hi]
   simp only [Option.bind_some]
   rw [f1]
   simp only [Option.bind_some]
   rw [ck_eq f2]
   simp only [Option.bind_some]
   rw [w64_succ (by omega)]
   simp
  ·simp only [lp_Le_7,m_Le_7]
   rw [if_pos (by simp <;> omega),rd_eq h',hx']
   simp only [Option.bind_some]
   rw [f5]
   simp only [Option.bind_some]
   rw [if_neg (by simp <;> omega),w64_succ (by omega)]
 ·simp only [lp_Lh_7,m_Lh_7]
  rw [if_neg (by simp)]
 ·simp only [lp_Le_7,m_Le_7]
  rw [if_neg (by simp)]
theorem mark_Tones (x:Za) (k:Nat) (hx:Sm_S_Tones x) (hk:k+2199023255552≤4611686018427387904):∃ (l_slots:(List (List Int))) (l_grades:(List (List Int))) (k' : Nat),m_Li x k=some ((k' : Int),(⟨x.rate,x.quality,x.length,l_slots,l_grades⟩:Za))∧l_slots.length=x.slots.length∧l_grades.length=x.grades.length∧k≤k'∧k'≤k+2199023255552∧m_Lf ⟨x.rate,x.quality,x.length,l_slots,l_grades⟩ k=some (k' : Int):=by
 obtain ⟨y0,k0,a0,b0,c0,d0,e0⟩ :=mark_IntSS x.slots k hx.1 (by omega)
 obtain ⟨y1,k1,a1,b1,c1,d1,e1⟩ :=mark_IntSS x.grades k0 hx.2 (by omega)
 refine ⟨y0,y1,k1,?_,b0,b1,by omega,by omega,?_⟩
 ·simp only [m_Li,m_Li_0]
  rw [a0]
  simp only [Option.bind_some]
  rw [ck_eq b0]
  simp only [Option.bind_some]
  rw [a1]
  simp only [Option.bind_some]
  rw [ck_eq b1]
  simp only [Option.bind_some]
  try rfl
 ·simp only [m_Lf,m_Lf_0]
  rw [e0]
  simp only [Option.bind_some]
  rw [if_neg (by simp <;> omega)]
  rw [e1]
  simp only [Option.bind_some]
  rw [if_neg (by simp <;> omega)]
theorem plain_FnExactTonesOf (p0:Int) (hp0:inK .i64 p0) (p1:Int) (hp1:inK .i64 p1) (p2:(List Int)) (hp2:(p2.length≤maxLen∧∀ y0 ∈ p2,inK .i64 y0)) (core:(p2.length≤1048576)→∃ w:Za,m_Sb p0 p1 p2=some w∧m_Id p0 p1 p2=some w∧Sm_S_Tones w):m_laws_FnExactTonesOf p0 p1 p2=some true:=by
 simp only [m_laws_FnExactTonesOf,m_laws_FnExactTonesOf_0,decide_eq_true_eq]
 by_cases hl:(p2.length:Int) > 1048576
 ·rw [if_pos hl]
 rw [if_neg hl]
 have sm_p2:p2.length≤1048576:=by omega
 rw [to_IntS p2 sm_p2]
 simp only [Option.bind_some]
 obtain ⟨w,hsp,him,sm0⟩ :=core sm_p2
 rw [hsp]
 simp only [Option.bind_some]
 rw [him]
 simp only [Option.bind_some]
 rw [eq_Tones w sm0]
 simp only [Option.bind_some,if_true]
 rw [eq_IntS p2 sm_p2]
 simp only [Option.bind_some,if_true]
 obtain ⟨y1,k1,a1,b1,c1x,d1,f1⟩ :=mark_IntS p2 1 sm_p2 (by omega)
 replace a1:m_Lg p2 1=_:=a1
 rw [a1]
 simp only [Option.bind_some]
 replace f1:m_Ld _ 1=_:=f1
 rw [ck_eq (by first | assumption | rfl)]
 simp only [Option.bind_some]
 rw [if_neg (by simp <;> omega)]
 obtain ⟨y2_0,y2_1,k2,a2,b2_0,b2_1,c2x,d2,f2⟩ :=mark_Tones w 1 sm0 (by omega)
 replace a2:m_Li w 1=_:=a2
 rw [a2]
 simp only [Option.bind_some]
 replace f2:m_Lf _ 1=_:=f2
 rw [ck_eq (by first | assumption | rfl)]
 simp only [Option.bind_some]
 rw [ck_eq (by first | assumption | rfl)]
 simp only [Option.bind_some]
 rw [f2]
 simp only [Option.bind_some]
 rw [if_neg (by simp <;> omega)]
 rw [if_neg (by simp)]
end Go.Proofs.V

namespace Go.Proofs.V
open Go
theorem final_FnExactTonesOf (p0:Int) (hp0:inK .i64 p0) (p1:Int) (hp1:inK .i64 p1) (p2:(List Int)) (hp2:(p2.length≤maxLen∧∀ y0 ∈ p2,inK .i64 y0)):m_laws_FnExactTonesOf p0 p1 p2=some true:=
 plain_FnExactTonesOf p0 hp0 p1 hp1 p2 hp2 fun h=>core_Tones p0 p1 p2 h
end Go.Proofs.V

namespace Go.Proofs.V
open Go
def c_Lj_12:VC:=
 .ite (.s 11) (.skip) (.exit 0)
def c_Lj_18:VC:=
 .r 4 [M 12 4,
  {op:=.bin 13 .add (.s 12) (.k (.int .i64 1))},
  M 4 13]
def c_Lj_15:VC:=
 .seq (.blk 1 (.r 5 [M 14 3,
  M 15 4,
  M 16 0,
  M 17 4,
  oX 18 16 17 1,
  oL 19 18 1,
  oX 20 14 15 1,
  oS 20 19 1])) c_Lj_18
def c_Lj_9:VC:=
 .seq (.seq (.r 3 [M 8 4,
  M 9 0,
  {op:=.len 10 (.s 9)},
  {op:=.bin 11 .lss (.s 8) (.s 10)}]) c_Lj_12) c_Lj_15
def c_Lj_7:VC:=
 .blk 0 (.loop [0,3,4] c_Lj_9)
def c_Lj_19:VC:=
 .seq (.r 6 [M 21 3,
  M 2 21]) (.ret)
def c_Lj_4:VC:=
 .seq (.seq (.r 2 [oN 4 0]) c_Lj_7) (.kp [3] c_Lj_19)
def c_Lj_2:VC:=
 .seq (.r 1 [M 5 0,
  {op:=.len 6 (.s 5)},
  {op:=.mk 7 (.s 6) [.sc] [(.int .i64 0)] 17592186044416},
  M 3 7]) c_Lj_4
def c_Lj_0:VC:=
 .seq (.r 0 [{op:=.nil 2 [.sc]}]) c_Lj_2
def vf_Lj:VF:={ pm:=[.ro [.ro [.sc]]],rm:=[.v [.own [.sc]]],nslots:=22,res:=[2],rc:=[],code:=.kp [0] c_Lj_0 }
def c_Se_2:VC:=
 .seq (.r 1 [M 7 0,
  {op:=.bin 8 .geq (.s 7) (.k (.int .i64 1))},
  M 9 8,
  ⟨none,[],some (9,true),.mv 10 (.s 0)⟩,
  ⟨none,[],some (9,true),.bin 11 .leq (.s 10) (.k (.int .i64 1000000))⟩,
  {op:=.pick 12 (.s 9) (.s 11) (.k (.bool false))},
  M 13 12,
  ⟨none,[],some (13,true),.mv 14 (.s 1)⟩,
  ⟨none,[],some (13,true),.bin 15 .geq (.s 14) (.k (.int .i64 0))⟩,
  {op:=.pick 16 (.s 13) (.s 15) (.k (.bool false))},
  M 17 16,
  ⟨none,[],some (17,true),.mv 18 (.s 1)⟩,
  ⟨none,[],some (17,true),.bin 19 .leq (.s 18) (.k (.int .i64 15))⟩,
  {op:=.pick 20 (.s 17) (.s 19) (.k (.bool false))},
  M 21 20,
  ⟨none,[],some (21,true),.mv 22 (.s 2)⟩,
  ⟨none,[],some (21,true),.bin 23 .geq (.s 22) (.k (.int .i64 0))⟩,
  {op:=.pick 24 (.s 21) (.s 23) (.k (.bool false))},
  M 25 24,
  ⟨none,[],some (25,true),.mv 26 (.s 2)⟩,
  ⟨none,[],some (25,true),.bin 27 .leq (.s 26) (.k (.int .i64 4000))⟩,
  {op:=.pick 28 (.s 25) (.s 27) (.k (.bool false))},
  M 6 28]) (.ret)
def c_Se_0:VC:=
 .seq (.r 0 [oK 6 false]) c_Se_2
def vf_Se:VF:={ pm:=[.ro [.sc],.ro [.sc],.ro [.sc]],rm:=[.v [.sc]],nslots:=29,res:=[6],rc:=[],code:=.kp [0,1,2] c_Se_0 }
def c_Si_19:VC:=
 .ite (.s 18) (.seq (.r 5 [oK 4 false]) (.ret)) (.skip)
def c_Si_17:VC:=
 .seq (.r 4 [M 13 6,
  {op:=.bin 14 .lss (.s 13) (.k (.int .i64 (-32768)))},
  M 15 14,
  ⟨none,[],some (15,false),.mv 16 (.s 6)⟩,
  ⟨none,[],some (15,false),.bin 17 .gtr (.s 16) (.k (.int .i64 32767))⟩,
  {op:=.pick 18 (.s 15) (.k (.bool true)) (.s 17)}]) c_Si_19
def c_Si_24:VC:=
 .r 6 [{op:=.bin 19 .add (.s 9) (.k (.int .i64 1))},
  M 9 19]
def c_Si_13:VC:=
 .seq (.blk 1 (.seq (.r 3 [oX 11 7 9 1,
  oL 12 11 1,
  M 6 12]) c_Si_17)) c_Si_24
def c_Si_9:VC:=
 .seq (.ite (.s 10) (.skip) (.exit 0)) c_Si_13
def c_Si_7:VC:=
 .seq (.r 2 [{op:=.bin 10 .lss (.s 9) (.s 8)}]) c_Si_9
def c_Si_5:VC:=
 .blk 0 (.loop [0,1,7,8,9] c_Si_7)
def c_Si_25:VC:=
 .seq (.r 7 [M 20 1,
  {op:=.bin 21 .lss (.s 20) (.k (.int .i64 0))},
  M 22 21,
  ⟨none,[],some (22,false),.mv 23 (.s 0)⟩,
  ⟨none,[],some (22,false),.len 24 (.s 23)⟩,
  ⟨none,[],some (22,false),.mv 25 (.s 1)⟩,
  ⟨none,[],some (22,false),.bin 26 .eql (.s 24) (.s 25)⟩,
  {op:=.pick 27 (.s 22) (.k (.bool true)) (.s 26)},
  M 4 27]) (.ret)
def c_Si_2:VC:=
 .seq (.seq (.r 1 [M 7 0,
  {op:=.len 8 (.s 7)},
  oN 9 0]) c_Si_5) (.kp [0,1] c_Si_25)
def c_Si_0:VC:=
 .seq (.r 0 [oK 4 false]) c_Si_2
def vf_Si:VF:={ pm:=[.ro [.ro [.sc]],.ro [.sc]],rm:=[.v [.sc]],nslots:=28,res:=[4],rc:=[],code:=.kp [0,1] c_Si_0 }
def c_Sj_2:VC:=
 .seq (.r 1 [M 3 0,
  {op:=.bin 4 .add (.s 3) (.k (.int .i64 15))},
  {op:=.bin 5 .quo (.s 4) (.k (.int .i64 16))},
  {op:=.bin 6 .add (.s 5) (.k (.int .i64 1))},
  M 2 6]) (.ret)
def c_Sj_0:VC:=
 .seq (.r 0 [oN 2 0]) c_Sj_2
def vf_Sj:VF:={ pm:=[.ro [.sc]],rm:=[.v [.sc]],nslots:=7,res:=[2],rc:=[],code:=.kp [0] c_Sj_0 }
def c_Sg_2:VC:=
 .seq (.r 1 [{op:=.bld 1 [.k (.float .f64 0),.k (.float .f64 0)] [(0,1,(.k (.float .f64 4607182418800017408))),(1,1,(.k (.float .f64 0)))]},
  {op:=.bld 2 [.k (.float .f64 0),.k (.float .f64 0)] [(0,1,(.k (.float .f64 4606496786581982534))),(1,1,(.k (.float .f64 13823937468626282851)))]},
  {op:=.bld 3 [.k (.float .f64 0),.k (.float .f64 0)] [(0,1,(.k (.float .f64 4604544271217802189))),(1,1,(.k (.float .f64 13827916308072577997)))]},
  {op:=.bld 4 [.k (.float .f64 0),.k (.float .f64 0)] [(0,1,(.k (.float .f64 4600565431771507043))),(1,1,(.k (.float .f64 13829868823436758342)))]},
  {op:=.bld 5 [.k (.float .f64 0),.k (.float .f64 0)] [(0,1,(.k (.float .f64 0))),(1,1,(.k (.float .f64 13830554455654793216)))]},
  {op:=.bld 6 [.k (.float .f64 0),.k (.float .f64 0)] [(0,1,(.k (.float .f64 13823937468626282851))),(1,1,(.k (.float .f64 13829868823436758342)))]},
  {op:=.bld 7 [.k (.float .f64 0),.k (.float .f64 0)] [(0,1,(.k (.float .f64 13827916308072577997))),(1,1,(.k (.float .f64 13827916308072577997)))]},
  {op:=.bld 8 [.k (.float .f64 0),.k (.float .f64 0)] [(0,1,(.k (.float .f64 13829868823436758342))),(1,1,(.k (.float .f64 13823937468626282851)))]},
  {op:=.lits 9 [.sc,.sc] [(.s 1),(.s 2),(.s 3),(.s 4),(.s 5),(.s 6),(.s 7),(.s 8)]},
  M 0 9]) (.ret)
def c_Sg_0:VC:=
 .seq (.r 0 [{op:=.nil 0 [.sc,.sc]}]) c_Sg_2
def vf_Sg:VF:={ pm:=[],rm:=[.v [.own [.sc,.sc]]],nslots:=10,res:=[0],rc:=[],code:=.kp [] c_Sg_0 }
def c_Sl_23:VC:=
 .r 7 [M 43 4,
  M 44 5,
  M 45 0,
  M 46 6,
  oX 47 45 46 1,
  oL 48 47 1,
  {op:=.cvf 49 (.i2f .f64) (.s 48)},
  {op:=.bld 50 [.k (.float .f64 0),.k (.float .f64 0)] [(0,1,(.s 49))]},
  oX 51 43 44 2,
  oS 51 50 2]
def c_Sl_21:VC:=
 .seq (.r 6 [M 26 5,
  {op:=.bin 27 .and (.s 26) (.k (.int .i64 1))},
  {op:=.bin 28 .shl (.s 27) (.k (.int .u64 3))},
  M 29 5,
  {op:=.bin 30 .shr (.s 29) (.k (.int .u64 1))},
  {op:=.bin 31 .and (.s 30) (.k (.int .i64 1))},
  {op:=.bin 32 .shl (.s 31) (.k (.int .u64 2))},
  {op:=.bin 33 .or (.s 28) (.s 32)},
  M 34 5,
  {op:=.bin 35 .shr (.s 34) (.k (.int .u64 2))},
  {op:=.bin 36 .and (.s 35) (.k (.int .i64 1))},
  {op:=.bin 37 .shl (.s 36) (.k (.int .u64 1))},
  {op:=.bin 38 .or (.s 33) (.s 37)},
  M 39 5,
  {op:=.bin 40 .shr (.s 39) (.k (.int .u64 3))},
  {op:=.bin 41 .and (.s 40) (.k (.int .i64 1))},
  {op:=.bin 42 .or (.s 38) (.s 41)},
  M 6 42]) c_Sl_23
def c_Sl_24:VC:=
 .r 8 [{op:=.bin 52 .add (.s 23) (.k (.int .i64 1))},
  M 23 52]
def c_Sl_17:VC:=
 .seq (.blk 1 (.seq (.r 5 [M 25 23,
  M 5 25]) c_Sl_21)) c_Sl_24
def c_Sl_13:VC:=
 .seq (.ite (.s 24) (.skip) (.exit 0)) c_Sl_17
def c_Sl_11:VC:=
 .seq (.r 4 [{op:=.bin 24 .lss (.s 23) (.s 22)}]) c_Sl_13
def c_Sl_9:VC:=
 .blk 0 (.loop [0,3,4,22,23] c_Sl_11)
def c_Sl_33:VC:=
 .ite (.s 54) (.skip) (.exit 2)
def c_Sl_45:VC:=
 .ite (.s 58) (.skip) (.exit 4)
def c_Sl_57:VC:=
 .ite (.s 65) (.skip) (.exit 6)
def c_Sl_82:VC:=
 .r 28 [M 129 4,
  M 130 8,
  M 131 9,
  {op:=.bin 132 .add (.s 130) (.s 131)},
  M 133 7,
  {op:=.bin 134 .add (.s 132) (.s 133)},
  oF 135 10 0,
  oL 136 135 1,
  M 137 17,
  {op:=.bin 138 .sub (.s 136) (.s 137)},
  oF 139 10 1,
  oL 140 139 1,
  M 141 18,
  {op:=.bin 142 .sub (.s 140) (.s 141)},
  {op:=.bld 143 [.k (.float .f64 0),.k (.float .f64 0)] [(0,1,(.s 138)),(1,1,(.s 142))]},
  oX 144 129 134 2,
  oS 144 143 2]
def c_Sl_80:VC:=
 .seq (.r 27 [M 115 4,
  M 116 8,
  M 117 9,
  {op:=.bin 118 .add (.s 116) (.s 117)},
  oF 119 10 0,
  oL 120 119 1,
  M 121 17,
  {op:=.bin 122 .add (.s 120) (.s 121)},
  oF 123 10 1,
  oL 124 123 1,
  M 125 18,
  {op:=.bin 126 .add (.s 124) (.s 125)},
  {op:=.bld 127 [.k (.float .f64 0),.k (.float .f64 0)] [(0,1,(.s 122)),(1,1,(.s 126))]},
  oX 128 115 118 2,
  oS 128 127 2]) c_Sl_82
def c_Sl_78:VC:=
 .seq (.r 26 [M 112 15,
  M 113 16,
  {op:=.bin 114 .add (.s 112) (.s 113)},
  M 18 114]) c_Sl_80
def c_Sl_76:VC:=
 .seq (.r 25 [M 109 13,
  M 110 14,
  {op:=.bin 111 .sub (.s 109) (.s 110)},
  M 17 111]) c_Sl_78
def c_Sl_74:VC:=
 .seq (.r 24 [oF 104 11 1,
  oL 105 104 1,
  oF 106 12 0,
  oL 107 106 1,
  {op:=.bin 108 .mul (.s 105) (.s 107)},
  M 16 108]) c_Sl_76
def c_Sl_72:VC:=
 .seq (.r 23 [oF 99 11 0,
  oL 100 99 1,
  oF 101 12 1,
  oL 102 101 1,
  {op:=.bin 103 .mul (.s 100) (.s 102)},
  M 15 103]) c_Sl_74
def c_Sl_70:VC:=
 .seq (.r 22 [oF 94 11 1,
  oL 95 94 1,
  oF 96 12 1,
  oL 97 96 1,
  {op:=.bin 98 .mul (.s 95) (.s 97)},
  M 14 98]) c_Sl_72
def c_Sl_68:VC:=
 .seq (.r 21 [oF 89 11 0,
  oL 90 89 1,
  oF 91 12 0,
  oL 92 91 1,
  {op:=.bin 93 .mul (.s 90) (.s 92)},
  M 13 93]) c_Sl_70
def c_Sl_66:VC:=
 .seq (.r 20 [M 82 3,
  M 83 9,
  {op:=.bin 84 .mul (.s 83) (.k (.int .i64 8))},
  M 85 7,
  {op:=.bin 86 .quo (.s 84) (.s 85)},
  oX 87 82 86 2,
  {op:=.ld 88 (.s 87) 2 true},
  {op:=.alloc 12 [.k (.float .f64 0),.k (.float .f64 0)]},
  oS 12 88 2]) c_Sl_68
def c_Sl_64:VC:=
 .seq (.r 19 [M 74 4,
  M 75 8,
  M 76 9,
  {op:=.bin 77 .add (.s 75) (.s 76)},
  M 78 7,
  {op:=.bin 79 .add (.s 77) (.s 78)},
  oX 80 74 79 2,
  {op:=.ld 81 (.s 80) 2 true},
  {op:=.alloc 11 [.k (.float .f64 0),.k (.float .f64 0)]},
  oS 11 81 2]) c_Sl_66
def c_Sl_83:VC:=
 .r 17 [M 66 9,
  {op:=.bin 67 .add (.s 66) (.k (.int .i64 1))},
  M 9 67]
def c_Sl_60:VC:=
 .seq (.blk 7 (.seq (.r 18 [M 68 4,
  M 69 8,
  M 70 9,
  {op:=.bin 71 .add (.s 69) (.s 70)},
  oX 72 68 71 2,
  {op:=.ld 73 (.s 72) 2 true},
  {op:=.alloc 10 [.k (.float .f64 0),.k (.float .f64 0)]},
  oS 10 73 2]) c_Sl_64)) c_Sl_83
def c_Sl_54:VC:=
 .seq (.seq (.r 16 [M 63 9,
  M 64 7,
  {op:=.bin 65 .lss (.s 63) (.s 64)}]) c_Sl_57) c_Sl_60
def c_Sl_52:VC:=
 .blk 6 (.loop [3,4,7,8,9] c_Sl_54)
def c_Sl_84:VC:=
 .r 14 [M 59 8,
  M 60 7,
  {op:=.bin 61 .mul (.k (.int .i64 2)) (.s 60)},
  {op:=.bin 62 .add (.s 59) (.s 61)},
  M 8 62]
def c_Sl_48:VC:=
 .seq (.blk 5 (.seq (.r 15 [oN 9 0]) c_Sl_52)) (.kp [3,4,7,8] c_Sl_84)
def c_Sl_42:VC:=
 .seq (.seq (.r 13 [M 57 8,
  {op:=.bin 58 .lss (.s 57) (.k (.int .i64 16))}]) c_Sl_45) c_Sl_48
def c_Sl_40:VC:=
 .blk 4 (.loop [3,4,7,8] c_Sl_42)
def c_Sl_85:VC:=
 .r 11 [M 55 7,
  {op:=.bin 56 .mul (.s 55) (.k (.int .i64 2))},
  M 7 56]
def c_Sl_36:VC:=
 .seq (.blk 3 (.seq (.r 12 [oN 8 0]) c_Sl_40)) (.kp [3,4,7] c_Sl_85)
def c_Sl_30:VC:=
 .seq (.seq (.r 10 [M 53 7,
  {op:=.bin 54 .lss (.s 53) (.k (.int .i64 16))}]) c_Sl_33) c_Sl_36
def c_Sl_28:VC:=
 .blk 2 (.loop [3,4,7] c_Sl_30)
def c_Sl_86:VC:=
 .seq (.r 29 [M 145 4,
  M 2 145]) (.ret)
def c_Sl_25:VC:=
 .seq (.seq (.r 9 [oN 7 1]) c_Sl_28) (.kp [4] c_Sl_86)
def c_Sl_6:VC:=
 .seq (.seq (.r 3 [M 21 4,
  {op:=.len 22 (.s 21)},
  oN 23 0]) c_Sl_9) (.kp [3,4] c_Sl_25)
def c_Sl_4:VC:=
 .seq (.r 2 [{op:=.mk 20 (.k (.int .i64 16)) [.sc,.sc] [(.float .f64 0),(.float .f64 0)] 8796093022208},
  M 4 20]) c_Sl_6
def c_Sl_2:VC:=
 .seq (.r 1 [{op:=.call 19 67 []},
  M 3 19]) c_Sl_4
def c_Sl_0:VC:=
 .seq (.r 0 [{op:=.nil 2 [.sc,.sc]}]) c_Sl_2
def vf_Sl:VF:={ pm:=[.ro [.ro [.sc]]],rm:=[.v [.own [.sc,.sc]]],nslots:=146,res:=[2],rc:=[],code:=.kp [0] c_Sl_0 }
def c_Sh_27:VC:=
 .r 9 [M 42 4,
  M 43 5,
  M 44 8,
  {op:=.bin 45 .quo (.s 44) (.k (.float .f64 4643211215818981376))},
  {op:=.cvf 46 (.f2i .i64) (.s 45)},
  oX 47 42 43 1,
  oS 47 46 1]
def c_Sh_25:VC:=
 .seq (.r 8 [M 39 6,
  M 40 7,
  {op:=.bin 41 .add (.s 39) (.s 40)},
  M 8 41]) c_Sh_27
def c_Sh_23:VC:=
 .seq (.d 7 [(0,M 28 3),
  (1,M 29 5),
  (2,oX 30 28 29 2),
  (3,oF 31 30 1),
  (4,oL 32 31 1),
  (5,M 33 3),
  (6,M 34 5),
  (7,oX 35 33 34 2),
  (8,oF 36 35 1),
  (9,oL 37 36 1),
  (10,{op:=.bin 38 .mul (.s 32) (.s 37)}),
  (11,M 7 38)]) c_Sh_25
def c_Sh_21:VC:=
 .seq (.d 6 [(0,M 17 3),
  (1,M 18 5),
  (2,oX 19 17 18 2),
  (3,oF 20 19 0),
  (4,oL 21 20 1),
  (5,M 22 3),
  (6,M 23 5),
  (7,oX 24 22 23 2),
  (8,oF 25 24 0),
  (9,oL 26 25 1),
  (10,{op:=.bin 27 .mul (.s 21) (.s 26)}),
  (11,M 6 27)]) c_Sh_23
def c_Sh_28:VC:=
 .r 10 [{op:=.bin 48 .add (.s 14) (.k (.int .i64 1))},
  M 14 48]
def c_Sh_17:VC:=
 .seq (.blk 1 (.seq (.r 5 [M 16 14,
  M 5 16]) c_Sh_21)) c_Sh_28
def c_Sh_13:VC:=
 .seq (.ite (.s 15) (.skip) (.exit 0)) c_Sh_17
def c_Sh_11:VC:=
 .seq (.r 4 [{op:=.bin 15 .lss (.s 14) (.s 13)}]) c_Sh_13
def c_Sh_9:VC:=
 .blk 0 (.loop [3,4,13,14] c_Sh_11)
def c_Sh_29:VC:=
 .seq (.r 11 [M 49 4,
  M 2 49]) (.ret)
def c_Sh_6:VC:=
 .seq (.seq (.r 3 [M 12 4,
  {op:=.len 13 (.s 12)},
  oN 14 0]) c_Sh_9) (.kp [4] c_Sh_29)
def c_Sh_4:VC:=
 .seq (.r 2 [{op:=.mk 11 (.k (.int .i64 8)) [.sc] [(.int .i64 0)] 17592186044416},
  M 4 11]) c_Sh_6
def c_Sh_2:VC:=
 .seq (.r 1 [M 9 0,
  {op:=.call 10 50 [(.s 9)]},
  M 3 10]) c_Sh_4
def c_Sh_0:VC:=
 .seq (.r 0 [{op:=.nil 2 [.sc]}]) c_Sh_2
def vf_Sh:VF:={ pm:=[.ro [.ro [.sc]]],rm:=[.v [.own [.sc]]],nslots:=50,res:=[2],rc:=[],code:=.kp [0] c_Sh_0 }
def c_Sa_5:VC:=
 .ite (.s 16) (.seq (.r 2 [oN 4 0]) (.ret)) (.skip)
def c_Sa_18:VC:=
 .ite (.s 18) (.skip) (.exit 0)
def c_Sa_24:VC:=
 .r 6 [M 21 0,
  {op:=.bin 22 .quo (.s 21) (.k (.int .i64 2))},
  M 0 22]
def c_Sa_21:VC:=
 .blk 1 (.seq (.r 5 [M 19 5,
  {op:=.bin 20 .add (.s 19) (.k (.int .i64 1))},
  M 5 20]) c_Sa_24)
def c_Sa_15:VC:=
 .seq (.seq (.r 4 [M 17 0,
  {op:=.bin 18 .gtr (.s 17) (.k (.int .i64 0))}]) c_Sa_18) c_Sa_21
def c_Sa_30:VC:=
 .ite (.s 29) (.seq (.r 9 [oN 4 0]) (.ret)) (.skip)
def c_Sa_38:VC:=
 .ite (.s 31) (.seq (.r 11 [oN 4 12]) (.ret)) (.skip)
def c_Sa_43:VC:=
 .seq (.r 12 [M 32 6,
  M 4 32]) (.ret)
def c_Sa_35:VC:=
 .seq (.seq (.r 10 [M 30 6,
  {op:=.bin 31 .gtr (.s 30) (.k (.int .i64 12))}]) c_Sa_38) c_Sa_43
def c_Sa_27:VC:=
 .seq (.seq (.r 8 [M 28 6,
  {op:=.bin 29 .lss (.s 28) (.k (.int .i64 0))}]) c_Sa_30) c_Sa_35
def c_Sa_25:VC:=
 .seq (.r 7 [M 23 5,
  {op:=.bin 24 .add (.s 23) (.k (.int .i64 1))},
  {op:=.bin 25 .quo (.s 24) (.k (.int .i64 2))},
  M 26 1,
  {op:=.bin 27 .sub (.s 25) (.s 26)},
  M 6 27]) c_Sa_27
def c_Sa_12:VC:=
 .seq (.blk 0 (.loop [0,1,5] c_Sa_15)) (.kp [1,5] c_Sa_25)
def c_Sa_10:VC:=
 .seq (.r 3 [oN 5 0]) c_Sa_12
def c_Sa_2:VC:=
 .seq (.seq (.r 1 [M 7 0,
  {op:=.bin 8 .lss (.s 7) (.k (.int .i64 0))},
  M 9 8,
  ⟨none,[],some (9,false),.mv 10 (.s 1)⟩,
  ⟨none,[],some (9,false),.bin 11 .lss (.s 10) (.k (.int .i64 0))⟩,
  {op:=.pick 12 (.s 9) (.k (.bool true)) (.s 11)},
  M 13 12,
  ⟨none,[],some (13,false),.mv 14 (.s 1)⟩,
  ⟨none,[],some (13,false),.bin 15 .gtr (.s 14) (.k (.int .i64 15))⟩,
  {op:=.pick 16 (.s 13) (.k (.bool true)) (.s 15)}]) c_Sa_5) c_Sa_10
def c_Sa_0:VC:=
 .seq (.r 0 [oN 4 0]) c_Sa_2
def vf_Sa:VF:={ pm:=[.ro [.sc],.ro [.sc]],rm:=[.v [.sc]],nslots:=33,res:=[4],rc:=[],code:=.kp [0,1] c_Sa_0 }
def c_Sk_2:VC:=
 .seq (.r 1 [{op:=.lits 1 [.sc] [(.k (.int .i64 16384)),(.k (.int .i64 16364)),(.k (.int .i64 16305)),(.k (.int .i64 16207)),(.k (.int .i64 16069)),(.k (.int .i64 15893)),(.k (.int .i64 15679)),(.k (.int .i64 15426)),(.k (.int .i64 15137)),(.k (.int .i64 14811)),(.k (.int .i64 14449)),(.k (.int .i64 14053)),(.k (.int .i64 13623)),(.k (.int .i64 13160)),(.k (.int .i64 12665)),(.k (.int .i64 12140)),(.k (.int .i64 11585)),(.k (.int .i64 11003)),(.k (.int .i64 10394)),(.k (.int .i64 9760)),(.k (.int .i64 9102)),(.k (.int .i64 8423)),(.k (.int .i64 7723)),(.k (.int .i64 7005)),(.k (.int .i64 6270)),(.k (.int .i64 5520)),(.k (.int .i64 4756)),(.k (.int .i64 3981)),(.k (.int .i64 3196)),(.k (.int .i64 2404)),(.k (.int .i64 1606)),(.k (.int .i64 804)),(.k (.int .i64 0))]},
  M 0 1]) (.ret)
def c_Sk_0:VC:=
 .seq (.r 0 [{op:=.nil 0 [.sc]}]) c_Sk_2
def vf_Sk:VF:={ pm:=[],rm:=[.v [.own [.sc]]],nslots:=2,res:=[0],rc:=[],code:=.kp [] c_Sk_0 }
def c_Sd_20:VC:=
 .ite (.s 23) (.seq (.r 7 [M 26 0,
  M 27 1,
  {op:=.bin 28 .sub (.s 27) (.k (.int .i64 64))},
  oX 29 26 28 1,
  oL 30 29 1,
  {op:=.un 31 .neg (.s 30)},
  M 4 31]) (.ret)) (.skip)
def c_Sd_14:VC:=
 .ite (.s 14) (.seq (.r 5 [M 17 0,
  M 18 1,
  {op:=.bin 19 .sub (.k (.int .i64 64)) (.s 18)},
  oX 20 17 19 1,
  oL 21 20 1,
  {op:=.un 22 .neg (.s 21)},
  M 4 22]) (.ret)) (.seq (.r 6 [M 24 1,
  {op:=.bin 25 .leq (.s 24) (.k (.int .i64 96))},
  M 23 25]) c_Sd_20)
def c_Sd_8:VC:=
 .ite (.s 7) (.seq (.r 3 [M 10 0,
  M 11 1,
  oX 12 10 11 1,
  oL 13 12 1,
  M 4 13]) (.ret)) (.seq (.r 4 [M 15 1,
  {op:=.bin 16 .leq (.s 15) (.k (.int .i64 64))},
  M 14 16]) c_Sd_14)
def c_Sd_25:VC:=
 .seq (.r 8 [M 32 0,
  M 33 1,
  {op:=.bin 34 .sub (.k (.int .i64 128)) (.s 33)},
  oX 35 32 34 1,
  oL 36 35 1,
  M 4 36]) (.ret)
def c_Sd_4:VC:=
 .seq (.blk 0 (.seq (.r 2 [M 8 1,
  {op:=.bin 9 .leq (.s 8) (.k (.int .i64 32))},
  M 7 9]) c_Sd_8)) c_Sd_25
def c_Sd_2:VC:=
 .seq (.r 1 [M 5 1,
  {op:=.bin 6 .and (.s 5) (.k (.int .i64 127))},
  M 1 6]) c_Sd_4
def c_Sd_0:VC:=
 .seq (.r 0 [oN 4 0]) c_Sd_2
def vf_Sd:VF:={ pm:=[.ro [.ro [.sc]],.ro [.sc]],rm:=[.v [.sc]],nslots:=37,res:=[4],rc:=[],code:=.kp [0,1] c_Sd_0 }
def c_Sc_21:VC:=
 .r 6 [M 11 2,
  M 12 3,
  M 13 1,
  M 14 3,
  {op:=.bin 15 .mul (.k (.int .i64 2)) (.s 14)},
  {op:=.bin 16 .sub (.k (.int .i64 31)) (.s 15)},
  {op:=.call 17 53 [(.s 13),(.s 16)]},
  oX 18 11 12 1,
  oS 18 17 1]
def c_Sc_22:VC:=
 .r 7 [{op:=.bin 19 .add (.s 8) (.k (.int .i64 1))},
  M 8 19]
def c_Sc_17:VC:=
 .seq (.blk 1 (.seq (.r 5 [M 10 8,
  M 3 10]) c_Sc_21)) c_Sc_22
def c_Sc_13:VC:=
 .seq (.ite (.s 9) (.skip) (.exit 0)) c_Sc_17
def c_Sc_11:VC:=
 .seq (.r 4 [{op:=.bin 9 .lss (.s 8) (.s 7)}]) c_Sc_13
def c_Sc_9:VC:=
 .blk 0 (.loop [1,2,7,8] c_Sc_11)
def c_Sc_23:VC:=
 .seq (.r 8 [M 20 2,
  M 0 20]) (.ret)
def c_Sc_6:VC:=
 .seq (.seq (.r 3 [M 6 2,
  {op:=.len 7 (.s 6)},
  oN 8 0]) c_Sc_9) (.kp [2] c_Sc_23)
def c_Sc_4:VC:=
 .seq (.r 2 [{op:=.mk 5 (.k (.int .i64 32)) [.sc] [(.int .i64 0)] 17592186044416},
  M 2 5]) c_Sc_6
def c_Sc_2:VC:=
 .seq (.r 1 [{op:=.call 4 51 []},
  M 1 4]) c_Sc_4
def c_Sc_0:VC:=
 .seq (.r 0 [{op:=.nil 0 [.sc]}]) c_Sc_2
def vf_Sc:VF:={ pm:=[],rm:=[.v [.own [.sc]]],nslots:=21,res:=[0],rc:=[],code:=.kp [] c_Sc_0 }
def c_Sf_27:VC:=
 .d 9 [(0,M 26 7),
  (1,M 27 8),
  (2,M 28 7),
  (3,M 29 8),
  (4,oX 30 28 29 1),
  (5,oL 31 30 1),
  (6,M 32 6),
  (7,M 33 8),
  (8,oX 34 32 33 1),
  (9,oL 35 34 1),
  (10,{op:=.bin 36 .mul (.s 31) (.s 35)}),
  (11,{op:=.bin 37 .add (.s 36) (.k (.int .i64 8192))}),
  (12,{op:=.bin 38 .shr (.s 37) (.k (.int .u64 14))}),
  (13,oX 39 26 27 1),
  (14,oS 39 38 1)]
def c_Sf_28:VC:=
 .r 10 [{op:=.bin 40 .add (.s 23) (.k (.int .i64 1))},
  M 23 40]
def c_Sf_23:VC:=
 .seq (.blk 1 (.seq (.r 8 [M 25 23,
  M 8 25]) c_Sf_27)) c_Sf_28
def c_Sf_19:VC:=
 .seq (.ite (.s 24) (.skip) (.exit 0)) c_Sf_23
def c_Sf_17:VC:=
 .seq (.r 7 [{op:=.bin 24 .lss (.s 23) (.s 22)}]) c_Sf_19
def c_Sf_15:VC:=
 .blk 0 (.loop [5,6,7,22,23] c_Sf_17)
def c_Sf_63:VC:=
 .d 19 [(0,M 52 11),
  (1,M 53 7),
  (2,M 54 12),
  (3,oX 55 53 54 1),
  (4,oL 56 55 1),
  (5,M 57 5),
  (6,M 58 12),
  (7,{op:=.bin 59 .mul (.k (.int .i64 2)) (.s 58)}),
  (8,{op:=.bin 60 .add (.s 59) (.k (.int .i64 17))}),
  (9,M 61 10),
  (10,{op:=.bin 62 .mul (.k (.int .i64 2)) (.s 61)}),
  (11,{op:=.bin 63 .add (.s 62) (.k (.int .i64 1))}),
  (12,{op:=.bin 64 .mul (.s 60) (.s 63)}),
  (13,{op:=.call 65 53 [(.s 57),(.s 64)]}),
  (14,{op:=.bin 66 .mul (.s 56) (.s 65)}),
  (15,{op:=.bin 67 .add (.s 52) (.s 66)}),
  (16,M 11 67)]
def c_Sf_64:VC:=
 .r 20 [{op:=.bin 68 .add (.s 49) (.k (.int .i64 1))},
  M 49 68]
def c_Sf_59:VC:=
 .seq (.blk 5 (.seq (.r 18 [M 51 49,
  M 12 51]) c_Sf_63)) c_Sf_64
def c_Sf_55:VC:=
 .seq (.ite (.s 50) (.skip) (.exit 4)) c_Sf_59
def c_Sf_53:VC:=
 .seq (.r 17 [{op:=.bin 50 .lss (.s 49) (.s 48)}]) c_Sf_55
def c_Sf_51:VC:=
 .blk 4 (.loop [5,7,9,10,11,43,44,48,49] c_Sf_53)
def c_Sf_65:VC:=
 .r 21 [M 69 9,
  M 70 10,
  M 71 11,
  {op:=.bin 72 .shr (.s 71) (.k (.int .u64 14))},
  oX 73 69 70 1,
  oS 73 72 1]
def c_Sf_48:VC:=
 .seq (.seq (.r 16 [M 47 7,
  {op:=.len 48 (.s 47)},
  oN 49 0]) c_Sf_51) (.kp [5,7,9,10,11,43,44] c_Sf_65)
def c_Sf_46:VC:=
 .seq (.r 15 [oN 11 8192]) c_Sf_48
def c_Sf_66:VC:=
 .r 22 [{op:=.bin 74 .add (.s 44) (.k (.int .i64 1))},
  M 44 74]
def c_Sf_42:VC:=
 .seq (.blk 3 (.seq (.r 14 [M 46 44,
  M 10 46]) c_Sf_46)) c_Sf_66
def c_Sf_38:VC:=
 .seq (.ite (.s 45) (.skip) (.exit 2)) c_Sf_42
def c_Sf_36:VC:=
 .seq (.r 13 [{op:=.bin 45 .lss (.s 44) (.s 43)}]) c_Sf_38
def c_Sf_34:VC:=
 .blk 2 (.loop [5,7,9,43,44] c_Sf_36)
def c_Sf_67:VC:=
 .seq (.r 23 [M 75 9,
  M 4 75]) (.ret)
def c_Sf_31:VC:=
 .seq (.seq (.r 12 [M 42 9,
  {op:=.len 43 (.s 42)},
  oN 44 0]) c_Sf_34) (.kp [9] c_Sf_67)
def c_Sf_29:VC:=
 .seq (.r 11 [{op:=.mk 41 (.k (.int .i64 16)) [.sc] [(.int .i64 0)] 17592186044416},
  M 9 41]) c_Sf_31
def c_Sf_12:VC:=
 .seq (.seq (.r 6 [M 21 7,
  {op:=.len 22 (.s 21)},
  oN 23 0]) c_Sf_15) (.kp [5,7] c_Sf_29)
def c_Sf_10:VC:=
 .seq (.r 5 [M 18 7,
  M 19 1,
  {op:=.app 20 (.s 18) (.s 19) [.sc] 17592186044416},
  M 7 20]) c_Sf_12
def c_Sf_8:VC:=
 .seq (.r 4 [M 15 7,
  M 16 0,
  {op:=.app 17 (.s 15) (.s 16) [.sc] 17592186044416},
  M 7 17]) c_Sf_10
def c_Sf_6:VC:=
 .seq (.r 3 [{op:=.nil 7 [.sc]}]) c_Sf_8
def c_Sf_4:VC:=
 .seq (.r 2 [{op:=.call 14 52 []},
  M 6 14]) c_Sf_6
def c_Sf_2:VC:=
 .seq (.r 1 [{op:=.call 13 51 []},
  M 5 13]) c_Sf_4
def c_Sf_0:VC:=
 .seq (.r 0 [{op:=.nil 4 [.sc]}]) c_Sf_2
def vf_Sf:VF:={ pm:=[.ro [.ro [.sc]],.ro [.ro [.sc]]],rm:=[.v [.own [.sc]]],nslots:=76,res:=[4],rc:=[],code:=.kp [0,1] c_Sf_0 }
def c_Sb_5:VC:=
 .ite (.s 32) (.seq (.r 2 [{op:=.bld 33 [.k (.int .i64 0),.k (.int .i64 0),.k (.int .i64 0),.o [.own [.sc]],.o [.own [.sc]]] []},
  oS 6 33 5]) (.ret)) (.skip)
def c_Sb_31:VC:=
 .r 9 [M 53 9,
  M 54 10,
  {op:=.bin 55 .add (.k (.int .i64 16)) (.s 54)},
  M 56 11,
  oX 57 53 55 1,
  oS 57 56 1]
def c_Sb_32:VC:=
 .r 10 [{op:=.bin 58 .add (.s 48) (.k (.int .i64 1))},
  M 48 58]
def c_Sb_27:VC:=
 .seq (.blk 1 (.seq (.r 8 [M 50 48,
  oX 51 46 48 1,
  oL 52 51 1,
  M 10 50,
  M 11 52]) c_Sb_31)) c_Sb_32
def c_Sb_23:VC:=
 .seq (.ite (.s 49) (.skip) (.exit 0)) c_Sb_27
def c_Sb_21:VC:=
 .seq (.r 7 [{op:=.bin 49 .lss (.s 48) (.s 47)}]) c_Sb_23
def c_Sb_19:VC:=
 .blk 0 (.loop [1,6,7,8,9,46,47,48] c_Sb_21)
def c_Sb_41:VC:=
 .ite (.s 61) (.skip) (.exit 2)
def c_Sb_69:VC:=
 .r 21 [M 87 16,
  M 88 17,
  M 89 15,
  M 90 17,
  oX 91 89 90 1,
  oL 92 91 1,
  M 93 1,
  {op:=.call 94 25 [(.s 92),(.s 93)]},
  oX 95 87 88 1,
  oS 95 94 1]
def c_Sb_70:VC:=
 .r 22 [{op:=.bin 96 .add (.s 84) (.k (.int .i64 1))},
  M 84 96]
def c_Sb_65:VC:=
 .seq (.blk 5 (.seq (.r 20 [M 86 84,
  M 17 86]) c_Sb_69)) c_Sb_70
def c_Sb_61:VC:=
 .seq (.ite (.s 85) (.skip) (.exit 4)) c_Sb_65
def c_Sb_59:VC:=
 .seq (.r 19 [{op:=.bin 85 .lss (.s 84) (.s 83)}]) c_Sb_61
def c_Sb_57:VC:=
 .blk 4 (.loop [1,6,7,8,9,12,13,14,15,16,83,84] c_Sb_59)
def c_Sb_92:VC:=
 .ite (.s 115) (.r 29 [M 116 18,
  M 117 19,
  M 118 20,
  {op:=.un 119 .neg (.s 118)},
  M 120 21,
  {op:=.bin 121 .quo (.s 120) (.k (.int .i64 2))},
  {op:=.bin 122 .add (.s 119) (.s 121)},
  M 123 21,
  {op:=.bin 124 .quo (.s 122) (.s 123)},
  {op:=.un 125 .neg (.s 124)},
  oX 126 116 117 1,
  oS 126 125 1]) (.r 30 [M 127 18,
  M 128 19,
  M 129 20,
  M 130 21,
  {op:=.bin 131 .quo (.s 130) (.k (.int .i64 2))},
  {op:=.bin 132 .add (.s 129) (.s 131)},
  M 133 21,
  {op:=.bin 134 .quo (.s 132) (.s 133)},
  oX 135 127 128 1,
  oS 135 134 1])
def c_Sb_90:VC:=
 .seq (.r 28 [M 114 20,
  {op:=.bin 115 .lss (.s 114) (.k (.int .i64 0))}]) c_Sb_92
def c_Sb_88:VC:=
 .seq (.r 27 [M 107 16,
  M 108 19,
  {op:=.bin 109 .quo (.s 108) (.k (.int .i64 2))},
  oX 110 107 109 1,
  oL 111 110 1,
  {op:=.conv 112 .u64 (.s 111)},
  {op:=.bin 113 .shl (.k (.int .i64 1)) (.s 112)},
  M 21 113]) c_Sb_90
def c_Sb_95:VC:=
 .r 31 [{op:=.bin 136 .add (.s 102) (.k (.int .i64 1))},
  M 102 136]
def c_Sb_84:VC:=
 .seq (.blk 7 (.seq (.r 26 [M 104 102,
  oX 105 100 102 1,
  oL 106 105 1,
  M 19 104,
  M 20 106]) c_Sb_88)) c_Sb_95
def c_Sb_80:VC:=
 .seq (.ite (.s 103) (.skip) (.exit 6)) c_Sb_84
def c_Sb_78:VC:=
 .seq (.r 25 [{op:=.bin 103 .lss (.s 102) (.s 101)}]) c_Sb_80
def c_Sb_76:VC:=
 .blk 6 (.loop [1,6,7,8,9,12,16,18,100,101,102] c_Sb_78)
def c_Sb_98:VC:=
 .r 33 [oF 143 7 4,
  oL 144 143 1,
  M 145 16,
  {op:=.lits 146 [.own [.sc]] [(.s 145)]},
  {op:=.app 147 (.s 144) (.s 146) [.own [.sc]] 5864062014805},
  oF 148 7 4,
  oS 148 147 1]
def c_Sb_96:VC:=
 .seq (.r 32 [oF 137 7 3,
  oL 138 137 1,
  M 139 18,
  {op:=.lits 140 [.own [.sc]] [(.s 139)]},
  {op:=.app 141 (.s 138) (.s 140) [.own [.sc]] 5864062014805},
  oF 142 7 3,
  oS 142 141 1]) c_Sb_98
def c_Sb_73:VC:=
 .seq (.seq (.r 24 [M 100 18,
  {op:=.len 101 (.s 100)},
  oN 102 0]) c_Sb_76) (.kp [1,6,7,8,9,12,16,18] c_Sb_96)
def c_Sb_71:VC:=
 .seq (.r 23 [M 97 13,
  M 98 14,
  {op:=.call 99 26 [(.s 97),(.s 98)]},
  M 18 99]) c_Sb_73
def c_Sb_54:VC:=
 .seq (.seq (.r 18 [M 82 16,
  {op:=.len 83 (.s 82)},
  oN 84 0]) c_Sb_57) (.kp [1,6,7,8,9,12,13,14,16] c_Sb_71)
def c_Sb_52:VC:=
 .seq (.r 17 [{op:=.mk 81 (.k (.int .i64 8)) [.sc] [(.int .i64 0)] 17592186044416},
  M 16 81]) c_Sb_54
def c_Sb_50:VC:=
 .seq (.r 16 [M 79 14,
  {op:=.call 80 24 [(.s 79)]},
  M 15 80]) c_Sb_52
def c_Sb_48:VC:=
 .seq (.r 15 [M 71 9,
  M 72 12,
  {op:=.bin 73 .mul (.k (.int .i64 16)) (.s 72)},
  {op:=.bin 74 .add (.s 73) (.k (.int .i64 16))},
  M 75 12,
  {op:=.bin 76 .mul (.k (.int .i64 16)) (.s 75)},
  {op:=.bin 77 .add (.s 76) (.k (.int .i64 32))},
  {op:=.slc 78 (.s 71) (some (.s 74)) (some (.s 77)) 1},
  M 14 78]) c_Sb_50
def c_Sb_99:VC:=
 .r 13 [M 62 12,
  {op:=.bin 63 .add (.s 62) (.k (.int .i64 1))},
  M 12 63]
def c_Sb_44:VC:=
 .seq (.blk 3 (.seq (.r 14 [M 64 9,
  M 65 12,
  {op:=.bin 66 .mul (.k (.int .i64 16)) (.s 65)},
  M 67 12,
  {op:=.bin 68 .mul (.k (.int .i64 16)) (.s 67)},
  {op:=.bin 69 .add (.s 68) (.k (.int .i64 16))},
  {op:=.slc 70 (.s 64) (some (.s 66)) (some (.s 69)) 1},
  M 13 70]) c_Sb_48)) c_Sb_99
def c_Sb_38:VC:=
 .seq (.seq (.r 12 [M 59 12,
  M 60 8,
  {op:=.bin 61 .lss (.s 59) (.s 60)}]) c_Sb_41) c_Sb_44
def c_Sb_36:VC:=
 .blk 2 (.loop [1,6,7,8,9,12] c_Sb_38)
def c_Sb_100:VC:=
 .seq (.r 34 [{op:=.ld 149 (.s 7) 5 true},
  oS 6 149 5]) (.ret)
def c_Sb_33:VC:=
 .seq (.seq (.r 11 [oN 12 0]) c_Sb_36) (.kp [6,7] c_Sb_100)
def c_Sb_16:VC:=
 .seq (.seq (.r 6 [M 46 2,
  {op:=.len 47 (.s 46)},
  oN 48 0]) c_Sb_19) (.kp [1,6,7,8,9] c_Sb_33)
def c_Sb_14:VC:=
 .seq (.r 5 [M 42 8,
  {op:=.bin 43 .mul (.k (.int .i64 16)) (.s 42)},
  {op:=.bin 44 .add (.s 43) (.k (.int .i64 16))},
  {op:=.mk 45 (.s 44) [.sc] [(.int .i64 0)] 17592186044416},
  M 9 45]) c_Sb_16
def c_Sb_12:VC:=
 .seq (.r 4 [M 39 2,
  {op:=.len 40 (.s 39)},
  {op:=.call 41 23 [(.s 40)]},
  M 8 41]) c_Sb_14
def c_Sb_10:VC:=
 .seq (.r 3 [M 34 0,
  M 35 1,
  M 36 2,
  {op:=.len 37 (.s 36)},
  {op:=.bld 38 [.k (.int .i64 0),.k (.int .i64 0),.k (.int .i64 0),.o [.own [.sc]],.o [.own [.sc]]] [(0,1,(.s 34)),(1,1,(.s 35)),(2,1,(.s 37))]},
  {op:=.alloc 7 [.k (.int .i64 0),.k (.int .i64 0),.k (.int .i64 0),.o [.own [.sc]],.o [.own [.sc]]]},
  oS 7 38 5]) c_Sb_12
def c_Sb_2:VC:=
 .seq (.seq (.r 1 [M 22 0,
  M 23 1,
  M 24 2,
  {op:=.len 25 (.s 24)},
  {op:=.call 26 21 [(.s 22),(.s 23),(.s 25)]},
  {op:=.un 27 .not (.s 26)},
  M 28 27,
  ⟨none,[],some (28,false),.mv 29 (.s 2)⟩,
  ⟨none,[],some (28,false),.call 30 22 [(.s 29),(.k (.int .i64 (-1)))]⟩,
  ⟨none,[],some (28,false),.un 31 .not (.s 30)⟩,
  {op:=.pick 32 (.s 28) (.k (.bool true)) (.s 31)}]) (.kp [0,1,2,6,32] c_Sb_5)) c_Sb_10
def c_Sb_0:VC:=
 .seq (.r 0 [{op:=.alloc 6 [.k (.int .i64 0),.k (.int .i64 0),.k (.int .i64 0),.o [.own [.sc]],.o [.own [.sc]]]}]) c_Sb_2
def vf_Sb:VF:={ pm:=[.ro [.sc],.ro [.sc],.ro [.ro [.sc]]],rm:=[.v [.sc,.sc,.sc,.own [.own [.sc]],.own [.own [.sc]]]],nslots:=150,res:=[6],rc:=[some (5,true)],code:=.kp [0,1,2] c_Sb_0 }
def c_Ij_5:VC:=
 .ite (.s 14) (.seq (.r 2 [oK 8 false]) (.ret)) (.skip)
def c_Ij_27:VC:=
 .ite (.s 28) (.seq (.r 7 [oK 8 false]) (.ret)) (.skip)
def c_Ij_25:VC:=
 .seq (.r 6 [M 21 10,
  M 22 1,
  {op:=.bin 23 .lss (.s 21) (.s 22)},
  M 24 23,
  ⟨none,[],some (24,false),.mv 25 (.s 10)⟩,
  ⟨none,[],some (24,false),.mv 26 (.s 2)⟩,
  ⟨none,[],some (24,false),.bin 27 .gtr (.s 25) (.s 26)⟩,
  {op:=.pick 28 (.s 24) (.k (.bool true)) (.s 27)}]) c_Ij_27
def c_Ij_32:VC:=
 .r 8 [{op:=.bin 29 .add (.s 17) (.k (.int .i64 1))},
  M 17 29]
def c_Ij_21:VC:=
 .seq (.blk 1 (.seq (.r 5 [oX 19 15 17 1,
  oL 20 19 1,
  M 10 20]) c_Ij_25)) c_Ij_32
def c_Ij_17:VC:=
 .seq (.ite (.s 18) (.skip) (.exit 0)) c_Ij_21
def c_Ij_15:VC:=
 .seq (.r 4 [{op:=.bin 18 .lss (.s 17) (.s 16)}]) c_Ij_17
def c_Ij_13:VC:=
 .blk 0 (.loop [1,2,15,16,17] c_Ij_15)
def c_Ij_33:VC:=
 .seq (.r 9 [oK 8 true]) (.ret)
def c_Ij_10:VC:=
 .seq (.seq (.r 3 [M 15 0,
  {op:=.len 16 (.s 15)},
  oN 17 0]) c_Ij_13) (.kp [] c_Ij_33)
def c_Ij_2:VC:=
 .seq (.seq (.r 1 [M 11 0,
  {op:=.len 12 (.s 11)},
  M 13 3,
  {op:=.bin 14 .gtr (.s 12) (.s 13)}]) c_Ij_5) c_Ij_10
def c_Ij_0:VC:=
 .seq (.r 0 [oK 8 false]) c_Ij_2
def vf_Ij:VF:={ pm:=[.ro [.ro [.sc]],.ro [.sc],.ro [.sc],.ro [.sc]],rm:=[.v [.sc]],nslots:=30,res:=[8],rc:=[],code:=.kp [0,1,2,3] c_Ij_0 }
def c_Ik_2:VC:=
 .seq (.r 1 [M 5 0,
  {op:=.len 6 (.s 5)},
  M 7 1,
  {op:=.bin 8 .eql (.s 6) (.s 7)},
  M 9 8,
  ⟨none,[],some (9,true),.mv 10 (.s 0)⟩,
  ⟨none,[],some (9,true),.mv 11 (.s 1)⟩,
  ⟨none,[],some (9,true),.call 12 27 [(.s 10),(.k (.int .i64 (-32768))),(.k (.int .i64 32767)),(.s 11)]⟩,
  {op:=.pick 13 (.s 9) (.s 12) (.k (.bool false))},
  M 4 13]) (.ret)
def c_Ik_0:VC:=
 .seq (.r 0 [oK 4 false]) c_Ik_2
def vf_Ik:VF:={ pm:=[.ro [.ro [.sc]],.ro [.sc]],rm:=[.v [.sc]],nslots:=14,res:=[4],rc:=[],code:=.kp [0,1] c_Ik_0 }
def c_Ie_5:VC:=
 .ite (.s 15) (.seq (.r 2 [{op:=.nil 2 [.sc,.sc]}]) (.ret)) (.skip)
def c_Ie_27:VC:=
 .r 7 [M 22 3,
  M 23 4,
  M 24 0,
  M 25 4,
  {op:=.bin 26 .and (.s 25) (.k (.int .i64 1))},
  {op:=.bin 27 .shl (.s 26) (.k (.int .u64 3))},
  M 28 4,
  {op:=.bin 29 .and (.s 28) (.k (.int .i64 2))},
  {op:=.bin 30 .shl (.s 29) (.k (.int .u64 1))},
  {op:=.bin 31 .or (.s 27) (.s 30)},
  M 32 4,
  {op:=.bin 33 .and (.s 32) (.k (.int .i64 4))},
  {op:=.bin 34 .shr (.s 33) (.k (.int .u64 1))},
  {op:=.bin 35 .or (.s 31) (.s 34)},
  M 36 4,
  {op:=.bin 37 .and (.s 36) (.k (.int .i64 8))},
  {op:=.bin 38 .shr (.s 37) (.k (.int .u64 3))},
  {op:=.bin 39 .or (.s 35) (.s 38)},
  oX 40 24 39 1,
  oL 41 40 1,
  {op:=.cvf 42 (.i2f .f64) (.s 41)},
  oX 43 22 23 2,
  oF 44 43 0,
  oS 44 42 1]
def c_Ie_28:VC:=
 .r 8 [{op:=.bin 45 .add (.s 19) (.k (.int .i64 1))},
  M 19 45]
def c_Ie_23:VC:=
 .seq (.blk 1 (.seq (.r 6 [M 21 19,
  M 4 21]) c_Ie_27)) c_Ie_28
def c_Ie_19:VC:=
 .seq (.ite (.s 20) (.skip) (.exit 0)) c_Ie_23
def c_Ie_17:VC:=
 .seq (.r 5 [{op:=.bin 20 .lss (.s 19) (.s 18)}]) c_Ie_19
def c_Ie_15:VC:=
 .blk 0 (.loop [0,3,18,19] c_Ie_17)
def c_Ie_37:VC:=
 .ite (.s 47) (.skip) (.exit 2)
def c_Ie_49:VC:=
 .ite (.s 51) (.skip) (.exit 4)
def c_Ie_76:VC:=
 .r 22 [M 116 3,
  M 117 6,
  M 118 7,
  {op:=.bin 119 .add (.s 117) (.s 118)},
  M 120 5,
  {op:=.bin 121 .add (.s 119) (.s 120)},
  oF 122 8 0,
  oL 123 122 1,
  M 124 11,
  {op:=.bin 125 .sub (.s 123) (.s 124)},
  oF 126 8 1,
  oL 127 126 1,
  M 128 12,
  {op:=.bin 129 .sub (.s 127) (.s 128)},
  {op:=.bld 130 [.k (.float .f64 0),.k (.float .f64 0)] [(0,1,(.s 125)),(1,1,(.s 129))]},
  oX 131 116 121 2,
  oS 131 130 2]
def c_Ie_74:VC:=
 .seq (.r 21 [M 102 3,
  M 103 6,
  M 104 7,
  {op:=.bin 105 .add (.s 103) (.s 104)},
  oF 106 8 0,
  oL 107 106 1,
  M 108 11,
  {op:=.bin 109 .add (.s 107) (.s 108)},
  oF 110 8 1,
  oL 111 110 1,
  M 112 12,
  {op:=.bin 113 .add (.s 111) (.s 112)},
  {op:=.bld 114 [.k (.float .f64 0),.k (.float .f64 0)] [(0,1,(.s 109)),(1,1,(.s 113))]},
  oX 115 102 105 2,
  oS 115 114 2]) c_Ie_76
def c_Ie_72:VC:=
 .seq (.r 20 [oF 91 9 0,
  oL 92 91 1,
  oF 93 10 1,
  oL 94 93 1,
  {op:=.bin 95 .mul (.s 92) (.s 94)},
  oF 96 9 1,
  oL 97 96 1,
  oF 98 10 0,
  oL 99 98 1,
  {op:=.bin 100 .mul (.s 97) (.s 99)},
  {op:=.bin 101 .add (.s 95) (.s 100)},
  M 12 101]) c_Ie_74
def c_Ie_70:VC:=
 .seq (.r 19 [oF 80 9 0,
  oL 81 80 1,
  oF 82 10 0,
  oL 83 82 1,
  {op:=.bin 84 .mul (.s 81) (.s 83)},
  oF 85 9 1,
  oL 86 85 1,
  oF 87 10 1,
  oL 88 87 1,
  {op:=.bin 89 .mul (.s 86) (.s 88)},
  {op:=.bin 90 .sub (.s 84) (.s 89)},
  M 11 90]) c_Ie_72
def c_Ie_68:VC:=
 .seq (.pre [.pad 3] (.d 18 [(0,M 60 3),
  (1,M 61 6),
  (2,M 62 7),
  (3,{op:=.bin 63 .add (.s 61) (.s 62)}),
  (4,oX 64 60 63 2),
  (5,{op:=.ldo 65 (.s 64) 2 true}),
  (6,M 66 3),
  (7,M 67 6),
  (8,M 68 7),
  (9,{op:=.bin 69 .add (.s 67) (.s 68)}),
  (10,M 70 5),
  (11,{op:=.bin 71 .add (.s 69) (.s 70)}),
  (12,oX 72 66 71 2),
  (13,{op:=.ldo 73 (.s 72) 2 true}),
  (14,M 74 7),
  (15,{op:=.bin 75 .mul (.s 74) (.k (.int .i64 8))}),
  (16,M 76 5),
  (17,{op:=.bin 77 .quo (.s 75) (.s 76)}),
  (18,{op:=.gix 78 0 8 (.s 77) 2}),
  (19,{op:=.ldr 79 (.s 78) 2 true}),
  (20,{op:=.alk 8 [.k (.float .f64 0),.k (.float .f64 0)] 0}),
  (21,{op:=.alk 9 [.k (.float .f64 0),.k (.float .f64 0)] 1}),
  (22,{op:=.alk 10 [.k (.float .f64 0),.k (.float .f64 0)] 2}),
  (23,{op:=.stk (.s 8) (.s 65) 0 2}),
  (24,{op:=.stk (.s 9) (.s 73) 1 2}),
  (25,{op:=.stk (.s 10) (.s 79) 2 2})])) c_Ie_70
def c_Ie_77:VC:=
 .r 23 [{op:=.bin 132 .add (.s 57) (.k (.int .i64 1))},
  M 57 132]
def c_Ie_64:VC:=
 .seq (.blk 7 (.seq (.r 17 [M 59 57,
  M 7 59]) c_Ie_68)) c_Ie_77
def c_Ie_60:VC:=
 .seq (.ite (.s 58) (.skip) (.exit 6)) c_Ie_64
def c_Ie_58:VC:=
 .seq (.r 16 [{op:=.bin 58 .lss (.s 57) (.s 56)}]) c_Ie_60
def c_Ie_56:VC:=
 .blk 6 (.loop [3,5,6,56,57] c_Ie_58)
def c_Ie_78:VC:=
 .r 14 [M 52 6,
  M 53 5,
  {op:=.bin 54 .mul (.k (.int .i64 2)) (.s 53)},
  {op:=.bin 55 .add (.s 52) (.s 54)},
  M 6 55]
def c_Ie_52:VC:=
 .seq (.blk 5 (.seq (.r 15 [M 56 5,
  oN 57 0]) c_Ie_56)) (.kp [3,5,6] c_Ie_78)
def c_Ie_46:VC:=
 .seq (.seq (.r 13 [M 50 6,
  {op:=.bin 51 .lss (.s 50) (.k (.int .i64 16))}]) c_Ie_49) c_Ie_52
def c_Ie_44:VC:=
 .blk 4 (.loop [3,5,6] c_Ie_46)
def c_Ie_79:VC:=
 .r 11 [M 48 5,
  {op:=.bin 49 .mul (.s 48) (.k (.int .i64 2))},
  M 5 49]
def c_Ie_40:VC:=
 .seq (.blk 3 (.seq (.r 12 [oN 6 0]) c_Ie_44)) (.kp [3,5] c_Ie_79)
def c_Ie_34:VC:=
 .seq (.seq (.r 10 [M 46 5,
  {op:=.bin 47 .lss (.s 46) (.k (.int .i64 16))}]) c_Ie_37) c_Ie_40
def c_Ie_32:VC:=
 .blk 2 (.loop [3,5] c_Ie_34)
def c_Ie_80:VC:=
 .seq (.r 24 [M 133 3,
  M 2 133]) (.ret)
def c_Ie_29:VC:=
 .seq (.seq (.r 9 [oN 5 1]) c_Ie_32) (.kp [3] c_Ie_80)
def c_Ie_12:VC:=
 .seq (.seq (.r 4 [M 17 3,
  {op:=.len 18 (.s 17)},
  oN 19 0]) c_Ie_15) (.kp [3] c_Ie_29)
def c_Ie_10:VC:=
 .seq (.r 3 [{op:=.mk 16 (.k (.int .i64 16)) [.sc,.sc] [(.float .f64 0),(.float .f64 0)] 8796093022208},
  M 3 16]) c_Ie_12
def c_Ie_2:VC:=
 .seq (.seq (.r 1 [M 13 0,
  {op:=.call 14 56 [(.s 13),(.k (.int .i64 16))]},
  {op:=.un 15 .not (.s 14)}]) c_Ie_5) c_Ie_10
def c_Ie_0:VC:=
 .seq (.r 0 [{op:=.nil 2 [.sc,.sc]}]) c_Ie_2
def vf_Ie:VF:={ pm:=[.ro [.ro [.sc]]],rm:=[.v [.own [.sc,.sc]]],nslots:=134,res:=[2],rc:=[],code:=.kp [0] c_Ie_0 }
def c_Ic_21:VC:=
 .ite (.s 15) (.r 6 [M 16 3,
  oF 17 5 0,
  oL 18 17 1,
  oF 19 5 0,
  oL 20 19 1,
  {op:=.bin 21 .mul (.s 18) (.s 20)},
  oF 22 5 1,
  oL 23 22 1,
  oF 24 5 1,
  oL 25 24 1,
  {op:=.bin 26 .mul (.s 23) (.s 25)},
  {op:=.bin 27 .add (.s 21) (.s 26)},
  {op:=.bin 28 .quo (.s 27) (.k (.float .f64 4643211215818981376))},
  {op:=.cvf 29 (.f2i .i64) (.s 28)},
  {op:=.lits 30 [.sc] [(.s 29)]},
  {op:=.app 31 (.s 16) (.s 30) [.sc] 17592186044416},
  M 3 31]) (.skip)
def c_Ic_19:VC:=
 .seq (.r 5 [M 14 4,
  {op:=.bin 15 .lss (.s 14) (.k (.int .i64 8))}]) c_Ic_21
def c_Ic_24:VC:=
 .r 7 [{op:=.bin 32 .add (.s 9) (.k (.int .i64 1))},
  M 9 32]
def c_Ic_15:VC:=
 .seq (.blk 1 (.seq (.r 4 [M 11 9,
  oX 12 7 9 2,
  {op:=.ld 13 (.s 12) 2 true},
  {op:=.alloc 5 [.k (.float .f64 0),.k (.float .f64 0)]},
  M 4 11,
  oS 5 13 2]) c_Ic_19)) c_Ic_24
def c_Ic_11:VC:=
 .seq (.ite (.s 10) (.skip) (.exit 0)) c_Ic_15
def c_Ic_9:VC:=
 .seq (.r 3 [{op:=.bin 10 .lss (.s 9) (.s 8)}]) c_Ic_11
def c_Ic_7:VC:=
 .blk 0 (.loop [3,7,8,9] c_Ic_9)
def c_Ic_25:VC:=
 .seq (.r 8 [M 33 3,
  M 2 33]) (.ret)
def c_Ic_4:VC:=
 .seq (.seq (.r 2 [M 6 0,
  {op:=.call 7 54 [(.s 6)]},
  {op:=.len 8 (.s 7)},
  oN 9 0]) c_Ic_7) (.kp [3] c_Ic_25)
def c_Ic_2:VC:=
 .seq (.r 1 [{op:=.nil 3 [.sc]}]) c_Ic_4
def c_Ic_0:VC:=
 .seq (.r 0 [{op:=.nil 2 [.sc]}]) c_Ic_2
def vf_Ic:VF:={ pm:=[.ro [.ro [.sc]]],rm:=[.v [.own [.sc]]],nslots:=34,res:=[2],rc:=[],code:=.kp [0] c_Ic_0 }
def c_Ig_10:VC:=
 .ite (.s 5) (.skip) (.exit 0)
def c_Ig_16:VC:=
 .r 3 [M 6 0,
  {op:=.bin 7 .shr (.s 6) (.k (.int .u64 1))},
  M 0 7]
def c_Ig_13:VC:=
 .seq (.blk 1 (.r 4 [M 8 3,
  {op:=.bin 9 .add (.s 8) (.k (.int .i64 1))},
  M 3 9])) c_Ig_16
def c_Ig_7:VC:=
 .seq (.seq (.r 2 [M 4 0,
  {op:=.bin 5 .gtr (.s 4) (.k (.int .u64 0))}]) c_Ig_10) c_Ig_13
def c_Ig_17:VC:=
 .seq (.r 5 [M 10 3,
  M 2 10]) (.ret)
def c_Ig_4:VC:=
 .seq (.blk 0 (.loop [0,3] c_Ig_7)) (.kp [3] c_Ig_17)
def c_Ig_2:VC:=
 .seq (.r 1 [oN 3 0]) c_Ig_4
def c_Ig_0:VC:=
 .seq (.r 0 [oN 2 0]) c_Ig_2
def vf_Ig:VF:={ pm:=[.ro [.sc]],rm:=[.v [.sc]],nslots:=11,res:=[2],rc:=[],code:=.kp [0] c_Ig_0 }
def c_Ia_5:VC:=
 .ite (.s 14) (.seq (.r 2 [oN 4 0]) (.ret)) (.skip)
def c_Ia_10:VC:=
 .seq (.r 3 [M 15 0,
  {op:=.conv 16 .u64 (.s 15)},
  {op:=.call 17 55 [(.s 16)]},
  {op:=.bin 18 .add (.s 17) (.k (.int .i64 1))},
  {op:=.bin 19 .quo (.s 18) (.k (.int .i64 2))},
  M 20 1,
  {op:=.bin 21 .sub (.s 19) (.s 20)},
  {op:=.mx 22 (.s 21) (.k (.int .i64 0))},
  {op:=.mn 23 (.s 22) (.k (.int .i64 12))},
  M 4 23]) (.ret)
def c_Ia_2:VC:=
 .seq (.seq (.r 1 [M 5 0,
  {op:=.bin 6 .lss (.s 5) (.k (.int .i64 0))},
  M 7 6,
  ⟨none,[],some (7,false),.mv 8 (.s 1)⟩,
  ⟨none,[],some (7,false),.bin 9 .lss (.s 8) (.k (.int .i64 0))⟩,
  {op:=.pick 10 (.s 7) (.k (.bool true)) (.s 9)},
  M 11 10,
  ⟨none,[],some (11,false),.mv 12 (.s 1)⟩,
  ⟨none,[],some (11,false),.bin 13 .gtr (.s 12) (.k (.int .i64 15))⟩,
  {op:=.pick 14 (.s 11) (.k (.bool true)) (.s 13)}]) c_Ia_5) c_Ia_10
def c_Ia_0:VC:=
 .seq (.r 0 [oN 4 0]) c_Ia_2
def vf_Ia:VF:={ pm:=[.ro [.sc],.ro [.sc]],rm:=[.v [.sc]],nslots:=24,res:=[4],rc:=[],code:=.kp [0,1] c_Ia_0 }
def c_Ii_2:VC:=
 .seq (.r 1 [{op:=.lits 3 [.sc] []},
  M 4 0,
  {op:=.app 5 (.s 3) (.s 4) [.sc] 17592186044416},
  M 2 5]) (.ret)
def c_Ii_0:VC:=
 .seq (.r 0 [{op:=.nil 2 [.sc]}]) c_Ii_2
def vf_Ii:VF:={ pm:=[.ro [.ro [.sc]]],rm:=[.v [.own [.sc]]],nslots:=6,res:=[2],rc:=[],code:=.kp [0] c_Ii_0 }
def c_Ih_20:VC:=
 .ite (.s 19) (.seq (.r 7 [M 22 0,
  {op:=.bin 23 .sub (.s 22) (.k (.int .i64 64))},
  {op:=.gix 24 1 33 (.s 23) 1},
  oL 25 24 1,
  {op:=.un 26 .neg (.s 25)},
  M 2 26]) (.ret)) (.skip)
def c_Ih_14:VC:=
 .ite (.s 11) (.seq (.r 5 [M 14 0,
  {op:=.bin 15 .sub (.k (.int .i64 64)) (.s 14)},
  {op:=.gix 16 1 33 (.s 15) 1},
  oL 17 16 1,
  {op:=.un 18 .neg (.s 17)},
  M 2 18]) (.ret)) (.seq (.r 6 [M 20 0,
  {op:=.bin 21 .leq (.s 20) (.k (.int .i64 96))},
  M 19 21]) c_Ih_20)
def c_Ih_8:VC:=
 .ite (.s 5) (.seq (.r 3 [M 8 0,
  {op:=.gix 9 1 33 (.s 8) 1},
  oL 10 9 1,
  M 2 10]) (.ret)) (.seq (.r 4 [M 12 0,
  {op:=.bin 13 .leq (.s 12) (.k (.int .i64 64))},
  M 11 13]) c_Ih_14)
def c_Ih_25:VC:=
 .seq (.r 8 [M 27 0,
  {op:=.bin 28 .sub (.k (.int .i64 128)) (.s 27)},
  {op:=.gix 29 1 33 (.s 28) 1},
  oL 30 29 1,
  M 2 30]) (.ret)
def c_Ih_4:VC:=
 .seq (.blk 0 (.seq (.r 2 [M 6 0,
  {op:=.bin 7 .leq (.s 6) (.k (.int .i64 32))},
  M 5 7]) c_Ih_8)) c_Ih_25
def c_Ih_2:VC:=
 .seq (.r 1 [M 3 0,
  {op:=.bin 4 .and (.s 3) (.k (.int .i64 127))},
  M 0 4]) c_Ih_4
def c_Ih_0:VC:=
 .seq (.r 0 [oN 2 0]) c_Ih_2
def vf_Ih:VF:={ pm:=[.ro [.sc]],rm:=[.v [.sc]],nslots:=31,res:=[2],rc:=[],code:=.kp [0] c_Ih_0 }
def c_If_19:VC:=
 .r 5 [M 6 1,
  M 7 2,
  {op:=.bin 8 .mul (.k (.int .i64 2)) (.s 7)},
  {op:=.bin 9 .sub (.k (.int .i64 31)) (.s 8)},
  {op:=.call 10 58 [(.s 9)]},
  {op:=.lits 11 [.sc] [(.s 10)]},
  {op:=.app 12 (.s 6) (.s 11) [.sc] 17592186044416},
  M 1 12]
def c_If_20:VC:=
 .r 6 [{op:=.bin 13 .add (.s 3) (.k (.int .i64 1))},
  M 3 13]
def c_If_15:VC:=
 .seq (.blk 1 (.seq (.r 4 [M 5 3,
  M 2 5]) c_If_19)) c_If_20
def c_If_11:VC:=
 .seq (.ite (.s 4) (.skip) (.exit 0)) c_If_15
def c_If_9:VC:=
 .seq (.r 3 [{op:=.bin 4 .lss (.s 3) (.k (.int .i64 32))}]) c_If_11
def c_If_7:VC:=
 .blk 0 (.loop [1,3] c_If_9)
def c_If_21:VC:=
 .seq (.r 7 [M 14 1,
  M 0 14]) (.ret)
def c_If_4:VC:=
 .seq (.seq (.r 2 [oN 3 0]) c_If_7) (.kp [1] c_If_21)
def c_If_2:VC:=
 .seq (.r 1 [{op:=.nil 1 [.sc]}]) c_If_4
def c_If_0:VC:=
 .seq (.r 0 [{op:=.nil 0 [.sc]}]) c_If_2
def vf_If:VF:={ pm:=[],rm:=[.v [.own [.sc]]],nslots:=15,res:=[0],rc:=[],code:=.kp [] c_If_0 }
def c_Ib_5:VC:=
 .ite (.s 18) (.seq (.r 2 [{op:=.nil 4 [.sc]}]) (.ret)) (.skip)
def c_Ib_48:VC:=
 .d 13 [(0,M 32 9),
  (1,M 33 5),
  (2,M 34 10),
  (3,oX 35 33 34 1),
  (4,oL 36 35 1),
  (5,M 37 6),
  (6,M 38 10),
  (7,oX 39 37 38 1),
  (8,oL 40 39 1),
  (9,{op:=.bin 41 .mul (.s 36) (.s 40)}),
  (10,{op:=.bin 42 .add (.s 41) (.k (.int .i64 8192))}),
  (11,{op:=.bin 43 .shr (.s 42) (.k (.int .u64 14))}),
  (12,M 44 10),
  (13,{op:=.bin 45 .mul (.k (.int .i64 2)) (.s 44)}),
  (14,{op:=.bin 46 .add (.s 45) (.k (.int .i64 17))}),
  (15,M 47 8),
  (16,{op:=.bin 48 .mul (.k (.int .i64 2)) (.s 47)}),
  (17,{op:=.bin 49 .add (.s 48) (.k (.int .i64 1))}),
  (18,{op:=.bin 50 .mul (.s 46) (.s 49)}),
  (19,{op:=.call 51 58 [(.s 50)]}),
  (20,{op:=.bin 52 .mul (.s 43) (.s 51)}),
  (21,{op:=.bin 53 .add (.s 32) (.s 52)}),
  (22,M 9 53)]
def c_Ib_49:VC:=
 .r 14 [{op:=.bin 54 .add (.s 29) (.k (.int .i64 1))},
  M 29 54]
def c_Ib_44:VC:=
 .seq (.blk 3 (.seq (.r 12 [M 31 29,
  M 10 31]) c_Ib_48)) c_Ib_49
def c_Ib_40:VC:=
 .seq (.ite (.s 30) (.skip) (.exit 2)) c_Ib_44
def c_Ib_38:VC:=
 .seq (.r 11 [{op:=.bin 30 .lss (.s 29) (.s 28)}]) c_Ib_40
def c_Ib_36:VC:=
 .blk 2 (.loop [5,6,7,8,9,24,28,29] c_Ib_38)
def c_Ib_50:VC:=
 .r 15 [M 55 7,
  M 56 9,
  {op:=.bin 57 .shr (.s 56) (.k (.int .u64 14))},
  {op:=.lits 58 [.sc] [(.s 57)]},
  {op:=.app 59 (.s 55) (.s 58) [.sc] 17592186044416},
  M 7 59]
def c_Ib_33:VC:=
 .seq (.seq (.r 10 [M 27 5,
  {op:=.len 28 (.s 27)},
  oN 29 0]) c_Ib_36) (.kp [5,6,7,9,24] c_Ib_50)
def c_Ib_31:VC:=
 .seq (.r 9 [oN 9 8192]) c_Ib_33
def c_Ib_51:VC:=
 .r 16 [{op:=.bin 60 .add (.s 24) (.k (.int .i64 1))},
  M 24 60]
def c_Ib_27:VC:=
 .seq (.blk 1 (.seq (.r 8 [M 26 24,
  M 8 26]) c_Ib_31)) c_Ib_51
def c_Ib_23:VC:=
 .seq (.ite (.s 25) (.skip) (.exit 0)) c_Ib_27
def c_Ib_21:VC:=
 .seq (.r 7 [{op:=.bin 25 .lss (.s 24) (.k (.int .i64 16))}]) c_Ib_23
def c_Ib_19:VC:=
 .blk 0 (.loop [5,6,7,24] c_Ib_21)
def c_Ib_52:VC:=
 .seq (.r 17 [M 61 7,
  M 4 61]) (.ret)
def c_Ib_16:VC:=
 .seq (.seq (.r 6 [oN 24 0]) c_Ib_19) (.kp [7] c_Ib_52)
def c_Ib_14:VC:=
 .seq (.r 5 [{op:=.nil 7 [.sc]}]) c_Ib_16
def c_Ib_12:VC:=
 .seq (.r 4 [{op:=.call 23 57 []},
  M 6 23]) c_Ib_14
def c_Ib_10:VC:=
 .seq (.r 3 [M 19 0,
  {op:=.call 20 46 [(.s 19)]},
  M 21 1,
  {op:=.app 22 (.s 20) (.s 21) [.sc] 17592186044416},
  M 5 22]) c_Ib_12
def c_Ib_2:VC:=
 .seq (.seq (.r 1 [M 11 0,
  {op:=.call 12 56 [(.s 11),(.k (.int .i64 16))]},
  {op:=.un 13 .not (.s 12)},
  M 14 13,
  ⟨none,[],some (14,false),.mv 15 (.s 1)⟩,
  ⟨none,[],some (14,false),.call 16 56 [(.s 15),(.k (.int .i64 16))]⟩,
  ⟨none,[],some (14,false),.un 17 .not (.s 16)⟩,
  {op:=.pick 18 (.s 14) (.k (.bool true)) (.s 17)}]) c_Ib_5) c_Ib_10
def c_Ib_0:VC:=
 .seq (.r 0 [{op:=.nil 4 [.sc]}]) c_Ib_2
def vf_Ib:VF:={ pm:=[.ro [.ro [.sc]],.ro [.ro [.sc]]],rm:=[.v [.own [.sc]]],nslots:=62,res:=[4],rc:=[],code:=.kp [0,1] c_Ib_0 }
def c_Id_5:VC:=
 .ite (.s 37) (.seq (.r 2 [{op:=.bld 38 [.k (.int .i64 0),.k (.int .i64 0),.k (.int .i64 0),.o [.own [.sc]],.o [.own [.sc]]] []},
  oS 6 38 5]) (.ret)) (.skip)
def c_Id_52:VC:=
 .r 15 [M 76 12,
  M 77 14,
  M 78 1,
  {op:=.call 79 29 [(.s 77),(.s 78)]},
  {op:=.lits 80 [.sc] [(.s 79)]},
  {op:=.app 81 (.s 76) (.s 80) [.sc] 17592186044416},
  M 12 81]
def c_Id_53:VC:=
 .r 16 [{op:=.bin 82 .add (.s 72) (.k (.int .i64 1))},
  M 72 82]
def c_Id_48:VC:=
 .seq (.blk 3 (.seq (.r 14 [oX 74 70 72 1,
  oL 75 74 1,
  M 14 75]) c_Id_52)) c_Id_53
def c_Id_44:VC:=
 .seq (.ite (.s 73) (.skip) (.exit 2)) c_Id_48
def c_Id_42:VC:=
 .seq (.r 13 [{op:=.bin 73 .lss (.s 72) (.s 71)}]) c_Id_44
def c_Id_40:VC:=
 .blk 2 (.loop [1,6,7,9,10,11,12,57,58,70,71,72] c_Id_42)
def c_Id_75:VC:=
 .ite (.s 106) (.r 23 [M 107 15,
  M 108 16,
  M 109 17,
  {op:=.un 110 .neg (.s 109)},
  M 111 18,
  {op:=.bin 112 .quo (.s 111) (.k (.int .i64 2))},
  {op:=.bin 113 .add (.s 110) (.s 112)},
  M 114 18,
  {op:=.bin 115 .quo (.s 113) (.s 114)},
  {op:=.un 116 .neg (.s 115)},
  oX 117 107 108 1,
  oS 117 116 1]) (.r 24 [M 118 15,
  M 119 16,
  M 120 17,
  M 121 18,
  {op:=.bin 122 .quo (.s 121) (.k (.int .i64 2))},
  {op:=.bin 123 .add (.s 120) (.s 122)},
  M 124 18,
  {op:=.bin 125 .quo (.s 123) (.s 124)},
  oX 126 118 119 1,
  oS 126 125 1])
def c_Id_73:VC:=
 .seq (.r 22 [M 105 17,
  {op:=.bin 106 .lss (.s 105) (.k (.int .i64 0))}]) c_Id_75
def c_Id_71:VC:=
 .seq (.r 21 [M 99 12,
  M 100 16,
  {op:=.bin 101 .quo (.s 100) (.k (.int .i64 2))},
  oX 102 99 101 1,
  oL 103 102 1,
  {op:=.bin 104 .shl (.k (.int .i64 1)) (.s 103)},
  M 18 104]) c_Id_73
def c_Id_78:VC:=
 .r 25 [{op:=.bin 127 .add (.s 94) (.k (.int .i64 1))},
  M 94 127]
def c_Id_67:VC:=
 .seq (.blk 5 (.seq (.r 20 [M 96 94,
  oX 97 92 94 1,
  oL 98 97 1,
  M 16 96,
  M 17 98]) c_Id_71)) c_Id_78
def c_Id_63:VC:=
 .seq (.ite (.s 95) (.skip) (.exit 4)) c_Id_67
def c_Id_61:VC:=
 .seq (.r 19 [{op:=.bin 95 .lss (.s 94) (.s 93)}]) c_Id_63
def c_Id_59:VC:=
 .blk 4 (.loop [1,6,7,9,12,15,57,58,92,93,94] c_Id_61)
def c_Id_81:VC:=
 .r 27 [oF 134 7 4,
  oL 135 134 1,
  M 136 12,
  {op:=.lits 137 [.own [.sc]] [(.s 136)]},
  {op:=.app 138 (.s 135) (.s 137) [.own [.sc]] 5864062014805},
  oF 139 7 4,
  oS 139 138 1]
def c_Id_79:VC:=
 .seq (.r 26 [oF 128 7 3,
  oL 129 128 1,
  M 130 15,
  {op:=.lits 131 [.own [.sc]] [(.s 130)]},
  {op:=.app 132 (.s 129) (.s 131) [.own [.sc]] 5864062014805},
  oF 133 7 3,
  oS 133 132 1]) c_Id_81
def c_Id_56:VC:=
 .seq (.seq (.r 18 [M 92 15,
  {op:=.len 93 (.s 92)},
  oN 94 0]) c_Id_59) (.kp [1,6,7,9,12,15,57,58] c_Id_79)
def c_Id_54:VC:=
 .seq (.r 17 [M 83 9,
  M 84 10,
  {op:=.bin 85 .mul (.k (.int .i64 16)) (.s 84)},
  M 86 10,
  {op:=.bin 87 .mul (.k (.int .i64 16)) (.s 86)},
  {op:=.bin 88 .add (.s 87) (.k (.int .i64 16))},
  {op:=.slc 89 (.s 83) (some (.s 85)) (some (.s 88)) 1},
  M 90 11,
  {op:=.call 91 30 [(.s 89),(.s 90)]},
  M 15 91]) c_Id_56
def c_Id_37:VC:=
 .seq (.seq (.r 12 [M 69 11,
  {op:=.call 70 28 [(.s 69)]},
  {op:=.len 71 (.s 70)},
  oN 72 0]) c_Id_40) (.kp [1,6,7,9,10,11,12,57,58] c_Id_54)
def c_Id_35:VC:=
 .seq (.r 11 [{op:=.nil 12 [.sc]}]) c_Id_37
def c_Id_33:VC:=
 .seq (.r 10 [M 61 9,
  M 62 10,
  {op:=.bin 63 .mul (.k (.int .i64 16)) (.s 62)},
  {op:=.bin 64 .add (.s 63) (.k (.int .i64 16))},
  M 65 10,
  {op:=.bin 66 .mul (.k (.int .i64 16)) (.s 65)},
  {op:=.bin 67 .add (.s 66) (.k (.int .i64 32))},
  {op:=.slc 68 (.s 61) (some (.s 64)) (some (.s 67)) 1},
  M 11 68]) c_Id_35
def c_Id_82:VC:=
 .r 28 [{op:=.bin 140 .add (.s 58) (.k (.int .i64 1))},
  M 58 140]
def c_Id_29:VC:=
 .seq (.blk 1 (.seq (.r 9 [M 60 58,
  M 10 60]) c_Id_33)) c_Id_82
def c_Id_25:VC:=
 .seq (.ite (.s 59) (.skip) (.exit 0)) c_Id_29
def c_Id_23:VC:=
 .seq (.r 8 [{op:=.bin 59 .lss (.s 58) (.s 57)}]) c_Id_25
def c_Id_21:VC:=
 .blk 0 (.loop [1,6,7,9,57,58] c_Id_23)
def c_Id_83:VC:=
 .seq (.r 29 [{op:=.ld 141 (.s 7) 5 true},
  oS 6 141 5]) (.ret)
def c_Id_18:VC:=
 .seq (.seq (.r 7 [M 57 8,
  oN 58 0]) c_Id_21) (.kp [6,7] c_Id_83)
def c_Id_16:VC:=
 .seq (.r 6 [M 53 9,
  {op:=.slc 54 (.s 53) (some (.k (.int .i64 16))) none 1},
  M 55 2,
  {op:=.cpy 56 (.s 54) (.s 55)}]) c_Id_18
def c_Id_14:VC:=
 .seq (.r 5 [M 49 8,
  {op:=.bin 50 .add (.s 49) (.k (.int .i64 1))},
  {op:=.bin 51 .mul (.k (.int .i64 16)) (.s 50)},
  {op:=.mk 52 (.s 51) [.sc] [(.int .i64 0)] 17592186044416},
  M 9 52]) c_Id_16
def c_Id_12:VC:=
 .seq (.r 4 [M 44 2,
  {op:=.len 45 (.s 44)},
  {op:=.bin 46 .add (.s 45) (.k (.int .i64 15))},
  {op:=.bin 47 .quo (.s 46) (.k (.int .i64 16))},
  {op:=.bin 48 .add (.s 47) (.k (.int .i64 1))},
  M 8 48]) c_Id_14
def c_Id_10:VC:=
 .seq (.r 3 [M 39 0,
  M 40 1,
  M 41 2,
  {op:=.len 42 (.s 41)},
  {op:=.bld 43 [.k (.int .i64 0),.k (.int .i64 0),.k (.int .i64 0),.o [.own [.sc]],.o [.own [.sc]]] [(0,1,(.s 39)),(1,1,(.s 40)),(2,1,(.s 42))]},
  {op:=.alloc 7 [.k (.int .i64 0),.k (.int .i64 0),.k (.int .i64 0),.o [.own [.sc]],.o [.own [.sc]]]},
  oS 7 43 5]) c_Id_12
def c_Id_2:VC:=
 .seq (.seq (.r 1 [M 19 0,
  {op:=.bin 20 .lss (.s 19) (.k (.int .i64 1))},
  M 21 20,
  ⟨none,[],some (21,false),.mv 22 (.s 0)⟩,
  ⟨none,[],some (21,false),.bin 23 .gtr (.s 22) (.k (.int .i64 1000000))⟩,
  {op:=.pick 24 (.s 21) (.k (.bool true)) (.s 23)},
  M 25 24,
  ⟨none,[],some (25,false),.mv 26 (.s 1)⟩,
  ⟨none,[],some (25,false),.bin 27 .lss (.s 26) (.k (.int .i64 0))⟩,
  {op:=.pick 28 (.s 25) (.k (.bool true)) (.s 27)},
  M 29 28,
  ⟨none,[],some (29,false),.mv 30 (.s 1)⟩,
  ⟨none,[],some (29,false),.bin 31 .gtr (.s 30) (.k (.int .i64 15))⟩,
  {op:=.pick 32 (.s 29) (.k (.bool true)) (.s 31)},
  M 33 32,
  ⟨none,[],some (33,false),.mv 34 (.s 2)⟩,
  ⟨none,[],some (33,false),.call 35 27 [(.s 34),(.k (.int .i64 (-32768))),(.k (.int .i64 32767)),(.k (.int .i64 4000))]⟩,
  ⟨none,[],some (33,false),.un 36 .not (.s 35)⟩,
  {op:=.pick 37 (.s 33) (.k (.bool true)) (.s 36)}]) (.kp [0,1,2,6,37] c_Id_5)) c_Id_10
def c_Id_0:VC:=
 .seq (.r 0 [{op:=.alloc 6 [.k (.int .i64 0),.k (.int .i64 0),.k (.int .i64 0),.o [.own [.sc]],.o [.own [.sc]]]}]) c_Id_2
def vf_Id:VF:={ pm:=[.ro [.sc],.ro [.sc],.ro [.ro [.sc]]],rm:=[.v [.sc,.sc,.sc,.own [.own [.sc]],.own [.own [.sc]]]],nslots:=142,res:=[6],rc:=[some (5,true)],code:=.kp [0,1,2] c_Id_0 }
def c_La_5:VC:=
 .ite (.s 10) (.seq (.r 2 [oK 4 false]) (.ret)) (.skip)
def c_La_18:VC:=
 .ite (.s 14) (.skip) (.exit 0)
def c_La_25:VC:=
 .ite (.s 25) (.seq (.r 7 [oK 4 false]) (.ret)) (.skip)
def c_La_30:VC:=
 .r 5 [M 15 5,
  {op:=.bin 16 .add (.s 15) (.k (.int .i64 1))},
  M 5 16]
def c_La_21:VC:=
 .seq (.blk 1 (.seq (.d 6 [(0,M 17 0),
  (1,M 18 5),
  (2,oX 19 17 18 1),
  (3,oV 20 19 1),
  (4,M 21 1),
  (5,M 22 5),
  (6,oX 23 21 22 1),
  (7,oV 24 23 1),
  (8,{op:=.bin 25 .neq (.s 20) (.s 24)})]) c_La_25)) c_La_30
def c_La_15:VC:=
 .seq (.seq (.r 4 [M 11 5,
  M 12 0,
  {op:=.len 13 (.s 12)},
  {op:=.bin 14 .lss (.s 11) (.s 13)}]) c_La_18) c_La_21
def c_La_13:VC:=
 .blk 0 (.loop [0,1,5] c_La_15)
def c_La_31:VC:=
 .seq (.r 8 [oK 4 true]) (.ret)
def c_La_10:VC:=
 .seq (.seq (.r 3 [oN 5 0]) c_La_13) (.kp [] c_La_31)
def c_La_2:VC:=
 .seq (.seq (.r 1 [M 6 0,
  {op:=.len 7 (.s 6)},
  M 8 1,
  {op:=.len 9 (.s 8)},
  {op:=.bin 10 .neq (.s 7) (.s 9)}]) c_La_5) c_La_10
def c_La_0:VC:=
 .seq (.r 0 [oK 4 false]) c_La_2
def vf_La:VF:={ pm:=[.ro [.ro [.sc]],.ro [.ro [.sc]]],rm:=[.v [.sc]],nslots:=26,res:=[4],rc:=[],code:=.kp [0,1] c_La_0 }
def c_Lb_5:VC:=
 .ite (.s 10) (.seq (.r 2 [oK 4 false]) (.ret)) (.skip)
def c_Lb_18:VC:=
 .ite (.s 14) (.skip) (.exit 0)
def c_Lb_25:VC:=
 .ite (.s 26) (.seq (.r 7 [oK 4 false]) (.ret)) (.skip)
def c_Lb_30:VC:=
 .r 5 [M 15 5,
  {op:=.bin 16 .add (.s 15) (.k (.int .i64 1))},
  M 5 16]
def c_Lb_21:VC:=
 .seq (.blk 1 (.seq (.d 6 [(0,M 17 0),
  (1,M 18 5),
  (2,oX 19 17 18 1),
  (3,oV 20 19 1),
  (4,M 21 1),
  (5,M 22 5),
  (6,oX 23 21 22 1),
  (7,oV 24 23 1),
  (8,{op:=.call 25 9 [(.s 20),(.s 24)]}),
  (9,{op:=.un 26 .not (.s 25)})]) c_Lb_25)) c_Lb_30
def c_Lb_15:VC:=
 .seq (.seq (.r 4 [M 11 5,
  M 12 0,
  {op:=.len 13 (.s 12)},
  {op:=.bin 14 .lss (.s 11) (.s 13)}]) c_Lb_18) c_Lb_21
def c_Lb_13:VC:=
 .blk 0 (.loop [0,1,5] c_Lb_15)
def c_Lb_31:VC:=
 .seq (.r 8 [oK 4 true]) (.ret)
def c_Lb_10:VC:=
 .seq (.seq (.r 3 [oN 5 0]) c_Lb_13) (.kp [] c_Lb_31)
def c_Lb_2:VC:=
 .seq (.seq (.r 1 [M 6 0,
  {op:=.len 7 (.s 6)},
  M 8 1,
  {op:=.len 9 (.s 8)},
  {op:=.bin 10 .neq (.s 7) (.s 9)}]) c_Lb_5) c_Lb_10
def c_Lb_0:VC:=
 .seq (.r 0 [oK 4 false]) c_Lb_2
def vf_Lb:VF:={ pm:=[.ro [.ro [.ro [.sc]]],.ro [.ro [.ro [.sc]]]],rm:=[.v [.sc]],nslots:=27,res:=[4],rc:=[],code:=.kp [0,1] c_Lb_0 }
def c_Lc_5:VC:=
 .ite (.s 9) (.seq (.r 2 [oK 4 false]) (.ret)) (.skip)
def c_Lc_13:VC:=
 .ite (.s 14) (.seq (.r 4 [oK 4 false]) (.ret)) (.skip)
def c_Lc_21:VC:=
 .ite (.s 19) (.seq (.r 6 [oK 4 false]) (.ret)) (.skip)
def c_Lc_29:VC:=
 .ite (.s 25) (.seq (.r 8 [oK 4 false]) (.ret)) (.skip)
def c_Lc_37:VC:=
 .ite (.s 31) (.seq (.r 10 [oK 4 false]) (.ret)) (.skip)
def c_Lc_42:VC:=
 .seq (.r 11 [oK 4 true]) (.ret)
def c_Lc_34:VC:=
 .seq (.seq (.r 9 [oF 26 2 4,
  oL 27 26 1,
  oF 28 3 4,
  oL 29 28 1,
  {op:=.call 30 31 [(.s 27),(.s 29)]},
  {op:=.un 31 .not (.s 30)}]) c_Lc_37) c_Lc_42
def c_Lc_26:VC:=
 .seq (.seq (.r 7 [oF 20 2 3,
  oL 21 20 1,
  oF 22 3 3,
  oL 23 22 1,
  {op:=.call 24 31 [(.s 21),(.s 23)]},
  {op:=.un 25 .not (.s 24)}]) c_Lc_29) c_Lc_34
def c_Lc_18:VC:=
 .seq (.seq (.r 5 [oF 15 2 2,
  oL 16 15 1,
  oF 17 3 2,
  oL 18 17 1,
  {op:=.bin 19 .neq (.s 16) (.s 18)}]) c_Lc_21) c_Lc_26
def c_Lc_10:VC:=
 .seq (.seq (.r 3 [oF 10 2 1,
  oL 11 10 1,
  oF 12 3 1,
  oL 13 12 1,
  {op:=.bin 14 .neq (.s 11) (.s 13)}]) c_Lc_13) c_Lc_18
def c_Lc_2:VC:=
 .seq (.seq (.r 1 [oF 5 2 0,
  oL 6 5 1,
  oF 7 3 0,
  oL 8 7 1,
  {op:=.bin 9 .neq (.s 6) (.s 8)}]) c_Lc_5) c_Lc_10
def c_Lc_0:VC:=
 .seq (.r 0 [{op:=.box 2 (.s 0)},
  {op:=.box 3 (.s 1)},
  oK 4 false]) c_Lc_2
def vf_Lc:VF:={ pm:=[.ro [.sc,.sc,.sc,.ro [.ro [.sc]],.ro [.ro [.sc]]],.ro [.sc,.sc,.sc,.ro [.ro [.sc]],.ro [.ro [.sc]]]],rm:=[.v [.sc]],nslots:=32,res:=[4],rc:=[],code:=.kp [0,1] c_Lc_0 }
def c_Lg_10:VC:=
 .ite (.s 9) (.skip) (.exit 0)
def c_Lg_17:VC:=
 .r 5 [M 16 1,
  {op:=.bin 17 .add (.s 16) (.k (.int .i64 1))},
  M 1 17]
def c_Lg_18:VC:=
 .r 3 [M 10 5,
  {op:=.bin 11 .add (.s 10) (.k (.int .i64 1))},
  M 5 11]
def c_Lg_13:VC:=
 .seq (.blk 1 (.seq (.r 4 [M 12 0,
  M 13 5,
  M 14 1,
  oX 15 12 13 1,
  oS 15 14 1]) c_Lg_17)) c_Lg_18
def c_Lg_7:VC:=
 .seq (.seq (.r 2 [M 6 5,
  M 7 0,
  {op:=.len 8 (.s 7)},
  {op:=.bin 9 .lss (.s 6) (.s 8)}]) c_Lg_10) c_Lg_13
def c_Lg_5:VC:=
 .blk 0 (.loop [0,1,5] c_Lg_7)
def c_Lg_19:VC:=
 .seq (.r 6 [M 18 1,
  M 4 18]) (.ret)
def c_Lg_2:VC:=
 .seq (.seq (.r 1 [oN 5 0]) c_Lg_5) (.kp [0,1] c_Lg_19)
def c_Lg_0:VC:=
 .seq (.r 0 [oN 4 0]) c_Lg_2
def vf_Lg:VF:={ pm:=[.ms [.sc],.ro [.sc]],rm:=[.v [.sc]],nslots:=19,res:=[4],rc:=[],code:=.kp [0,1] c_Lg_0 }
def c_Lh_10:VC:=
 .ite (.s 9) (.skip) (.exit 0)
def c_Lh_16:VC:=
 .r 3 [M 10 5,
  {op:=.bin 11 .add (.s 10) (.k (.int .i64 1))},
  M 5 11]
def c_Lh_13:VC:=
 .seq (.blk 1 (.r 4 [M 12 0,
  M 13 5,
  oX 14 12 13 1,
  oL 15 14 1,
  M 16 1,
  {op:=.call 17 10 [(.s 15),(.s 16)]},
  M 1 17])) c_Lh_16
def c_Lh_7:VC:=
 .seq (.seq (.r 2 [M 6 5,
  M 7 0,
  {op:=.len 8 (.s 7)},
  {op:=.bin 9 .lss (.s 6) (.s 8)}]) c_Lh_10) c_Lh_13
def c_Lh_5:VC:=
 .blk 0 (.loop [0,1,5] c_Lh_7)
def c_Lh_17:VC:=
 .seq (.r 5 [M 18 1,
  M 4 18]) (.ret)
def c_Lh_2:VC:=
 .seq (.seq (.r 1 [oN 5 0]) c_Lh_5) (.kp [0,1] c_Lh_17)
def c_Lh_0:VC:=
 .seq (.r 0 [oN 4 0]) c_Lh_2
def vf_Lh:VF:={ pm:=[.ms [.own [.sc]],.ro [.sc]],rm:=[.v [.sc]],nslots:=19,res:=[4],rc:=[],code:=.kp [0,1] c_Lh_0 }
def c_Li_6:VC:=
 .seq (.r 3 [M 13 1,
  M 4 13]) (.ret)
def c_Li_4:VC:=
 .seq (.r 2 [oF 9 2 4,
  oL 10 9 1,
  M 11 1,
  {op:=.call 12 32 [(.s 10),(.s 11)]},
  M 1 12]) c_Li_6
def c_Li_2:VC:=
 .seq (.r 1 [oF 5 2 3,
  oL 6 5 1,
  M 7 1,
  {op:=.call 8 32 [(.s 6),(.s 7)]},
  M 1 8]) c_Li_4
def c_Li_0:VC:=
 .seq (.r 0 [{op:=.box 2 (.s 0)},
  oN 4 0]) c_Li_2
def vf_Li:VF:={ pm:=[.mg [.sc,.sc,.sc,.own [.own [.sc]],.own [.own [.sc]]],.ro [.sc]],rm:=[.v [.sc]],nslots:=14,res:=[4],rc:=[],code:=.kp [0,1] c_Li_0 }
def c_Ld_10:VC:=
 .ite (.s 9) (.skip) (.exit 0)
def c_Ld_18:VC:=
 .ite (.s 17) (.seq (.r 5 [oN 4 (-1)]) (.ret)) (.skip)
def c_Ld_23:VC:=
 .r 6 [M 18 1,
  {op:=.bin 19 .add (.s 18) (.k (.int .i64 1))},
  M 1 19]
def c_Ld_24:VC:=
 .r 3 [M 10 5,
  {op:=.bin 11 .add (.s 10) (.k (.int .i64 1))},
  M 5 11]
def c_Ld_13:VC:=
 .seq (.blk 1 (.seq (.seq (.r 4 [M 12 0,
  M 13 5,
  oX 14 12 13 1,
  oL 15 14 1,
  M 16 1,
  {op:=.bin 17 .neq (.s 15) (.s 16)}]) c_Ld_18) c_Ld_23)) c_Ld_24
def c_Ld_7:VC:=
 .seq (.seq (.r 2 [M 6 5,
  M 7 0,
  {op:=.len 8 (.s 7)},
  {op:=.bin 9 .lss (.s 6) (.s 8)}]) c_Ld_10) c_Ld_13
def c_Ld_5:VC:=
 .blk 0 (.loop [0,1,5] c_Ld_7)
def c_Ld_25:VC:=
 .seq (.r 7 [M 20 1,
  M 4 20]) (.ret)
def c_Ld_2:VC:=
 .seq (.seq (.r 1 [oN 5 0]) c_Ld_5) (.kp [1] c_Ld_25)
def c_Ld_0:VC:=
 .seq (.r 0 [oN 4 0]) c_Ld_2
def vf_Ld:VF:={ pm:=[.ro [.ro [.sc]],.ro [.sc]],rm:=[.v [.sc]],nslots:=21,res:=[4],rc:=[],code:=.kp [0,1] c_Ld_0 }
def c_Le_10:VC:=
 .ite (.s 9) (.skip) (.exit 0)
def c_Le_19:VC:=
 .ite (.s 19) (.seq (.r 6 [oN 4 (-1)]) (.ret)) (.skip)
def c_Le_17:VC:=
 .seq (.r 5 [M 18 1,
  {op:=.bin 19 .lss (.s 18) (.k (.int .i64 0))}]) c_Le_19
def c_Le_24:VC:=
 .r 3 [M 10 5,
  {op:=.bin 11 .add (.s 10) (.k (.int .i64 1))},
  M 5 11]
def c_Le_13:VC:=
 .seq (.blk 1 (.seq (.r 4 [M 12 0,
  M 13 5,
  oX 14 12 13 1,
  oL 15 14 1,
  M 16 1,
  {op:=.call 17 59 [(.s 15),(.s 16)]},
  M 1 17]) c_Le_17)) c_Le_24
def c_Le_7:VC:=
 .seq (.seq (.r 2 [M 6 5,
  M 7 0,
  {op:=.len 8 (.s 7)},
  {op:=.bin 9 .lss (.s 6) (.s 8)}]) c_Le_10) c_Le_13
def c_Le_5:VC:=
 .blk 0 (.loop [0,1,5] c_Le_7)
def c_Le_25:VC:=
 .seq (.r 7 [M 20 1,
  M 4 20]) (.ret)
def c_Le_2:VC:=
 .seq (.seq (.r 1 [oN 5 0]) c_Le_5) (.kp [1] c_Le_25)
def c_Le_0:VC:=
 .seq (.r 0 [oN 4 0]) c_Le_2
def vf_Le:VF:={ pm:=[.ro [.ro [.ro [.sc]]],.ro [.sc]],rm:=[.v [.sc]],nslots:=21,res:=[4],rc:=[],code:=.kp [0,1] c_Le_0 }
def c_Lf_7:VC:=
 .ite (.s 10) (.seq (.r 3 [oN 4 (-1)]) (.ret)) (.skip)
def c_Lf_17:VC:=
 .ite (.s 16) (.seq (.r 6 [oN 4 (-1)]) (.ret)) (.skip)
def c_Lf_22:VC:=
 .seq (.r 7 [M 17 1,
  M 4 17]) (.ret)
def c_Lf_14:VC:=
 .seq (.seq (.r 5 [M 15 1,
  {op:=.bin 16 .lss (.s 15) (.k (.int .i64 0))}]) c_Lf_17) c_Lf_22
def c_Lf_12:VC:=
 .seq (.r 4 [oF 11 2 4,
  oL 12 11 1,
  M 13 1,
  {op:=.call 14 33 [(.s 12),(.s 13)]},
  M 1 14]) c_Lf_14
def c_Lf_4:VC:=
 .seq (.seq (.r 2 [M 9 1,
  {op:=.bin 10 .lss (.s 9) (.k (.int .i64 0))}]) c_Lf_7) c_Lf_12
def c_Lf_2:VC:=
 .seq (.r 1 [oF 5 2 3,
  oL 6 5 1,
  M 7 1,
  {op:=.call 8 33 [(.s 6),(.s 7)]},
  M 1 8]) c_Lf_4
def c_Lf_0:VC:=
 .seq (.r 0 [{op:=.box 2 (.s 0)},
  oN 4 0]) c_Lf_2
def vf_Lf:VF:={ pm:=[.ro [.sc,.sc,.sc,.ro [.ro [.sc]],.ro [.ro [.sc]]],.ro [.sc]],rm:=[.v [.sc]],nslots:=18,res:=[4],rc:=[],code:=.kp [0,1] c_Lf_0 }
def c_laws_FnExactTonesOf_5:VC:=
 .ite (.s 16) (.seq (.r 2 [oK 6 true]) (.ret)) (.skip)
def c_laws_FnExactTonesOf_19:VC:=
 .ite (.s 31) (.seq (.r 7 [oK 6 false]) (.ret)) (.skip)
def c_laws_FnExactTonesOf_27:VC:=
 .ite (.s 36) (.seq (.r 9 [oK 6 false]) (.ret)) (.skip)
def c_laws_FnExactTonesOf_39:VC:=
 .ite (.s 47) (.seq (.r 13 [oK 6 false]) (.ret)) (.skip)
def c_laws_FnExactTonesOf_55:VC:=
 .ite (.s 55) (.seq (.r 19 [oK 6 false]) (.ret)) (.skip)
def c_laws_FnExactTonesOf_63:VC:=
 .ite (.s 58) (.seq (.r 21 [oK 6 false]) (.ret)) (.skip)
def c_laws_FnExactTonesOf_73:VC:=
 .ite (.s 67) (.seq (.r 24 [oK 6 false]) (.ret)) (.skip)
def c_laws_FnExactTonesOf_85:VC:=
 .ite (.s 72) (.seq (.r 28 [oK 6 false]) (.ret)) (.skip)
def c_laws_FnExactTonesOf_93:VC:=
 .ite (.s 75) (.seq (.r 30 [oK 6 false]) (.ret)) (.skip)
def c_laws_FnExactTonesOf_98:VC:=
 .seq (.r 31 [oK 6 true]) (.ret)
def c_laws_FnExactTonesOf_90:VC:=
 .seq (.seq (.r 29 [M 73 12,
  M 74 11,
  {op:=.bin 75 .neq (.s 73) (.s 74)}]) c_laws_FnExactTonesOf_93) c_laws_FnExactTonesOf_98
def c_laws_FnExactTonesOf_82:VC:=
 .seq (.seq (.r 27 [M 71 12,
  {op:=.bin 72 .lss (.s 71) (.k (.int .i64 0))}]) c_laws_FnExactTonesOf_85) c_laws_FnExactTonesOf_90
def c_laws_FnExactTonesOf_80:VC:=
 .seq (.r 26 [{op:=.ld 68 (.s 9) 5 true},
  M 69 12,
  {op:=.call 70 12 [(.s 68),(.s 69)]},
  M 12 70]) c_laws_FnExactTonesOf_82
def c_laws_FnExactTonesOf_78:VC:=
 .seq (.r 25 [oN 12 1]) c_laws_FnExactTonesOf_80
def c_laws_FnExactTonesOf_70:VC:=
 .seq (.seq (.r 23 [{op:=.ld 64 (.s 13) 5 true},
  {op:=.ld 65 (.s 7) 5 true},
  {op:=.call 66 8 [(.s 64),(.s 65)]},
  {op:=.un 67 .not (.s 66)}]) c_laws_FnExactTonesOf_73) c_laws_FnExactTonesOf_78
def c_laws_FnExactTonesOf_68:VC:=
 .seq (.r 22 [M 59 0,
  M 60 1,
  M 61 2,
  {op:=.call 62 6 [(.s 61)]},
  {op:=.call 63 7 [(.s 59),(.s 60),(.s 62)]},
  {op:=.alloc 13 [.k (.int .i64 0),.k (.int .i64 0),.k (.int .i64 0),.o [.own [.sc]],.o [.own [.sc]]]},
  oS 13 63 5]) c_laws_FnExactTonesOf_70
def c_laws_FnExactTonesOf_60:VC:=
 .seq (.seq (.r 20 [M 56 12,
  M 57 11,
  {op:=.bin 58 .neq (.s 56) (.s 57)}]) c_laws_FnExactTonesOf_63) c_laws_FnExactTonesOf_68
def c_laws_FnExactTonesOf_52:VC:=
 .seq (.seq (.r 18 [M 54 12,
  {op:=.bin 55 .lss (.s 54) (.k (.int .i64 0))}]) c_laws_FnExactTonesOf_55) c_laws_FnExactTonesOf_60
def c_laws_FnExactTonesOf_50:VC:=
 .seq (.r 17 [{op:=.ld 51 (.s 9) 5 true},
  M 52 12,
  {op:=.call 53 12 [(.s 51),(.s 52)]},
  M 12 53]) c_laws_FnExactTonesOf_52
def c_laws_FnExactTonesOf_48:VC:=
 .seq (.r 16 [oN 12 1]) c_laws_FnExactTonesOf_50
def c_laws_FnExactTonesOf_46:VC:=
 .seq (.r 15 [{op:=.ld 48 (.s 9) 5 true},
  M 49 11,
  {op:=.call 50 11 [(.s 48),(.s 49)]},
  M 11 50]) c_laws_FnExactTonesOf_48
def c_laws_FnExactTonesOf_44:VC:=
 .seq (.r 14 [oN 11 1]) c_laws_FnExactTonesOf_46
def c_laws_FnExactTonesOf_36:VC:=
 .seq (.seq (.r 12 [M 40 10,
  {op:=.bin 41 .lss (.s 40) (.k (.int .i64 0))},
  M 42 41,
  ⟨none,[],some (42,false),.ld 43 (.s 9) 5 true⟩,
  ⟨none,[],some (42,false),.ld 44 (.s 7) 5 true⟩,
  ⟨none,[],some (42,false),.call 45 8 [(.s 43),(.s 44)]⟩,
  ⟨none,[],some (42,false),.un 46 .not (.s 45)⟩,
  {op:=.pick 47 (.s 42) (.k (.bool true)) (.s 46)}]) c_laws_FnExactTonesOf_39) c_laws_FnExactTonesOf_44
def c_laws_FnExactTonesOf_34:VC:=
 .seq (.r 11 [M 37 8,
  M 38 10,
  {op:=.call 39 10 [(.s 37),(.s 38)]},
  M 10 39]) c_laws_FnExactTonesOf_36
def c_laws_FnExactTonesOf_32:VC:=
 .seq (.r 10 [oN 10 1]) c_laws_FnExactTonesOf_34
def c_laws_FnExactTonesOf_24:VC:=
 .seq (.seq (.r 8 [M 32 8,
  M 33 2,
  {op:=.call 34 6 [(.s 33)]},
  {op:=.call 35 9 [(.s 32),(.s 34)]},
  {op:=.un 36 .not (.s 35)}]) c_laws_FnExactTonesOf_27) c_laws_FnExactTonesOf_32
def c_laws_FnExactTonesOf_16:VC:=
 .seq (.seq (.r 6 [{op:=.ld 28 (.s 9) 5 true},
  {op:=.ld 29 (.s 7) 5 true},
  {op:=.call 30 8 [(.s 28),(.s 29)]},
  {op:=.un 31 .not (.s 30)}]) c_laws_FnExactTonesOf_19) c_laws_FnExactTonesOf_24
def c_laws_FnExactTonesOf_14:VC:=
 .seq (.r 5 [M 24 0,
  M 25 1,
  M 26 8,
  {op:=.call 27 7 [(.s 24),(.s 25),(.s 26)]},
  {op:=.alloc 9 [.k (.int .i64 0),.k (.int .i64 0),.k (.int .i64 0),.o [.own [.sc]],.o [.own [.sc]]]},
  oS 9 27 5]) c_laws_FnExactTonesOf_16
def c_laws_FnExactTonesOf_12:VC:=
 .seq (.r 4 [M 22 2,
  {op:=.call 23 6 [(.s 22)]},
  M 8 23]) c_laws_FnExactTonesOf_14
def c_laws_FnExactTonesOf_10:VC:=
 .seq (.r 3 [M 17 0,
  M 18 1,
  M 19 2,
  {op:=.call 20 6 [(.s 19)]},
  {op:=.call 21 5 [(.s 17),(.s 18),(.s 20)]},
  {op:=.alloc 7 [.k (.int .i64 0),.k (.int .i64 0),.k (.int .i64 0),.o [.own [.sc]],.o [.own [.sc]]]},
  oS 7 21 5]) c_laws_FnExactTonesOf_12
def c_laws_FnExactTonesOf_2:VC:=
 .seq (.seq (.r 1 [M 14 2,
  {op:=.len 15 (.s 14)},
  {op:=.bin 16 .gtr (.s 15) (.k (.int .i64 1048576))}]) c_laws_FnExactTonesOf_5) c_laws_FnExactTonesOf_10
def c_laws_FnExactTonesOf_0:VC:=
 .seq (.r 0 [oK 6 false]) c_laws_FnExactTonesOf_2
def vf_laws_FnExactTonesOf:VF:={ pm:=[.ro [.sc],.ro [.sc],.ro [.ro [.sc]]],rm:=[.v [.sc]],nslots:=76,res:=[6],rc:=[],code:=.kp [0,1,2] c_laws_FnExactTonesOf_0 }
def ext:FuncId→List Arg→Option FRes:=fun f ars=>none
def tblL:List (FuncId×VF):=[(6,vf_Lj),(21,vf_Se),(22,vf_Si),(23,vf_Sj),(67,vf_Sg),(50,vf_Sl),(24,vf_Sh),(25,vf_Sa),(51,vf_Sk),(53,vf_Sd),(52,vf_Sc),(26,vf_Sf),(5,vf_Sb),(27,vf_Ij),(56,vf_Ik),(54,vf_Ie),(28,vf_Ic),(55,vf_Ig),(29,vf_Ia),(46,vf_Ii),(58,vf_Ih),(57,vf_If),(30,vf_Ib),(7,vf_Id),(9,vf_La),(31,vf_Lb),(8,vf_Lc),(10,vf_Lg),(32,vf_Lh),(11,vf_Li),(59,vf_Ld),(33,vf_Le),(12,vf_Lf),(3,vf_laws_FnExactTonesOf),(gBase+0,{ given:=true,pm:=[],rm:=[],nslots:=0,res:=[],code:=.skip,tab:=tv_0 }),(gBase+1,{ given:=true,pm:=[],rm:=[],nslots:=0,res:=[],code:=.skip,tab:=tv_1 })]
def tbl:FuncId→Option VF:=fun f=>tblL.lookup f
end Go.Proofs.V

namespace Go.Proofs.V
open Go
theorem fi_Lj:funcIs Go.Proofs.Tryd.prog tbl 6 vf_Lj=true:=by kernel_rfl
theorem fi_Se:funcIs Go.Proofs.Tryd.prog tbl 21 vf_Se=true:=by kernel_rfl
theorem fi_Si:funcIs Go.Proofs.Tryd.prog tbl 22 vf_Si=true:=by kernel_rfl
theorem fi_Sj:funcIs Go.Proofs.Tryd.prog tbl 23 vf_Sj=true:=by kernel_rfl
theorem fi_Sg:funcIs Go.Proofs.Tryd.prog tbl 67 vf_Sg=true:=by kernel_rfl
theorem fi_Sl:funcIs Go.Proofs.Tryd.prog tbl 50 vf_Sl=true:=by kernel_rfl
theorem fi_Sh:funcIs Go.Proofs.Tryd.prog tbl 24 vf_Sh=true:=by kernel_rfl
theorem fi_Sa:funcIs Go.Proofs.Tryd.prog tbl 25 vf_Sa=true:=by kernel_rfl
theorem fi_Sk:funcIs Go.Proofs.Tryd.prog tbl 51 vf_Sk=true:=by kernel_rfl
theorem fi_Sd:funcIs Go.Proofs.Tryd.prog tbl 53 vf_Sd=true:=by kernel_rfl
theorem fi_Sc:funcIs Go.Proofs.Tryd.prog tbl 52 vf_Sc=true:=by kernel_rfl
theorem fi_Sf:funcIs Go.Proofs.Tryd.prog tbl 26 vf_Sf=true:=by kernel_rfl
theorem fi_Sb:funcIs Go.Proofs.Tryd.prog tbl 5 vf_Sb=true:=by kernel_rfl
theorem fi_Ij:funcIs Go.Proofs.Tryd.prog tbl 27 vf_Ij=true:=by kernel_rfl
theorem fi_Ik:funcIs Go.Proofs.Tryd.prog tbl 56 vf_Ik=true:=by kernel_rfl
theorem fi_Ie:funcIs Go.Proofs.Tryd.prog tbl 54 vf_Ie=true:=by kernel_rfl
theorem fi_Ic:funcIs Go.Proofs.Tryd.prog tbl 28 vf_Ic=true:=by kernel_rfl
theorem fi_Ig:funcIs Go.Proofs.Tryd.prog tbl 55 vf_Ig=true:=by kernel_rfl
theorem fi_Ia:funcIs Go.Proofs.Tryd.prog tbl 29 vf_Ia=true:=by kernel_rfl
theorem fi_Ii:funcIs Go.Proofs.Tryd.prog tbl 46 vf_Ii=true:=by kernel_rfl
theorem fi_Ih:funcIs Go.Proofs.Tryd.prog tbl 58 vf_Ih=true:=by kernel_rfl
theorem fi_If:funcIs Go.Proofs.Tryd.prog tbl 57 vf_If=true:=by kernel_rfl
theorem fi_Ib:funcIs Go.Proofs.Tryd.prog tbl 30 vf_Ib=true:=by kernel_rfl
theorem fi_Id:funcIs Go.Proofs.Tryd.prog tbl 7 vf_Id=true:=by kernel_rfl
theorem fi_La:funcIs Go.Proofs.Tryd.prog tbl 9 vf_La=true:=by kernel_rfl
theorem fi_Lb:funcIs Go.Proofs.Tryd.prog tbl 31 vf_Lb=true:=by kernel_rfl
theorem fi_Lc:funcIs Go.Proofs.Tryd.prog tbl 8 vf_Lc=true:=by kernel_rfl
theorem fi_Lg:funcIs Go.Proofs.Tryd.prog tbl 10 vf_Lg=true:=by kernel_rfl
theorem fi_Lh:funcIs Go.Proofs.Tryd.prog tbl 32 vf_Lh=true:=by kernel_rfl
theorem fi_Li:funcIs Go.Proofs.Tryd.prog tbl 11 vf_Li=true:=by kernel_rfl
theorem fi_Ld:funcIs Go.Proofs.Tryd.prog tbl 59 vf_Ld=true:=by kernel_rfl
theorem fi_Le:funcIs Go.Proofs.Tryd.prog tbl 33 vf_Le=true:=by kernel_rfl
theorem fi_Lf:funcIs Go.Proofs.Tryd.prog tbl 12 vf_Lf=true:=by kernel_rfl
theorem fi_laws_FnExactTonesOf:funcIs Go.Proofs.Tryd.prog tbl 3 vf_laws_FnExactTonesOf=true:=by kernel_rfl
def gI:GInv:=gTab 2 [(0,tv_0),(1,tv_1)] (by kernel_rfl)
end Go.Proofs.V
