import Derived.Test.YtejakgejjjncbaaFnRoomyV0
import Derived.Laws.MakeOwn
import Derived.Deep.Upon
import Derived.Laws.IdiomCopy
import Derived.Lib.ConvBytes
import Derived.Laws.BytesString
import Derived.Laws.Tables
import Derived.Laws.Small
import Derived.Laws.Cover3
namespace Go.Proofs.V
open Go
variable {P:Program}
theorem Own.take {w:World} {F:Nat→Prop} {G:Gh} {p:List OT} {g n cap:Nat} {es:List (List T)} (h:Own w F G (.own p) (.slice (some ⟨g,0,none⟩) n cap) (.sl es)) (len:Nat) (hl:len≤es.length) :
  Own w F G (.own p) (.slice (some ⟨g,0,none⟩) len cap) (.sl (es.take len)):=by
 generalize hv:Value.slice (some ⟨g,0,none⟩) n cap=v at h
 generalize ht:T.sl es=t at h
 cases h with
 | nil _=>simp at hv
 | @sl G p g' cap' es' us hG hcap hm hrow hc hf hcell hsub=>
  simp at hv ht
  subst ht
  obtain ⟨rfl,_,rfl⟩:=hv
  have hl' : (es.take len).length=len:=by simp;omega
  have get:∀ (i:Nat) (row:List T),(es.take len)[i]? = some row→es[i]? = some row:=by
   intro i row h
   rw [List.getElem?_take] at h
   split at h
   ·exact h
   ·simp at h
  have:=Own.sl (w:=w) (F:=F) (es:=es.take len) us hG (by omega) hm (fun i row h=>hrow i row (get i row h)) hc hf (fun i j hi hj=>hcell i j (by omega) hj) (fun i j row x q h1 h2 h3=>hsub i j row x q (get i row h1) h2 h3)
  rwa [hl'] at this
def cid:OT→C→Option Nat
 | .own _,.ref id _ _ _=>some id
 | .hol _,.ref id _ _ _=>some id
 | _,_=>none
def cG (Go:Nat→Gh) (o:OT) (c:C):Gh:=
 match cid o c with
 | some id=>Go id
 | none=>fun _=>none
section
variable {A:Nat→Prop} {pin:List (Nat×Value)} {w w' : World} {F:Nat→Prop} {O:Nat→Option Ow} {Go:Nat→Gh} {Gv:Nat→Option Nat} {st:St} {tm:Array Value}
theorem Rel.root (h:Rel A pin w F O Go Gv st tm) {id:Nat} {o:Ob} (ho:st.obj id=some o) :
  (Go id []=none∧o.es=[]∧Own w F (Go id) (.own o.ot) (.slice none 0 0) (.sl o.es))∨
  ∃ b,Go id []=some b∧Own w F (Go id) (.own o.ot) (.slice (some ⟨b.g,0,none⟩) o.es.length b.cap) (.sl o.es):=by
 obtain ⟨v,hv⟩:=h.objs id o ho
 generalize ht:T.sl o.es=t at hv
 cases hv with
 | nil hG=>simp at ht;exact .inl ⟨hG,ht,.nil hG⟩
 | sl us hG hcap hm hrow hc hf hcell hsub=>
  simp at ht
  subst ht
  exact .inr ⟨_,hG,.sl us hG hcap hm hrow hc hf hcell hsub⟩
theorem Rel.toT (h:Rel A pin w F O Go Gv st tm) {o:OT} {c:C} {x:T} {u:List Nat} {v:Value} (ht:toT st o c=some (x,u)) (hc:CRel w F Go Gv st v c) :
  Own w F (cG Go o c) o v x∧u=(cid o c).toList∧(∀ id,id ∈ u→∃ o,st.obj id=some o):=by
 unfold V.toT at ht
 split at ht
 ·split at ht
  ·rename_i hl
   simp at ht
   obtain ⟨rfl,rfl⟩:=ht
   simp only [CRel] at hc
   subst hc
   exact ⟨.sc hl,rfl,by simp⟩
  ·simp at ht
 ·simp at ht
  obtain ⟨rfl,rfl⟩:=ht
  simp only [CRel] at hc
  subst hc
  exact ⟨.ro (.emp (by simp [maxLen])),rfl,by simp⟩
 ·split at ht
  ·rename_i hb
   simp at ht
   obtain ⟨rfl,rfl⟩:=ht
   have:=OT.beqs_eq _ _ hb
   subst this
   exact ⟨.ro hc,rfl,by simp⟩
  ·simp at ht
 ·simp at ht
  obtain ⟨rfl,rfl⟩:=ht
  simp only [CRel] at hc
  subst hc
  exact ⟨.nil rfl,rfl,by simp⟩
 ·rename_i ot id len
  split at ht
  ·rename_i ob hob
   split at ht
   ·rename_i hb
    simp at ht
    obtain ⟨rfl,rfl⟩:=ht
    simp at hb
    have:=OT.beqs_eq _ _ hb.1
    subst this
    have h1:=hc.2 ob hob
    refine ⟨?_,rfl,by simp [hob]⟩
    simp only [cG,cid]
    rcases h.root hob with ⟨h2,h3,h4⟩|⟨b,h2,h3⟩
    ·simp only [h2] at h1
     obtain ⟨rfl,_,rfl⟩:=h1
     rw [h3] at h4 ⊢
     exact h4
    ·simp only [h2] at h1
     rcases h1 with ⟨_,rfl,_⟩|⟨h5,_⟩
     ·exact h3.take len hb.2
     ·omega
   ·simp at ht
  ·simp at ht
 ·rename_i ot id len
  split at ht
  ·rename_i ob hob
   split at ht
   ·rename_i hb
    simp at ht
    obtain ⟨rfl,rfl⟩:=ht
    simp at hb
    have:=OT.beqs_eq _ _ hb.1
    subst this
    have h1:=hc.2 ob hob
    refine ⟨.full ?_,rfl,by simp [hob]⟩
    simp only [cG,cid]
    rcases h.root hob with ⟨h2,h3,h4⟩|⟨b,h2,h3⟩
    ·simp only [h2] at h1
     obtain ⟨rfl,_,rfl⟩:=h1
     rw [h3] at h4 ⊢
     exact h4
    ·simp only [h2] at h1
     rcases h1 with ⟨_,rfl,_⟩|⟨h5,_⟩
     ·exact h3.take len hb.2
     ·omega
   ·simp at ht
  ·simp at ht
 ·simp at ht
theorem Rel.toTs (h:Rel A pin w F O Go Gv st tm):∀ {ot:List OT} {cs:List C} {ts:List T} {us:List Nat} {vs:List Value},toTs st ot cs=some (ts,us)→CsRel w F Go Gv st vs cs→
  cs.length=ot.length∧ts.length=ot.length∧vs.length=ot.length∧
  (∀ (j:Nat) (o:OT) (c:C) (x:T) (v:Value),ot[j]? = some o→cs[j]? = some c→ts[j]? = some x→vs[j]? = some v→v.oneCell' = true∧Own w F (cG Go o c) o v x)∧
  us=(List.zipWith (fun o c=>(cid o c).toList) ot cs).flatten∧∀ id,id ∈ us→∃ o,st.obj id=some o
 | [],[],ts,us,vs,ht,hc=>by
  simp [V.toTs] at ht
  obtain ⟨rfl,rfl⟩:=ht
  have:=hc.1
  simp at this
  subst this
  exact ⟨rfl,rfl,rfl,by simp,rfl,by simp⟩
 | [],_::_,_,_,_,ht,_ | _::_,[],_,_,_,ht,_=>by simp [V.toTs] at ht
 | o::ot,c::cs,ts,us,vs,ht,hc=>by
  simp only [V.toTs] at ht
  split at ht
  ·rename_i x u xs us' h1 h2
   simp at ht
   obtain ⟨rfl,rfl⟩:=ht
   cases vs with
   | nil=>exact absurd hc.1 (by simp)
   | cons v vs=>
    have hc0:=hc.2 0 v c rfl rfl
    have hcs:CsRel w F Go Gv st vs cs:=⟨by have:=hc.1;simpa using this,fun k u c h1 h2=>hc.2 (k+1) u c (by simpa using h1) (by simpa using h2)⟩
    obtain ⟨a1,a2,a3⟩:=h.toT h1 hc0.2
    obtain ⟨b1,b2,b3,b4,b5,b6⟩:=Rel.toTs h h2 hcs
    refine ⟨by simp [b1],by simp [b2],by simp [b3],?_,by simp [a2,b5],?_⟩
    ·intro j o' c' x' v' h3 h4 h5 h6
     cases j with
     | zero=>simp at h3 h4 h5 h6;subst h3 h4 h5 h6;exact ⟨hc0.1,a1⟩
     | succ j=>exact b4 j o' c' x' v' (by simpa using h3) (by simpa using h4) (by simpa using h5) (by simpa using h6)
    ·intro id hid
     simp at hid
     rcases hid with hid | hid
     ·exact a3 id hid
     ·exact b6 id hid
  ·simp at ht
theorem Rel.lendT (h:Rel A pin w F O Go Gv st tm) {o:OT} {c:C} {x:T} {u:List Nat} {v:Value} (ht:lendT st o c=some (x,u)) (hc:CRel w F Go Gv st v c) {F' : Nat→Prop} (hF:∀ b,F b→F' b)
  (hl:∀ id,id ∈ u→∀ p b,Go id p=some b→F' b.g) (ho1:v.oneCell' = true):Rd w F' o v x∧(∀ id,id ∈ u→∃ o,st.obj id=some o):=by
 unfold V.lendT at ht
 split at ht
 ·split at ht
  ·rename_i hl
   simp at ht
   obtain ⟨rfl,rfl⟩:=ht
   simp only [CRel] at hc
   subst hc
   exact ⟨.sc hl,by simp⟩
  ·simp at ht
 ·simp at ht
  obtain ⟨rfl,rfl⟩:=ht
  simp only [CRel] at hc
  subst hc
  exact ⟨.emp (by simp [maxLen]),by simp⟩
 ·split at ht
  ·rename_i hb
   simp at ht
   obtain ⟨rfl,rfl⟩:=ht
   have:=OT.beqs_eq _ _ hb
   subst this
   exact ⟨hc.keep (fun b _=>Same.refl w b) hF,by simp⟩
  ·simp at ht
 ·rename_i q id p off len
  split at ht
  ·rename_i ob hob
   split at ht
   ·rename_i ot es hsub
    split at ht
    ·rename_i hb
     simp at ht
     obtain ⟨rfl,rfl⟩:=ht
     simp at hb
     have:=OT.beqs_eq _ _ hb.1
     subst this
     have h1:=hc.2 ob hob
     refine ⟨?_,by simp [hob]⟩
     obtain ⟨v0,hv0⟩:=h.objs id ob hob
     obtain ⟨v',hv'⟩:=hv0.at p hsub
     have hG:∀ r b,Go id (p++r)=some b→F' b.g:=fun r b hb=>hl id (by simp) _ b hb
     generalize ht:T.sl es=t at hv'
     have hsubOT:=subOT_of_subEs hsub
     cases hv' with
     | nil hG0=>
      simp at ht
      subst ht
      simp at hG0
      simp only [hG0] at h1
      obtain ⟨rfl,rfl,rfl⟩:=h1
      exact .emp (by simp [maxLen])
     | @sl G pp g cap es' us hG0 hcap hm hrow hcc hf hcell hsubs=>
      simp at ht
      subst ht
      simp at hG0
      simp only [hG0] at h1
      have hll:=OT.lends_length ot
      have hlen:((es.drop off).take len).length=len:=by simp;omega
      have get:∀ (i:Nat) (row:List T),((es.drop off).take len)[i]? = some row→es[off+i]? = some row:=by
       intro i row h
       rw [List.getElem?_take] at h
       split at h
       ·rwa [List.getElem?_drop] at h
       ·simp at h
      by_cases hlen0:len=0
      ·subst hlen0
       simp only [List.take_zero]
       rcases h1 with ⟨_,rfl,_⟩|⟨_,a,c,rfl,_,h4,_⟩
       ·exact .emp hm
       ·exact .emp (Nat.le_trans h4 hm)
      ·have hval:∃ cap',v=.slice (some ⟨g,off*ot.length,none⟩) len cap'∧len≤cap'∧cap'≤maxLen:=by
        rcases h1 with ⟨rfl,rfl,h3⟩|⟨_,a,c,rfl,h3,h4,h5⟩
        ·exact ⟨cap,by simp,h3,hm⟩
        ·obtain ⟨ot',h6,h7⟩:=h5 (by omega)
         rw [hsubOT] at h6
         simp at h6
         subst h6
         exact ⟨c,by rw [h7],h3,Nat.le_trans h4 hm⟩
       obtain ⟨cap',rfl,hc1,hc2⟩:=hval
       have:=Rd.sl (w:=w) (F:=F') (p:=OT.lends ot) (g:=g) (o:=off*ot.length) (cap:=cap') (es:=(es.drop off).take len) (fun i j=>us (off+i) j) (hG [] _ (by simpa using hG0)) (by omega) hc2
        (fun i row h=>by rw [hll];exact hrow _ row (get i row h))
        (fun i j hi hj=>by
         rw [hll] at hj ⊢
         have:=hcell (off+i) j (by omega) hj
         rwa [Nat.add_mul] at this)
        (fun i j row x q h1 h2 h3=>by
         obtain ⟨q',h4,rfl⟩:=OT.lends_get _ _ _ h3
         exact (hsubs (off+i) j row x q' (get i row h1) h2 h4).lend hF (fun r b hb=>hG _ b hb))
       rwa [hlen] at this
    ·simp at ht
   ·simp at ht
  ·simp at ht
 ·simp at ht
theorem Rel.lendTs (h:Rel A pin w F O Go Gv st tm) {F' : Nat→Prop} (hF:∀ b,F b→F' b):∀ {ot:List OT} {cs:List C} {ts:List T} {us:List Nat} {vs:List Value},lendTs st ot cs=some (ts,us)→CsRel w F Go Gv st vs cs→
  (∀ id,id ∈ us→∀ p b,Go id p=some b→F' b.g)→cs.length=ot.length∧ts.length=ot.length∧vs.length=ot.length∧
  (∀ (j:Nat) (o:OT) (x:T) (v:Value),ot[j]? = some o→ts[j]? = some x→vs[j]? = some v→v.oneCell' = true∧Rd w F' o v x)∧∀ id,id ∈ us→∃ o,st.obj id=some o
 | [],[],ts,us,vs,ht,hc,_=>by
  simp [V.lendTs] at ht
  obtain ⟨rfl,rfl⟩:=ht
  have:=hc.1
  simp at this
  subst this
  exact ⟨rfl,rfl,rfl,by simp,by simp⟩
 | [],_::_,_,_,_,ht,_,_ | _::_,[],_,_,_,ht,_,_=>by simp [V.lendTs] at ht
 | o::ot,c::cs,ts,us,vs,ht,hc,hl=>by
  simp only [V.lendTs] at ht
  split at ht
  ·rename_i x u xs us' h1 h2
   simp at ht
   obtain ⟨rfl,rfl⟩:=ht
   cases vs with
   | nil=>exact absurd hc.1 (by simp)
   | cons v vs=>
    have hc0:=hc.2 0 v c rfl rfl
    have hcs:CsRel w F Go Gv st vs cs:=⟨by have:=hc.1;simpa using this,fun k u c h1 h2=>hc.2 (k+1) u c (by simpa using h1) (by simpa using h2)⟩
    obtain ⟨a1,a2⟩:=h.lendT h1 hc0.2 hF (fun id hid=>hl id (by simp [hid])) hc0.1
    obtain ⟨b1,b2,b3,b4,b5⟩:=Rel.lendTs h hF h2 hcs (fun id hid=>hl id (by simp [hid]))
    refine ⟨by simp [b1],by simp [b2],by simp [b3],?_,?_⟩
    ·intro j o' x' v' h3 h5 h6
     cases j with
     | zero=>simp at h3 h5 h6;subst h3 h5 h6;exact ⟨hc0.1,a1⟩
     | succ j=>exact b4 j o' x' v' (by simpa using h3) (by simpa using h5) (by simpa using h6)
    ·intro id hid
     simp at hid
     rcases hid with hid | hid
     ·exact a2 id hid
     ·exact b5 id hid
  ·simp at ht
end
end Go.Proofs.V

namespace Go.Proofs.V
open Go
variable {P:Program}
section
variable {A:Nat→Prop} {pin:List (Nat×Value)} {w w' : World} {F:Nat→Prop} {O:Nat→Option Ow} {Go:Nat→Gh} {Gv:Nat→Option Nat} {st:St} {tm:Array Value}
theorem Rel.world (h:Rel A pin w F O Go Gv st tm) (hw:Step A w w') (hsame:∀ b x,O b=some x→Same w w' b) (hF:∀ b,F b→Same w w' b):Rel A pin w' F O Go Gv st tm:=by
 have hext:Ext w w' F F Go Go Gv Gv st st:=⟨hF,fun _ h=>h,Nat.le_refl _,Nat.le_refl _,fun id _ o' h=>⟨o',h,rfl,rfl⟩,fun id _ cs h=>⟨⟨cs,h⟩,rfl⟩⟩
 refine ⟨h.size,fun k v s h1 h2=>(h.slots k v s h1 h2).ext hext,?_,h.objN,?_,h.varN,h.oO,h.oV,h.oF,fun b x hx=>⟨(h.oA b x hx).1,Nat.lt_of_lt_of_le (h.oA b x hx).2 hw.size⟩,
  fun b hb=>Nat.lt_of_lt_of_le (h.fS b hb) hw.size,fun b hb=>h.aN b (Nat.le_trans hw.size hb),h.pinned⟩
 ·intro id o ho
  obtain ⟨v,hv⟩:=h.objs id o ho
  exact ⟨v,hv.keep hF (fun _ h=>h) (fun _=>rfl) (fun r b hb=>hsame _ _ (h.oO _ _ _ hb))⟩
 ·intro id cs hcs
  obtain ⟨g,h1,h2⟩:=h.vars id cs hcs
  refine ⟨g,h1,fun k c hk=>?_⟩
  obtain ⟨u,h3,h4,h5,h6⟩:=h2 k c hk
  have hs:=hsame g _ (h.oV _ _ h1)
  exact ⟨u,(hs _).1.trans h3,((hs _).2 ⟨u,h3⟩).trans h4,h5,h6.ext hext⟩
def newOV (O:Nat→Option Ow) (n g:Nat) (b:Nat):Option Ow:=if b=g then some (.var n) else O b
def newGv (Gv:Nat→Option Nat) (n g:Nat) (id:Nat):Option Nat:=if id=n then some g else Gv id
theorem Rel.newVar (h:Rel A pin w F O Go Gv st tm) {g:Nat} {vs:List Value} {cs:List C} (hg:O g=none) (hFg : ¬ F g) (hA:A g) (hgs:g < w.heap.size)
  (hcell:∀ (k:Nat) (u:Value),vs[k]? = some u→w.cell? ⟨g,k,none⟩=some u∧w.frozen? ⟨g,k,none⟩=false) (hcs:CsRel w F Go Gv st vs cs) :
  Rel A pin w F (newOV O st.vars.length g) Go (newGv Gv st.vars.length g) { st with vars:=st.vars++[some cs] } tm:=by
 have hvar:∀ id cs',St.var { st with vars:=st.vars++[some cs] } id=some cs'→(id=st.vars.length∧cs' = cs)∨(id < st.vars.length∧st.var id=some cs'):=by
  intro id cs' h1
  simp only [var_eq,List.getElem?_append] at h1
  by_cases hid:id < st.vars.length
  ·simp only [hid,if_true] at h1
   exact .inr ⟨hid,h1⟩
  ·simp only [hid,if_false] at h1
   by_cases hid' : id=st.vars.length
   ·subst hid';simp at h1;exact .inl ⟨rfl,h1.symm⟩
   ·cases hk:id - st.vars.length with
    | zero=>omega
    | succ k=>simp [hk] at h1
 have hvar' : ∀ id cs',st.var id=some cs'→St.var { st with vars:=st.vars++[some cs] } id=some cs':=by
  intro id cs' h1
  have:=var_lt h1
  simp only [var_eq,List.getElem?_append,this,if_true]
  exact h1
 have hext:Ext w w F F Go Go Gv (newGv Gv st.vars.length g) st { st with vars:=st.vars++[some cs] }:=by
  refine ⟨fun b _=>Same.refl w b,fun _ h=>h,Nat.le_refl _,by simp,fun id _ o' h=>⟨o',h,rfl,rfl⟩,fun id hid cs' hcs'=>?_⟩
  rcases hvar id cs' hcs' with ⟨rfl,_⟩|⟨_,h1⟩
  ·omega
  ·exact ⟨⟨cs',h1⟩,by simp [newGv,Nat.ne_of_lt hid]⟩
 have hne:∀ b x,O b=some x→b≠g:=fun b x hx e=>by rw [e,hg] at hx;simp at hx
 refine ⟨h.size,fun k v s h1 h2=>(h.slots k v s h1 h2).ext hext,h.objs,h.objN,?_,?_,?_,?_,?_,?_,h.fS,h.aN,h.pinned⟩
 ·intro id cs' hcs'
  rcases hvar id cs' hcs' with ⟨rfl,rfl⟩|⟨h1,h2⟩
  ·refine ⟨g,by simp [newGv],fun k c hk=>?_⟩
   have hk' : k < vs.length:=by rw [hcs.1];exact (List.getElem?_eq_some_iff.1 hk).1
   have hu:=hcs.2 k vs[k] c (by simp [hk']) hk
   have:=hcell k vs[k] (by simp [hk'])
   exact ⟨_,this.1,this.2,hu.1,hu.2.ext hext⟩
  ·obtain ⟨g',h3,h4⟩:=h.vars id cs' h2
   refine ⟨g',by simp [newGv,Nat.ne_of_lt h1,h3],fun k c hk=>?_⟩
   obtain ⟨u,h5,h6,h7,h8⟩:=h4 k c hk
   exact ⟨u,h5,h6,h7,h8.ext hext⟩
 ·intro id g' hg'
  simp only [newGv] at hg'
  by_cases hid:id=st.vars.length
  ·subst hid
   exact ⟨cs,by simp [var_eq]⟩
  ·simp only [hid,if_false] at hg'
   obtain ⟨cs',h1⟩:=h.varN id g' hg'
   exact ⟨cs',hvar' _ _ h1⟩
 ·intro id p b hb
  have:=h.oO id p b hb
  simp [newOV,hne _ _ this,this]
 ·intro id g' hg'
  simp only [newGv] at hg'
  by_cases hid:id=st.vars.length
  ·simp only [hid,if_true] at hg' ⊢
   simp at hg'
   simp [newOV,hg']
  ·simp only [hid,if_false] at hg'
   have:=h.oV id g' hg'
   simp [newOV,hne _ _ this,this]
 ·intro b hb
  have:b≠g:=fun e=>hFg (e ▸ hb)
  simp [newOV,this,h.oF b hb]
 ·intro b x hx
  simp only [newOV] at hx
  by_cases hb:b=g
  ·subst hb;exact ⟨hA,hgs⟩
  ·simp only [hb,if_false] at hx;exact h.oA b x hx
class NewOk (o:Obj):Prop where
 ok:∀ c e lo hi,o=.cells c e (lo,hi)→lo=hi∨c.size≤lo
instance (c:Array Value) (e:TypeId):NewOk (.cells c e):=⟨fun c' e' lo hi h=>.inl (by cases h;rfl)⟩
theorem FrOk.alloc {w:World} {o:Obj} (ho:NewOk o) (b:Nat) (hb:w.heap.size≤b∨FrOk w b):FrOk (w.alloc o) b:=by
 by_cases h1:b < w.heap.size
 ·exact (FrOk.get hb).of_heap (heap_alloc_old w o h1)
 ·by_cases h2:b=w.heap.size
  ·subst h2
   intro c e lo hi h
   have:(w.alloc o).heap[w.heap.size]? = some o:=by show (w.heap.push o)[w.heap.size]? = some o;simp
   rw [this] at h
   exact ho.ok c e lo hi (by simpa using h)
  ·exact FrOk.big (by rw [World.size_alloc];omega)
theorem Step.alloc (A:Nat→Prop) (w:World) (o:Obj) [ho:NewOk o]:Step A w (w.alloc o):=
 ⟨by simp,fun b hb _=>heap_alloc_old w o hb,rfl,rfl,rfl,fun b hb=>FrOk.alloc ho b hb⟩
theorem Same.alloc {w:World} (o:Obj) {b:Nat} (hb:b < w.heap.size):Same w (w.alloc o) b:=
 Same.of_heap (heap_alloc_old w o hb)
theorem Step.drew (A:Nat→Prop) (w:World):Step A w w.drew:=⟨Nat.le_refl _,fun _ _ _=>rfl,rfl,rfl,rfl,fun _ hb=>FrOk.get (w:=w) hb⟩
theorem Same.drew (w:World) (b:Nat):Same w w.drew b:=fun _=>⟨rfl,fun _=>rfl⟩
theorem Rel.free (h:Rel A pin w F O Go Gv st tm) {g:Nat} (hg:w.heap.size≤g):O g=none∧¬ F g∧A g:=by
 refine ⟨?_,fun hf=>by have:=h.fS g hf;omega,h.aN g hg⟩
 cases hO:O g with
 | none=>rfl
 | some x=>have:=(h.oA g x hO).2;omega
theorem Rel.alloc (h:Rel A pin w F O Go Gv st tm) (o:Obj) [ho:NewOk o]:Rel A pin (w.alloc o) F O Go Gv st tm:=
 h.world (Step.alloc A w o) (fun b x hx=>Same.alloc o (h.oA b x hx).2) (fun b hb=>Same.alloc o (h.fS b hb))
theorem Rel.drew (h:Rel A pin w F O Go Gv st tm):Rel A pin w.drew F O Go Gv st tm:=
 h.world (Step.drew A w) (fun b _ _=>Same.drew w b) (fun b _=>Same.drew w b)
theorem cell_alloc_new (w:World) (cs:Array Value) (e:TypeId) (k:Nat):(w.alloc (.cells cs e)).cell? ⟨w.heap.size,k,none⟩=cs[k]?:=World.cell?_alloc_new w cs e k
theorem frozen_alloc_new (w:World) (cs:Array Value) (e:TypeId) (k:Nat):(w.alloc (.cells cs e)).frozen? ⟨w.heap.size,k,none⟩=false:=World.frozen?_alloc_new w cs e k
theorem Rel.pushVar (h:Rel A pin w F O Go Gv st tm) {vs:Array Value} {cs:List C} (e:TypeId) (hcs:CsRel w F Go Gv st vs.toList cs) :
  ∃ O' Gv',Rel A pin (w.alloc (.cells vs e)) F O' Go Gv' { st with vars:=st.vars++[some cs] } tm∧VRel { st with vars:=st.vars++[some cs] } Gv' st.vars.length 0 (.pointer (some ⟨w.heap.size,0,none⟩)):=by
 obtain ⟨h1,h2,h3⟩:=h.free (Nat.le_refl _)
 have h':=h.alloc (.cells vs e)
 have hext:Ext w (w.alloc (.cells vs e)) F F Go Go Gv Gv st st:=⟨fun b hb=>Same.alloc _ (h.fS b hb),fun _ h=>h,Nat.le_refl _,Nat.le_refl _,fun id _ o' h=>⟨o',h,rfl,rfl⟩,fun id _ cs h=>⟨⟨cs,h⟩,rfl⟩⟩
 refine ⟨_,_,h'.newVar (g:=w.heap.size) (vs:=vs.toList) h1 h2 h3 (by simp) (fun k u hk=>?_) (hcs.ext hext),?_⟩
 ·exact ⟨(cell_alloc_new w vs e k).trans (by simpa using hk),frozen_alloc_new w vs e k⟩
 ·exact ⟨by simp,fun cs' _=>⟨w.heap.size,by simp [newGv],rfl⟩⟩
theorem Rel.newNil (h:Rel A pin w F O Go Gv st tm) (p:List OT) :
  Rel A pin w F (newO O [] st.objs.length fun _=>none) (newGo Go [] st.objs.length fun _=>none) Gv { st with objs:=st.objs++[some ⟨p,[]⟩] } tm:=
 h.newObj (Step.refl A w) (us:=[]) (fun b _ _ _=>Same.refl w b) (fun b _=>Same.refl w b) (Own.nil (p:=p) rfl) (fun _ _ hb=>by simp at hb) (fun _ _ _ _ hb=>by simp at hb)
theorem Ext.newNil (st:St) (w:World) (F:Nat→Prop) (Go:Nat→Gh) (Gv:Nat→Option Nat) (p:List OT) :
  Ext w w F F Go (newGo Go [] st.objs.length fun _=>none) Gv Gv st { st with objs:=st.objs++[some ⟨p,[]⟩] }:=by
 refine ⟨fun b _=>Same.refl w b,fun _ h=>h,by simp,Nat.le_refl _,fun id hid o' ho'=>?_,fun id _ cs h=>⟨⟨cs,h⟩,rfl⟩⟩
 simp only [obj_eq,List.getElem?_append,hid,if_true] at ho'
 exact ⟨o',ho',rfl,by simp [newGo,Nat.ne_of_lt hid]⟩
def iniV:Ini→Value
 | .k v=>v
 | .o _=>.slice none 0 0
theorem Rel.iniC:∀ (is:List Ini) {O:Nat→Option Ow} {Go:Nat→Gh} {st:St},Rel A pin w F O Go Gv st tm→is.all iniOk=true→
  ∃ O' Go',Rel A pin w F O' Go' Gv { st with objs:=(iniC st.objs is).2 } tm∧Ext w w F F Go Go' Gv Gv st { st with objs:=(iniC st.objs is).2 }∧
   CsRel w F Go' Gv { st with objs:=(iniC st.objs is).2 } (is.map iniV) (iniC st.objs is).1
 | [],O,Go,st,h,_=>⟨O,Go,h,⟨fun b _=>Same.refl w b,fun _ h=>h,Nat.le_refl _,Nat.le_refl _,fun id _ o' h=>⟨o',h,rfl,rfl⟩,fun id _ cs h=>⟨⟨cs,h⟩,rfl⟩⟩,rfl,by simp⟩
 | .k v::is,O,Go,st,h,hk=>by
  simp only [List.all_cons,Bool.and_eq_true] at hk
  obtain ⟨O',Go',h1,h2,h3⟩:=Rel.iniC is h hk.2
  refine ⟨O',Go',h1,h2,by simp [V.iniC,h3.1],fun k u c hu hc=>?_⟩
  cases k with
  | zero=>
   simp [V.iniC,iniV] at hu hc
   subst hu;subst hc
   have:=hk.1
   simp only [iniOk] at this
   exact ⟨by cases v <;> simp_all [isLit,Value.oneCell'],rfl⟩
  | succ k=>exact h3.2 k u c (by simpa using hu) (by simpa [V.iniC] using hc)
 | .o p::is,O,Go,st,h,hk=>by
  simp only [List.all_cons,Bool.and_eq_true] at hk
  obtain ⟨O',Go',h1,h2,h3⟩:=Rel.iniC is (h.newNil p) hk.2
  simp only at h1 h2 h3
  have e0:=Ext.newNil st w F Go Gv p
  have hn:st.objs.length < (st.objs++[some (⟨p,[]⟩:Ob)]).length:=by simp
  refine ⟨O',Go',h1,?_,by simp [V.iniC,h3.1],fun k u c hu hc=>?_⟩
  ·refine ⟨fun b _=>Same.refl w b,fun _ h=>h,Nat.le_trans e0.ol h2.ol,Nat.le_refl _,fun id hid o' ho'=>?_,fun id _ cs h=>⟨⟨cs,h⟩,rfl⟩⟩
   obtain ⟨o1,a1,a2,a3⟩:=h2.obj id (Nat.lt_of_lt_of_le hid e0.ol) o' ho'
   obtain ⟨o2,b1,b2,b3⟩:=e0.obj id hid o1 a1
   exact ⟨o2,b1,a2.trans b2,a3.trans b3⟩
  ·cases k with
   | zero=>
    simp [V.iniC,iniV] at hu hc
    subst hu;subst hc
    refine ⟨rfl,Nat.lt_of_lt_of_le hn h2.ol,fun o' ho'=>?_⟩
    obtain ⟨o1,a1,a2,a3⟩:=h2.obj st.objs.length hn o' ho'
    rw [a3]
    simp [newGo]
   | succ k=>exact h3.2 k u c (by simpa using hu) (by simpa [V.iniC] using hc)
theorem addr_add (g o k:Nat):(⟨g,o,none⟩:Addr).add k=⟨g,o+k,none⟩:=by
 unfold Addr.add
 split
 ·rename_i h;subst h;simp
 ·rfl
theorem run_load_cells {t:TypeId} {n:Nat} {agg:Bool} (hn:sizeIs P t n=true) (ha:underIs P t (fun d=>isAggD d==agg)=true) (h1:agg=true∨n=1) {g o:Nat} {vs:List Value} (hl:vs.length=n)
  (hv:∀ (k:Nat) (u:Value),vs[k]? = some u→w.cell? ⟨g,o+k,none⟩=some u) :
  (Instr.loadAt t (.pointer (some ⟨g,o,none⟩))).run P w=.ok (if agg then .agg vs.toArray else vs.headD undef) w:=by
 simp only [Instr.loadAt,Instr.sureAddr,Sem.run_bind,Sem.run_pure,Result.andThen_ok,loadVar,run_isAgg ha]
 cases agg with
 | true=>
  simp only [if_true,Sem.run_bind,run_sizeOf hn,Result.andThen_ok]
  subst hl
  rw [run_loadCells_list w ⟨g,o,none⟩ vs (fun j v h=>by rw [addr_add];exact hv j v h)]
  rfl
 | false=>
  simp at h1
  subst h1
  match vs,hl with
  | [u],_=>
   have:=hv 0 u rfl
   simp only [Nat.add_zero] at this
   simp [run_load,this]
end
end Go.Proofs.V

namespace Go.Proofs.V
open Go
variable {P:Program}
theorem list_of {α:Type} {Q:Nat→α→Prop} : ∀ (n:Nat),(∀ k,k < n→∃ u,Q k u)→∃ vs:List α,vs.length=n∧∀ (k:Nat) (u:α),vs[k]? = some u→Q k u
 | 0,_=>⟨[],rfl,by simp⟩
 | n+1,h=>by
  obtain ⟨vs,h1,h2⟩:=list_of n (fun k hk=>h k (by omega))
  obtain ⟨u,hu⟩:=h n (by omega)
  refine ⟨vs++[u],by simp [h1],fun k u' hk=>?_⟩
  rw [List.getElem?_append] at hk
  split at hk
  ·exact h2 k u' hk
  ·rename_i hlt
   have:k=n:=by
    have:=(List.getElem?_eq_some_iff.1 hk).1
    simp at this
    omega
   subst this
   simp [h1] at hk
   subst hk
   exact hu
theorem roCs_get:∀ (p:List OT) (cs:List T) (k:Nat) (c:C),(roCs p cs)[k]? = some c→∃ q x,p[k]? = some q∧cs[k]? = some x∧c=roC q x
 | [],cs,k,c,h=>by simp [roCs] at h
 | _::_,[],k,c,h=>by simp [roCs] at h
 | o::p,x::cs,0,c,h=>by simp [roCs] at h;exact ⟨o,x,rfl,rfl,h.symm⟩
 | o::p,x::cs,k+1,c,h=>by
  simp [roCs] at h
  obtain ⟨q,y,h1,h2,h3⟩:=roCs_get p cs k c h
  exact ⟨q,y,by simpa using h1,by simpa using h2,h3⟩
theorem roCs_le:∀ (p:List OT) (cs:List T),(roCs p cs).length=min p.length cs.length
 | [],_=>by simp [roCs]
 | _::_,[]=>by simp [roCs]
 | o::p,x::cs=>by simp [roCs,roCs_le p cs]
theorem rdCs_get (id:Nat) (pp:Pth) (i:Nat):∀ (p:List OT) (cs:List T) (j k:Nat) (c:C),(rdCs id pp i j p cs)[k]? = some c→∃ q x,p[k]? = some q∧cs[k]? = some x∧c=rdC id pp i (j+k) q x
 | [],cs,j,k,c,h=>by simp [rdCs] at h
 | _::_,[],j,k,c,h=>by simp [rdCs] at h
 | o::p,x::cs,j,0,c,h=>by simp [rdCs] at h;exact ⟨o,x,rfl,rfl,h.symm⟩
 | o::p,x::cs,j,k+1,c,h=>by
  simp [rdCs] at h
  obtain ⟨q,y,h1,h2,h3⟩:=rdCs_get id pp i p cs (j+1) k c h
  exact ⟨q,y,by simpa using h1,by simpa using h2,by rw [h3,show j+1+k=j+(k+1) by omega]⟩
section
variable {A:Nat→Prop} {pin:List (Nat×Value)} {w w' : World} {F:Nat→Prop} {O:Nat→Option Ow} {Go:Nat→Gh} {Gv:Nat→Option Nat} {st:St} {tm:Array Value}
theorem Rd.one {q:OT} {u:Value} {x:T} (h:Rd w F q u x):u.oneCell' = true:=by
 cases h with
 | sc h=>cases u <;> simp_all [isLit,Value.oneCell']
 | emp h=>rfl
 | sl _ _ _ _ _ _ _=>rfl
 | hole h=>exact h
 | full h=>cases h <;> rfl
theorem roC_rel {q:OT} {u:Value} {x:T} (h:Rd w F q u x):CRel w F Go Gv st u (roC q x):=by
 cases h with
 | sc h=>exact rfl
 | emp h=>exact Rd.emp h
 | sl us a b c d e f=>exact Rd.sl us a b c d e f
 | hole h=>trivial
 | full h=>cases h <;> trivial
theorem rdC_rel {id:Nat} {p:Pth} {i j:Nat} (hid:id < st.objs.length) {q:OT} {u:Value} {x:T} (h:Own w F (fun r=>Go id (p++(i,j)::r)) q u x):CRel w F Go Gv st u (rdC id p i j q x):=by
 generalize hG:(fun r=>Go id (p++(i,j)::r))=G at h
 cases h with
 | sc h=>exact rfl
 | ro h=>cases h with
  | emp h=>exact Rd.emp h
  | sl us a b c d e f=>exact Rd.sl us a b c d e f
 | nil h=>
  subst hG
  refine ⟨hid,fun o _=>?_⟩
  have:Go id (p++[(i,j)])=none:=h
  simp [this]
 | sl us hG0 hcap hm _ _ _ _ _=>
  subst hG
  refine ⟨hid,fun o _=>?_⟩
  have h0:Go id (p++[(i,j)])=_:=hG0
  simp only [h0]
  exact .inl ⟨by first | trivial | rfl,by first | trivial | rfl,hcap⟩
 | hole h=>trivial
 | full h=>cases h <;> trivial
theorem agg_put {n d:Nat} {agg:Bool} {vs:List Value} {cs:List C} (h:Rel A pin w F O Go Gv st tm) (hd:∀ x,(d,x) ∉ pin) (h1:agg=true∨n=1) (hl:vs.length=n) (hcs:CsRel w F Go Gv st vs cs) :
  Rel A pin w F O Go Gv (st.set d (.v agg cs)) (tm.setIfInBounds d (if agg then .agg vs.toArray else vs.headD undef)):=by
 refine h.put ?_ hd
 cases agg with
 | true=>exact ⟨vs.toArray,rfl,by simpa using hcs⟩
 | false=>
  simp at h1
  subst h1
  match vs,hl,cs,hcs with
  | [u],_,[c],hcs=>
   have:=hcs.2 0 u c rfl rfl
   exact ⟨c,rfl,.inl this.1,this.2⟩
  | [u],_,[],hcs=>exact absurd hcs.1 (by simp)
  | [u],_,_::_::_,hcs=>exact absurd hcs.1 (by simp)
theorem sound_load (h:Rel A pin w F O Go Gv st tm) {x:Opd} {y:Operand} (hxy:opdIs x y=true) {d n:Nat} {agg:Bool} {st' : St} (hv:vload st d x n agg=some st') {t:TypeId}
  (hn:sizeIs P t n=true) (ha:underIs P t (fun d=>isAggD d==agg)=true) (h1:agg=true∨n=1) (hd:∀ x,(d,x) ∉ pin) (ds:List Deferred) :
  ∃ v,(Instr.loadAt t ((Act.mk tm ds).eval y)).run P w=.ok v w∧Rel A pin w F O Go Gv st' (tm.setIfInBounds d v):=by
 unfold vload at hv
 simp only at hv
 split at hv
 ·
  rename_i p cs hc
  obtain ⟨⟨g,o,h2,h3,h4,h5⟩,_⟩:=h.cell hxy hc ds
  split at hv
  ·rename_i hlen
   simp at hv
   subst hv
   rw [h2]
   have hlen' : n≤cs.length∧n≤p.length:=by
    have:=roCs_le p cs
    simp at hlen
    omega
   obtain ⟨vs,h6,h7⟩:=list_of (Q:=fun k u=>w.cell? ⟨g,o+k,none⟩=some u∧∀ x q,cs[k]? = some x→p[k]? = some q→Rd w F q u x) n (fun k hk=>by
    have hk1:k < cs.length:=by omega
    have hk2:k < p.length:=by omega
    obtain ⟨u,h8,h9⟩:=h5 k cs[k] p[k] (by simp [hk1]) (by simp [hk2])
    exact ⟨u,h8,fun x q a b=>by simp [hk1] at a;simp [hk2] at b;subst a;subst b;exact h9⟩)
   refine ⟨_,run_load_cells hn ha h1 h6 (fun k u hk=>(h7 k u hk).1),agg_put h hd h1 h6 ⟨by rw [h6,hlen],fun k u c hu hc=>?_⟩⟩
   rw [List.getElem?_take] at hc
   split at hc
   ·obtain ⟨q,x,a1,a2,rfl⟩:=roCs_get p cs k c hc
    have:=(h7 k u hu).2 x q a2 a1
    exact ⟨this.one,roC_rel this⟩
   ·simp at hc
  ·simp at hv
 ·
  rename_i id p i j hc
  obtain ⟨hr,_⟩:=h.cell hxy hc ds
  split at hv
  ·rename_i ob hob
   split at hv
   ·rename_i ot es hsub
    split at hv
    ·rename_i row hrow
     split at hv
     ·rename_i hlen
      simp at hv
      subst hv
      obtain ⟨b,ot',h2,h3,h4⟩:=hr.2 ob hob
      rw [subOT_of_subEs hsub] at h3
      simp at h3
      subst h3
      obtain ⟨v0,hv0⟩:=h.objs id ob hob
      obtain ⟨v',hv'⟩:=hv0.at p hsub
      rw [h4]
      generalize ht:T.sl es=t at hv'
      cases hv' with
      | nil _=>simp at ht;subst ht;simp at hrow
      | @sl G pp g cap es' us hG0 hcap hm hrow' hcc hf hcell hsubs=>
       simp at ht
       subst ht
       simp [h2] at hG0
       subst hG0
       have hi:i < es.length:=(List.getElem?_eq_some_iff.1 hrow).1
       have hrl:=hrow' i row hrow
       have hl2:(rdCs id p i j (ot.drop j) (row.drop j)).length=min (ot.length - j) (row.length - j):=by
        have:∀ (a:List OT) (b:List T) (j:Nat),(rdCs id p i j a b).length=min a.length b.length:=by
         intro a
         induction a with
         | nil=>intro b j;simp [rdCs]
         | cons q a ih=>intro b j;cases b <;> simp [rdCs,ih]
        rw [this];simp
       simp [hl2] at hlen
       obtain ⟨vs,h6,h7⟩:=list_of (Q:=fun k u=>u=us i (j+k)) n (fun k _=>⟨_,rfl⟩)
       refine ⟨_,run_load_cells hn ha h1 h6 (fun k u hk=>?_),agg_put h hd h1 h6 ⟨by rw [h6];simp [hl2];omega,fun k u c hu hc=>?_⟩⟩
       ·have hk' : k < n:=by rw [←h6];exact (List.getElem?_eq_some_iff.1 hk).1
        rw [h7 k u hk,Nat.add_assoc]
        exact hcell i (j+k) hi (by omega)
       ·rw [List.getElem?_take] at hc
        split at hc
        ·obtain ⟨q,x,a1,a2,rfl⟩:=rdCs_get _ _ _ _ _ _ _ _ hc
         rw [List.getElem?_drop] at a1 a2
         have:=hsubs i (j+k) row x q hrow a2 a1
         rw [h7 k u hu]
         exact ⟨this.one,rdC_rel (obj_lt hob) this⟩
        ·simp at hc
     ·simp at hv
    ·simp at hv
   ·simp at hv
  ·simp at hv
 ·
  rename_i id j hc
  obtain ⟨hr,_⟩:=h.cell hxy hc ds
  split at hv
  ·rename_i cs hcs
   split at hv
   ·rename_i hlen
    simp at hv
    subst hv
    obtain ⟨g,h2,h3⟩:=hr.2 cs hcs
    obtain ⟨g',h4,h5⟩:=h.vars id cs hcs
    rw [h2] at h4
    simp at h4
    subst h4
    rw [h3]
    simp at hlen
    obtain ⟨vs,h6,h7⟩:=list_of (Q:=fun k u=>w.cell? ⟨g,j+k,none⟩=some u∧∀ c,cs[j+k]? = some c→u.oneCell' = true∧CRel w F Go Gv st u c) n (fun k hk=>by
     have hk1:j+k < cs.length:=by omega
     obtain ⟨u,a1,_,a3,a4⟩:=h5 (j+k) cs[j+k] (by simp [hk1])
     exact ⟨u,a1,fun c hc=>by simp [hk1] at hc;subst hc;exact ⟨a3,a4⟩⟩)
    refine ⟨_,run_load_cells hn ha h1 h6 (fun k u hk=>(h7 k u hk).1),agg_put h hd h1 h6 ⟨by rw [h6];simp;omega,fun k u c hu hc=>?_⟩⟩
    rw [List.getElem?_take] at hc
    split at hc
    ·rw [List.getElem?_drop] at hc
     exact (h7 k u hu).2 c hc
    ·simp at hc
   ·simp at hv
  ·simp at hv
 ·simp at hv
end
end Go.Proofs.V

set_option linter.unusedSimpArgs false
set_option linter.unusedVariables false
namespace Go.Proofs.V
open Go
variable {P:Program}
theorem cell_setCell (w:World) (g k o:Nat) (u:Value) (hk:∃ x,w.cell? ⟨g,k,none⟩=some x):(w.setCell ⟨g,k,none⟩ u).cell? ⟨g,o,none⟩=if o=k then some u else w.cell? ⟨g,o,none⟩:=by
 by_cases h:o=k
 ·subst h
  obtain ⟨x,hx⟩:=hk
  simp [World.cell?_setCell_same w _ u hx]
 ·simp only [h,if_false]
  exact World.cell?_setCell_other w _ _ u (fun e=>h (by cases e;rfl))
theorem heap_setCell (w:World) (g k:Nat) (u:Value) {b:Nat} (hb:b≠g):(w.setCell ⟨g,k,none⟩ u).heap[b]? = w.heap[b]?:=by
 simp only [World.setCell,Array.getElem?_modify]
 simp [Ne.symm hb]
theorem Same.setCell (w:World) (g k:Nat) (u:Value) {b:Nat} (hb:b≠g):Same w (w.setCell ⟨g,k,none⟩ u) b:=Same.of_heap (heap_setCell w g k u hb)
theorem FrOk.setCell (w:World) (g k:Nat) (u:Value) (b:Nat) (h:FrOk w b):FrOk (w.setCell ⟨g,k,none⟩ u) b:=by
 by_cases hb:b=g
 ·subst hb
  intro c e lo hi hc
  simp only [World.setCell,Array.getElem?_modify,if_true,Option.map_eq_some_iff] at hc
  obtain ⟨o,h1,h2⟩:=hc
  split at h2
  ·rename_i c0 e0 f0
   simp at h2
   obtain ⟨rfl,rfl,rfl⟩:=h2
   simpa using h _ _ lo hi h1
  ·subst h2;simp at *
 ·exact h.of_heap (heap_setCell w g k u hb)
theorem Step.setCell {A:Nat→Prop} (w:World) {g:Nat} (k:Nat) (u:Value) (hA:A g):Step A w (w.setCell ⟨g,k,none⟩ u):=
 ⟨by simp,fun b _ hb=>heap_setCell w g k u (fun e=>hb (e ▸ hA)),rfl,rfl,rfl,fun b hb=>FrOk.setCell w g k u b (FrOk.get hb)⟩
section
variable {A:Nat→Prop} {pin:List (Nat×Value)} {w w' : World} {F F' : Nat→Prop} {O:Nat→Option Ow} {Go:Nat→Gh} {Gv:Nat→Option Nat} {st:St} {tm:Array Value}
theorem Rel.setVar (h:Rel A pin w F O Go Gv st tm) {id g k:Nat} {old:List C} (hold:st.var id=some old) (hg:Gv id=some g) (hk:k < old.length) {u:Value} {c:C} (hu:u.oneCell' = true) (hc:CRel w F Go Gv st u c) :
  Rel A pin (w.setCell ⟨g,k,none⟩ u) F O Go Gv { st with vars:=st.vars.set id (some (old.set k c)) } tm:=by
 have hOg:=h.oV id g hg
 have hsame:∀ b x,O b=some x→x≠.var id→Same w (w.setCell ⟨g,k,none⟩ u) b:=fun b x hx hne=>Same.setCell w g k u (fun e=>by subst e;rw [hOg] at hx;simp at hx;exact hne hx.symm)
 have hF:∀ b,F b→Same w (w.setCell ⟨g,k,none⟩ u) b:=fun b hb=>Same.setCell w g k u (fun e=>by subst e;have:=h.oF _ hb;rw [hOg] at this;simp at this)
 have hvar:∀ i cs',St.var { st with vars:=st.vars.set id (some (old.set k c)) } i=some cs'→(i=id∧cs' = old.set k c)∨(i≠id∧st.var i=some cs'):=by
  intro i cs' h1
  simp only [var_eq,List.getElem?_set] at h1
  by_cases hi:id=i
  ·subst hi
   simp only [if_true] at h1
   split at h1
   ·simp at h1;exact .inl ⟨rfl,h1.symm⟩
   ·simp at h1
  ·simp only [hi,if_false] at h1
   exact .inr ⟨Ne.symm hi,h1⟩
 have hext:Ext w (w.setCell ⟨g,k,none⟩ u) F F Go Go Gv Gv st { st with vars:=st.vars.set id (some (old.set k c)) }:=by
  refine ⟨hF,fun _ h=>h,Nat.le_refl _,by simp,fun id _ o' h=>⟨o',h,rfl,rfl⟩,fun i _ cs' hcs'=>?_⟩
  rcases hvar i cs' hcs' with ⟨rfl,_⟩|⟨_,h1⟩
  ·exact ⟨⟨old,hold⟩,rfl⟩
  ·exact ⟨⟨cs',h1⟩,rfl⟩
 obtain ⟨g',h1,h2⟩:=h.vars id old hold
 rw [hg] at h1
 simp at h1
 subst h1
 have hcell:∃ x,w.cell? ⟨g,k,none⟩=some x:=by
  obtain ⟨x,hx,_⟩:=h2 k old[k] (by simp [hk])
  exact ⟨x,hx⟩
 refine ⟨h.size,fun k v s h1 h2=>(h.slots k v s h1 h2).ext hext,?_,h.objN,?_,?_,h.oO,h.oV,h.oF,fun b x hx=>⟨(h.oA b x hx).1,by simpa using (h.oA b x hx).2⟩,
  fun b hb=>by simpa using h.fS b hb,fun b hb=>h.aN b (by simpa using hb),h.pinned⟩
 ·intro i o ho
  obtain ⟨v,hv⟩:=h.objs i o ho
  exact ⟨v,hv.keep hF (fun _ h=>h) (fun _=>rfl) (fun r b hb=>hsame _ _ (h.oO _ _ _ hb) (by simp))⟩
 ·intro i cs' hcs'
  rcases hvar i cs' hcs' with ⟨rfl,rfl⟩|⟨hne,h3⟩
  ·refine ⟨g,hg,fun k' c' hk'=>?_⟩
   rw [cell_setCell w g k k' u hcell]
   rw [List.getElem?_set] at hk'
   by_cases hkk:k' = k
   ·subst hkk
    simp [hk] at hk'
    subst hk'
    obtain ⟨x,_,hx2,_⟩:=h2 k' old[k'] (by simp [hk])
    exact ⟨u,by simp,by simpa using hx2,hu,hc.ext hext⟩
   ·simp only [Ne.symm hkk,if_false] at hk'
    obtain ⟨x,hx1,hx2,hx3,hx4⟩:=h2 k' c' hk'
    exact ⟨x,by simp [hkk,hx1],by simpa using hx2,hx3,hx4.ext hext⟩
  ·obtain ⟨g',h4,h5⟩:=h.vars i cs' h3
   refine ⟨g',h4,fun k' c' hk'=>?_⟩
   obtain ⟨x,hx1,hx2,hx3,hx4⟩:=h5 k' c' hk'
   have hs:=hsame g' _ (h.oV _ _ h4) (by simp;exact hne)
   exact ⟨x,(hs _).1.trans hx1,((hs _).2 ⟨x,hx1⟩).trans hx2,hx3,hx4.ext hext⟩
 ·intro i g' hg'
  obtain ⟨cs',h3⟩:=h.varN i g' hg'
  by_cases hi:i=id
  ·subst hi
   exact ⟨old.set k c,by simp [var_eq,var_lt hold]⟩
  ·exact ⟨cs',by simp only [var_eq,List.getElem?_set,Ne.symm hi,if_false];exact h3⟩
theorem Rel.setVars:∀ (vs:List Value) (cs:List C) {w:World} {st:St} {id g k:Nat} {old:List C},Rel A pin w F O Go Gv st tm→st.var id=some old→Gv id=some g→k+cs.length≤old.length→CsRel w F Go Gv st vs cs→
  Rel A pin (w.setCells g k vs) F O Go Gv { st with vars:=st.vars.set id (some (overC old k cs)) } tm
 | [],[],w,st,id,g,k,old,h,hold,hg,_,_=>by
  simp only [World.setCells,overC]
  have:st.vars.set id (some old)=st.vars:=by
   apply List.ext_getElem?
   intro i
   rw [List.getElem?_set]
   split
   ·rename_i hi
    subst hi
    have hl:=var_lt hold
    simp only [hl,if_true]
    simp only [var_eq,Option.bind_eq_some_iff] at hold
    obtain ⟨x,hx,rfl⟩:=hold
    exact hx.symm
   ·rfl
  rw [this]
  exact h
 | [],c::cs,_,_,_,_,_,_,_,_,_,_,hc=>absurd hc.1 (by simp)
 | v::vs,[],_,_,_,_,_,_,_,_,_,_,hc=>absurd hc.1 (by simp)
 | v::vs,c::cs,w,st,id,g,k,old,h,hold,hg,hk,hc=>by
  simp at hk
  have h0:=hc.2 0 v c rfl rfl
  have h1:=h.setVar hold hg (k:=k) (by omega) h0.1 h0.2
  have hl:=var_lt hold
  have hold' : St.var { st with vars:=st.vars.set id (some (old.set k c)) } id=some (old.set k c):=by simp [var_eq,hl]
  have hOg:=h.oV id g hg
  have hcs:CsRel (w.setCell ⟨g,k,none⟩ v) F Go Gv { st with vars:=st.vars.set id (some (old.set k c)) } vs cs:=by
   refine ⟨by have:=hc.1;simpa using this,fun k' u' c' a b=>?_⟩
   have:=hc.2 (k' + 1) u' c' (by simpa using a) (by simpa using b)
   refine ⟨this.1,CRel.ext (st:=st) (st':={ st with vars:=st.vars.set id (some (old.set k c)) }) ⟨fun b hb=>Same.setCell w g k v (fun e=>by subst e;have:=h.oF _ hb;rw [hOg] at this;simp at this),fun _ h=>h,Nat.le_refl _,by simp,fun id _ o' h=>⟨o',h,rfl,rfl⟩,fun i _ cs' h=>⟨?_,rfl⟩⟩ this.2⟩
   by_cases hi:i=id
   ·subst hi;exact ⟨old,hold⟩
   ·simp only [var_eq,List.getElem?_set,Ne.symm hi,if_false] at h;exact ⟨cs',h⟩
  have:=Rel.setVars vs cs (k:=k+1) h1 hold' hg (by simp;omega) hcs
  simp only [List.set_set] at this
  exact this
theorem overC_length:∀ (cs:List C) (old:List C) (k:Nat),(overC old k cs).length=old.length
 | [],_,_=>rfl
 | c::cs,old,k=>by simp [overC,overC_length cs]
def subG (G:Gh) (q:Pth) (Gx:Gh):Gh:=fun s=>if q <+: s then Gx (s.drop q.length) else G s
theorem not_prefix_ne {a b:Nat×Nat} (h:a≠b) (q x:Pth) : ¬ (a::q <+: b::x):=by simp [h]
theorem Own.set (hF:∀ b,F b→Same w w' b) (hFF:∀ b,F b→F' b):∀ (p:Pth) {G G' : Gh} {ot0 ot:List OT} {es0 es es' : List (List T)} {v:Value} {i j:Nat} {row:List T} {x:T} {oc:OT} {u:Value} {bk:Bk},
  Own w F G (.own ot0) v (.sl es0)→subEs ot0 es0 p=some (ot,es)→es[i]? = some row→j < row.length→ot[j]? = some oc→updEs ot0 es0 p (es.set i (row.set j x))=some es'→G p=some bk→
  (∀ q b,G q=some b→q≠p→¬ (p++[(i,j)] <+: q)→Same w w' b.g)→
  (∀ o,w'.cell? ⟨bk.g,o,none⟩=(if o=i*ot.length+j then some u else w.cell? ⟨bk.g,o,none⟩)∧w'.frozen? ⟨bk.g,o,none⟩=w.frozen? ⟨bk.g,o,none⟩)→
  (∀ q,¬ (p++[(i,j)] <+: q)→G' q=G q)→Own w' F' (fun r=>G' (p++(i,j)::r)) oc u x→Own w' F' G' (.own ot0) v (.sl es')
 | [],G,G',ot0,ot,es0,es,es',v,i,j,row,x,oc,u,bk,h,hs,hrow,hj,hoc,hup,hbk,hsame,hcell,hG,hx=>by
  simp [subEs] at hs
  obtain ⟨rfl,rfl⟩:=hs
  simp [updEs] at hup
  subst hup
  cases h with
  | nil hG0=>simp at hrow
  | @sl G p g cap es us hG0 hcap hm hrow' hcc hf hcell' hsubs=>
   rw [hG0] at hbk
   simp at hbk
   subst hbk
   have hi:i < es0.length:=(List.getElem?_eq_some_iff.1 hrow).1
   have hrl:=hrow' i row hrow
   have hlen:(es0.set i (row.set j x)).length=es0.length:=by simp
   have key:∀ a b,a < es0.length→b < ot0.length→(a*ot0.length+b=i*ot0.length+j↔a=i∧b=j):=by
    intro a b _ hb
    constructor
    ·intro e
     have hj' : j < ot0.length:=by omega
     have ha:a=i:=by
      rcases Nat.lt_trichotomy a i with hlt | heq | hgt
      ·have:(a+1)*ot0.length≤i*ot0.length:=Nat.mul_le_mul_right _ hlt
       rw [Nat.add_mul] at this
       omega
      ·exact heq
      ·have:(i+1)*ot0.length≤a*ot0.length:=Nat.mul_le_mul_right _ hgt
       rw [Nat.add_mul] at this
       omega
     subst ha
     exact ⟨rfl,by omega⟩
    ·rintro ⟨rfl,rfl⟩;rfl
   have:=Own.sl (w:=w') (F:=F') (G:=G') (p:=ot0) (g:=g) (cap:=cap) (es:=es0.set i (row.set j x)) (fun a b=>if a=i∧b=j then u else us a b)
    ((hG [] (by simp)).trans hG0) (by rw [hlen];exact hcap) hm ?_ ?_ ?_ ?_ ?_
   ·rwa [hlen] at this
   ·intro a r ha
    rw [List.getElem?_set] at ha
    split at ha
    ·simp [hi] at ha
     subst ha
     simpa using hrl
    ·exact hrow' a r ha
   ·intro k hk
    obtain ⟨y,hy⟩:=hcc k hk
    rw [(hcell k).1]
    split
    ·exact ⟨u,rfl⟩
    ·exact ⟨y,hy⟩
   ·intro k hk
    rw [(hcell k).2]
    exact hf k hk
   ·intro a b ha hb
    rw [hlen] at ha
    rw [(hcell _).1]
    by_cases e:a=i∧b=j
    ·simp [(key a b ha hb).2 e,e]
    ·have : ¬ (a*ot0.length+b=i*ot0.length+j):=fun h=>e ((key a b ha hb).1 h)
     simp only [this,e,if_false]
     exact hcell' a b ha hb
   ·intro a b r y q ha hb hq
    by_cases e:a=i∧b=j
    ·obtain ⟨rfl,rfl⟩:=e
     rw [List.getElem?_set] at ha
     simp [hi] at ha
     subst ha
     rw [List.getElem?_set] at hb
     simp [hj] at hb
     subst hb
     rw [hoc] at hq
     simp at hq
     subst hq
     simpa using hx
    ·simp only [e,if_false]
     have hne:(i,j)≠(a,b):=fun h=>e (by simp at h;exact ⟨h.1.symm,h.2.symm⟩)
     have:∃ r',es0[a]? = some r'∧r'[b]? = some y:=by
      rw [List.getElem?_set] at ha
      split at ha
      ·rename_i hia
       subst hia
       simp [hi] at ha
       subst ha
       rw [List.getElem?_set] at hb
       split at hb
       ·rename_i hjb;exact absurd ⟨rfl,hjb.symm⟩ e
       ·exact ⟨row,hrow,hb⟩
      ·exact ⟨r,ha,hb⟩
     obtain ⟨r',h1,h2⟩:=this
     exact (hsubs a b r' y q h1 h2 hq).keep hF hFF (fun s=>hG _ (by simpa using not_prefix_ne hne [] s)) (fun s bb hbb=>hsame _ bb hbb (by simp) (by simpa using not_prefix_ne hne [] s))
 | (a,b)::p,G,G',ot0,ot,es0,es,es',v,i,j,row,x,oc,u,bk,h,hs,hrow,hj,hoc,hup,hbk,hsame,hcell,hG,hx=>by
  simp only [subEs] at hs
  split at hs
  ·rename_i q es1 h1 h2
   cases hrow0:es0[a]? with
   | none=>simp [hrow0] at h2
   | some row0=>
    simp only [hrow0,Option.bind_some] at h2
    simp only [updEs,h1,hrow0,h2] at hup
    simp only [Option.map_eq_some_iff] at hup
    obtain ⟨es1',hup1,rfl⟩:=hup
    cases h with
    | nil hG0=>simp at hrow0
    | @sl G pp g cap es us hG0 hcap hm hrow' hcc hf hcell' hsubs=>
     have ha:a < es0.length:=(List.getElem?_eq_some_iff.1 hrow0).1
     have hb:b < row0.length:=(List.getElem?_eq_some_iff.1 h2).1
     have hlen:(es0.set a (row0.set b (.sl es1'))).length=es0.length:=by simp
     have hroot:=hsame [] _ hG0 (by simp) (by simp)
     have:=Own.sl (w:=w') (F:=F') (G:=G') (p:=ot0) (g:=g) (cap:=cap) (es:=es0.set a (row0.set b (.sl es1'))) us
      ((hG [] (by simp)).trans hG0) (by rw [hlen];exact hcap) hm ?_ ?_ ?_ ?_ ?_
     ·rwa [hlen] at this
     ·intro k r hk
      rw [List.getElem?_set] at hk
      split at hk
      ·rename_i hak
       subst hak
       simp [ha] at hk
       subst hk
       simpa using hrow' a row0 hrow0
      ·exact hrow' k r hk
     ·intro k hk
      obtain ⟨y,hy⟩:=hcc k hk
      exact ⟨y,(hroot k).1.trans hy⟩
     ·intro k hk
      exact ((hroot k).2 (hcc k hk)).trans (hf k hk)
     ·intro k l hk hl
      rw [hlen] at hk
      exact (hroot _).1.trans (hcell' k l hk hl)
     ·intro k l r y q' hk hl hq'
      by_cases e:k=a∧l=b
      ·obtain ⟨rfl,rfl⟩:=e
       rw [List.getElem?_set] at hk
       simp [ha] at hk
       subst hk
       rw [List.getElem?_set] at hl
       simp [hb] at hl
       subst hl
       rw [h1] at hq'
       simp at hq'
       subst hq'
       refine Own.set hF hFF p (hsubs k l row0 _ _ hrow0 h2 h1) hs hrow hj hoc hup1 (bk:=bk) hbk ?_ hcell ?_ hx
       ·intro q b hqb hne hnp
        exact hsame _ b hqb (by simpa using hne) (by simpa using hnp)
       ·intro q hnp
        exact hG _ (by simpa using hnp)
      ·have hne:(a,b)≠(k,l):=fun h=>e (by simp at h;exact ⟨h.1.symm,h.2.symm⟩)
       have:∃ r',es0[k]? = some r'∧r'[l]? = some y:=by
        rw [List.getElem?_set] at hk
        split at hk
        ·rename_i hka
         subst hka
         simp [ha] at hk
         subst hk
         rw [List.getElem?_set] at hl
         split at hl
         ·rename_i hlb;exact absurd ⟨rfl,hlb.symm⟩ e
         ·exact ⟨row0,hrow0,hl⟩
        ·exact ⟨r,hk,hl⟩
       obtain ⟨r',h3,h4⟩:=this
       refine (hsubs k l r' y q' h3 h4 hq').keep hF hFF (fun s=>hG _ ?_) (fun s bb hbb=>hsame _ bb hbb ?_ ?_)
       ·simpa using not_prefix_ne hne (p++[(i,j)]) s
       ·intro e';simp at e';exact e e'.1
       ·simpa using not_prefix_ne hne (p++[(i,j)]) s
  ·simp at hs
end
end Go.Proofs.V

namespace Go.Proofs.V
open Go
variable {P:Program}
section
variable {A:Nat→Prop} {pin:List (Nat×Value)} {w w' : World} {F F' : Nat→Prop} {O:Nat→Option Ow} {Go:Nat→Gh} {Gv:Nat→Option Nat} {st:St} {tm:Array Value}
def stGo (Go:Nat→Gh) (us:List Nat) (id:Nat) (q:Pth) (Gx:Gh):Nat→Gh:=
 fun k=>if k ∈ us then fun _=>none else if k=id then subG (Go id) q Gx else Go k
def stO (O:Nat→Option Ow) (us:List Nat) (id:Nat) (q:Pth) (b:Nat):Option Ow:=
 match O b with
 | some (.obj k s)=>if k ∈ us then some (.obj id (q++s)) else if k=id∧q <+: s then none else some (.obj k s)
 | x=>x
structure ObjExt (w w' : World) (F F' : Nat→Prop) (Go Go' : Nat→Gh) (Gv Gv' : Nat→Option Nat) (st st' : St) (i n:Nat):Prop where
 same:∀ b,F b→Same w w' b
 sub:∀ b,F b→F' b
 ol:st.objs.length≤st'.objs.length
 vl:st.vars.length≤st'.vars.length
 obj:∀ id,id < st.objs.length→∀ o',st'.obj id=some o'→∃ o,st.obj id=some o∧o'.ot=o.ot∧∀ s:Pth,(id=i→s.length≤n)→Go' id s=Go id s
 var:∀ id,id < st.vars.length→∀ cs',st'.var id=some cs'→(∃ cs,st.var id=some cs)∧Gv' id=Gv id
theorem CRel.stale {Go' : Nat→Gh} {Gv' : Nat→Option Nat} {st' : St} {i n:Nat} (h:ObjExt w w' F F' Go Go' Gv Gv' st st' i n) {v:Value} {c:C} (hc:CRel w F Go Gv st v c):CRel w' F' Go' Gv' st' v (staleC i n c):=by
 have hv:∀ {id j:Nat} {v:Value},VRel st Gv id j v→VRel st' Gv' id j v:=by
  intro id j v hv
  refine ⟨Nat.lt_of_lt_of_le hv.1 h.vl,fun cs' hcs=>?_⟩
  obtain ⟨⟨cs,h1⟩,h2⟩:=h.var id hv.1 cs' hcs
  obtain ⟨g,h3,h4⟩:=hv.2 cs h1
  exact ⟨g,h2.trans h3,h4⟩
 cases c with
 | lit x=>exact hc
 | ro p es=>exact Rd.keep h.same h.sub hc
 | ref id p off len=>
  simp only [staleC]
  split
  ·trivial
  ·rename_i hn
   refine ⟨Nat.lt_of_lt_of_le hc.1 h.ol,fun o' ho'=>?_⟩
   obtain ⟨o,h1,h2,h3⟩:=h.obj id hc.1 o' ho'
   have:=hc.2 o h1
   rw [h3 p (fun e=>by simp [e] at hn;exact hn)]
   cases hg:Go id p with
   | none=>simp only [hg] at this ⊢;exact this
   | some b=>simp only [hg] at this ⊢;rw [h2];exact this
 | ptr id p a b=>
  simp only [staleC]
  split
  ·trivial
  ·rename_i hn
   refine ⟨Nat.lt_of_lt_of_le hc.1 h.ol,fun o' ho'=>?_⟩
   obtain ⟨o,h1,h2,h3⟩:=h.obj id hc.1 o' ho'
   obtain ⟨b,ot,h4,h5,h6⟩:=hc.2 o h1
   exact ⟨b,ot,by rw [h3 p (fun e=>by simp [e] at hn;exact hn)];exact h4,by rw [h2];exact h5,h6⟩
 | rptr p cs=>
  obtain ⟨g,o,h1,h2,h3,h4⟩:=hc
  refine ⟨g,o,h1,h.sub g h2,h3,fun k x q h5 h6=>?_⟩
  obtain ⟨u,h7,h8⟩:=h4 k x q h5 h6
  exact ⟨u,(h.same g h2 _).1.trans h7,h8.keep h.same h.sub⟩
 | vptr id j=>exact hv hc
 | clo f cap=>
  obtain ⟨vs,h1,h2,h3⟩:=hc
  exact ⟨vs,h1,h2,fun k u id h4 h5=>hv (h3 k u id h4 h5)⟩
 | dead=>trivial
theorem CsRel.map {Go' : Nat→Gh} {Gv' : Nat→Option Nat} {st' : St} {f:C→C} (h:∀ v c,CRel w F Go Gv st v c→CRel w' F' Go' Gv' st' v (f c)) {vs:List Value} {cs:List C} (hc:CsRel w F Go Gv st vs cs) :
  CsRel w' F' Go' Gv' st' vs (cs.map f):=by
 refine ⟨by simp [hc.1],fun k u c h1 h2=>?_⟩
 simp only [List.getElem?_map,Option.map_eq_some_iff] at h2
 obtain ⟨c',h3,rfl⟩:=h2
 exact ⟨(hc.2 k u c' h1 h3).1,h _ _ (hc.2 k u c' h1 h3).2⟩
theorem ARel.map {Go' : Nat→Gh} {Gv' : Nat→Option Nat} {st' : St} {f:C→C} (h:∀ v c,CRel w F Go Gv st v c→CRel w' F' Go' Gv' st' v (f c)) (hf:f (.lit undef)=.lit undef) {v:Value} {a:Bool} {cs:List C} (hc:ARel w F Go Gv st v (a,cs)) :
  ARel w' F' Go' Gv' st' v (a,cs.map f):=by
 cases a with
 | true=>obtain ⟨vs,h1,h2⟩:=hc;exact ⟨vs,h1,h2.map h⟩
 | false=>
  obtain ⟨c,h1,h2,h3⟩:=hc
  simp at h1
  subst h1
  refine ⟨f c,rfl,?_,h _ _ h3⟩
  rcases h2 with h2 | ⟨h2,rfl⟩
  ·exact .inl h2
  ·exact .inr ⟨h2,hf⟩
theorem SRel.map {Go' : Nat→Gh} {Gv' : Nat→Option Nat} {st' : St} {f:C→C} (h:∀ v c,CRel w F Go Gv st v c→CRel w' F' Go' Gv' st' v (f c)) (hf:f (.lit undef)=.lit undef) {v:Value} {s:SV} (hc:SRel w F Go Gv st v s) :
  SRel w' F' Go' Gv' st' v (s.map f):=by
 cases s with
 | v a cs=>exact ARel.map h hf hc
 | tup ss=>
  obtain ⟨vs,h1,h2,h3⟩:=hc
  refine ⟨vs,h1,by simp [h2],fun k u x h4 h5=>?_⟩
  simp only [List.getElem?_map,Option.map_eq_some_iff] at h5
  obtain ⟨y,h6,rfl⟩:=h5
  exact ARel.map h hf (h3 k u y h4 h6)
 | ifc t c=>obtain ⟨u,h1,h2,h3⟩:=hc;exact ⟨u,h1,h2,h _ _ h3⟩
 | any=>trivial
theorem mapC_var (st:St) (f:C→C) (id:Nat):(st.mapC f).var id=(st.var id).map (List.map f):=by
 simp only [var_eq,St.mapC,List.getElem?_map]
 cases st.vars[id]? with
 | none=>rfl
 | some x=>cases x <;> rfl
def C.simple:C→Bool
 | .lit _ | .ro _ _ | .ref _ [] _ _=>true
 | _=>false
theorem toT_simple {o:OT} {c:C} {r:T×List Nat} (h:V.toT st o c=some r):c.simple=true:=by
 unfold V.toT at h
 split at h <;> first | rfl | simp at h
theorem staleC_simple {c:C} (h:c.simple=true) (i n:Nat):staleC i n c=c:=by
 cases c with
 | ref id p off len=>cases p <;> simp [C.simple] at h;simp [staleC]
 | _=>first | rfl | simp [C.simple] at h
theorem cG_some {o:OT} {c:C} {r:Pth} {b:Bk} (h:cG Go o c r=some b):∃ k,cid o c=some k∧Go k r=some b:=by
 unfold cG at h
 cases hk:cid o c with
 | none=>simp [hk] at h
 | some k=>simp [hk] at h;exact ⟨k,rfl,h⟩
theorem putO_some {id i j:Nat} {p:Pth} {c:C} {st' : St} (hp:st.putO id p i j c=some st') :
  ∃ ob ot es oc row x us es',st.obj id=some ob∧subEs ob.ot ob.es p=some (ot,es)∧ot[j]? = some oc∧es[i]? = some row∧V.toT st oc c=some (x,us)∧id ∉ us∧j < row.length∧updEs ob.ot ob.es p (es.set i (row.set j x))=some es'∧
   (((∃ q,oc=.ro q)∨oc=.sc)∧st' = { st with objs:=(killO st.objs us).set id (some ⟨ob.ot,es'⟩) }∨
    (¬ ((∃ q,oc=.ro q)∨oc=.sc)∧st' = { st.mapC (staleC id p.length) with objs:=(killO st.objs us).set id (some ⟨ob.ot,es'⟩) })):=by
 unfold St.putO at hp
 split at hp
 ·rename_i ob hob
  split at hp
  ·rename_i ot es hsub
   split at hp
   ·rename_i oc row hoc hrow
    split at hp
    ·rename_i x us hx
     split at hp
     ·simp at hp
     ·rename_i hcond
      simp only [Bool.or_eq_true,List.contains_iff_mem,decide_eq_true_eq,not_or,Nat.not_le] at hcond
      split at hp
      ·rename_i es' hup
       refine ⟨ob,ot,es,oc,row,x,us,es',hob,hsub,hoc,hrow,hx,hcond.1,hcond.2,hup,?_⟩
       cases oc with
       | sc=>simp at hp;exact .inl ⟨.inr rfl,hp.symm⟩
       | ro q=>simp at hp;exact .inl ⟨.inl ⟨q,rfl⟩,hp.symm⟩
       | own q=>simp at hp;exact .inr ⟨by simp,hp.symm⟩
       | box q=>simp at hp;exact .inr ⟨by simp,hp.symm⟩
       | hol q=>simp at hp;exact .inr ⟨by simp,hp.symm⟩
      ·simp at hp
    ·simp at hp
   ·simp at hp
  ·simp at hp
 ·simp at hp
theorem obj_set {os:List (Option Ob)} {us:List Nat} {sl:List SV} {vs:List (Option (List C))} {id:Nat} {nb:Ob} (hid:id < os.length) (k:Nat) :
  St.obj ⟨sl,(killO os us).set id (some nb),vs⟩ k=if k=id then some nb else if k ∈ us then none else (os[k]?).bind fun x=>x:=by
 simp only [obj_eq,List.getElem?_set,killO_length,killO_get]
 by_cases hk:id=k
 ·subst hk;simp [hid]
 ·simp only [hk,if_false,Ne.symm hk]
  by_cases hu:k ∈ us
  ·simp only [hu,if_true]
   cases os[k]? <;> rfl
  ·simp only [hu,if_false]
theorem Rel.putO (h:Rel A pin w F O Go Gv st tm) {id i j:Nat} {p:Pth} {c:C} {st' : St} (hp:st.putO id p i j c=some st') {u:Value} (hu:u.oneCell' = true) (hc:CRel w F Go Gv st u c) :
  ∃ ob ot bk,st.obj id=some ob∧subOT ob.ot p=some ot∧Go id p=some bk∧(∃ y,w.cell? ⟨bk.g,i*ot.length+j,none⟩=some y)∧w.frozen? ⟨bk.g,i*ot.length+j,none⟩=false∧A bk.g∧
   ∃ O' Go',Rel A pin (w.setCell ⟨bk.g,i*ot.length+j,none⟩ u) F O' Go' Gv st' tm∧(∃ ob',st'.obj id=some ob'∧ob'.ot=ob.ot)∧Go' id p=some bk∧
    ∀ v' c',c'.simple=true→CRel w F Go Gv st v' c'→CRel (w.setCell ⟨bk.g,i*ot.length+j,none⟩ u) F Go' Gv st' v' c':=by
 obtain ⟨ob,ot,es,oc,row,x,us,es',hob,hsub,hoc,hrow,hx,hidu,hj,hup,hst⟩:=putO_some hp
 have hidl:=obj_lt hob
 obtain ⟨v0,hv0⟩:=h.objs id ob hob
 obtain ⟨vs,hvs⟩:=hv0.at p hsub
 have hsubOT:=subOT_of_subEs hsub
 generalize ht:T.sl es=t at hvs
 cases hvs with
 | nil _=>simp at ht;subst ht;simp at hrow
 | @sl G pp g cap es1 us1 hG0 hcap hm hrow' hcc hf hcell hsubs=>
  simp at ht
  subst ht
  have hG0' : Go id p=some ⟨g,cap⟩:=by simpa using hG0
  have hil:i < es.length:=(List.getElem?_eq_some_iff.1 hrow).1
  have hrl:=hrow' i row hrow
  have hin:i*ot.length+j < cap*ot.length:=by
   have h1:(i+1)*ot.length≤cap*ot.length:=Nat.mul_le_mul_right _ (by omega)
   rw [Nat.add_mul] at h1
   omega
  have hcellg:=hcc _ hin
  have hOg:=h.oO _ _ _ hG0'
  simp only at hOg
  refine ⟨ob,ot,⟨g,cap⟩,hob,hsubOT,hG0',hcellg,hf _ hin,(h.oA _ _ hOg).1,?_⟩
  simp only
  have hcw:∀ o,(w.setCell ⟨g,i*ot.length+j,none⟩ u).cell? ⟨g,o,none⟩=(if o=i*ot.length+j then some u else w.cell? ⟨g,o,none⟩)∧(w.setCell ⟨g,i*ot.length+j,none⟩ u).frozen? ⟨g,o,none⟩=w.frozen? ⟨g,o,none⟩:=
   fun o=>⟨cell_setCell w g _ o u hcellg,by simp⟩
  have hF:∀ b,F b→Same w (w.setCell ⟨g,i*ot.length+j,none⟩ u) b:=fun b hb=>Same.setCell w g _ u (fun e=>by subst e;have:=h.oF _ hb;rw [hOg] at this;simp at this)
  have hsameO:∀ b x,O b=some x→x≠.obj id p→Same w (w.setCell ⟨g,i*ot.length+j,none⟩ u) b:=fun b x hx hne=>Same.setCell w g _ u (fun e=>by subst e;rw [hOg] at hx;simp at hx;exact hne hx.symm)
  obtain ⟨hxo,hus,husa⟩:=h.toT hx hc
  have hown:∀ (G' : Gh),(∀ q,¬ (p++[(i,j)] <+: q)→G' q=Go id q)→Own (w.setCell ⟨g,i*ot.length+j,none⟩ u) F (fun r=>G' (p++(i,j)::r)) oc u x→∃ v,Own (w.setCell ⟨g,i*ot.length+j,none⟩ u) F G' (.own ob.ot) v (.sl es'):=by
   intro G' hG' hx'
   refine ⟨v0,Own.set hF (fun _ h=>h) p hv0 hsub hrow hj hoc hup hG0' ?_ hcw hG' hx'⟩
   intro q b hb hne _
   exact hsameO _ _ (h.oO _ _ _ hb) (by simp;exact hne)
  rcases hst with ⟨hoc',rfl⟩|⟨hoc',rfl⟩
  ·
   have hus0:us=[]:=by
    rw [hus]
    rcases hoc' with ⟨q,rfl⟩ | rfl <;> (unfold cid;cases c <;> rfl)
   subst hus0
   have hob' : ∀ k o',St.obj { st with objs:=(killO st.objs []).set id (some ⟨ob.ot,es'⟩) } k=some o'→(k=id∧o' = ⟨ob.ot,es'⟩)∨(k≠id∧st.obj k=some o'):=by
    intro k o' ho'
    rw [obj_set hidl] at ho'
    by_cases hk:k=id
    ·simp [hk] at ho';exact .inl ⟨hk,ho'.symm⟩
    ·simp [hk] at ho';exact .inr ⟨hk,by rw [obj_eq];simpa using ho'⟩
   have hext:Ext w (w.setCell ⟨g,i*ot.length+j,none⟩ u) F F Go Go Gv Gv st { st with objs:=(killO st.objs []).set id (some ⟨ob.ot,es'⟩) }:=by
    refine ⟨hF,fun _ h=>h,by simp [killO_length],Nat.le_refl _,fun k _ o' ho'=>?_,fun k _ cs h=>⟨⟨cs,h⟩,rfl⟩⟩
    rcases hob' k o' ho' with ⟨rfl,rfl⟩|⟨_,h1⟩
    ·exact ⟨ob,hob,rfl,rfl⟩
    ·exact ⟨o',h1,rfl,rfl⟩
   refine ⟨O,Go,⟨h.size,fun k v s h1 h2=>(h.slots k v s h1 h2).ext hext,?_,?_,?_,h.varN,h.oO,h.oV,h.oF,fun b x hx=>⟨(h.oA b x hx).1,by simpa using (h.oA b x hx).2⟩,
    fun b hb=>by simpa using h.fS b hb,fun b hb=>h.aN b (by simpa using hb),h.pinned⟩,⟨⟨ob.ot,es'⟩,by rw [obj_set hidl];simp,rfl⟩,hG0',fun v' c' _ hc'=>hc'.ext hext⟩
   ·intro k o' ho'
    rcases hob' k o' ho' with ⟨rfl,rfl⟩|⟨hne,h1⟩
    ·refine hown (Go k) (fun _ _=>rfl) ?_
     rcases hoc' with ⟨q,rfl⟩ | rfl
     ·cases hxo with
      | ro h=>exact .ro (h.keep hF (fun _ h=>h))
     ·cases hxo with
      | sc h=>exact .sc h
    ·obtain ⟨v',hv'⟩:=h.objs k o' h1
     exact ⟨v',hv'.keep hF (fun _ h=>h) (fun _=>rfl) (fun r b hb=>hsameO _ _ (h.oO _ _ _ hb) (by simp [hne]))⟩
   ·intro k q b hb
    obtain ⟨o,ho⟩:=h.objN k q b hb
    rw [obj_set hidl]
    by_cases hk:k=id
    ·exact ⟨⟨ob.ot,es'⟩,by simp [hk]⟩
    ·exact ⟨o,by simp [hk];rw [obj_eq] at ho;simpa using ho⟩
   ·intro k cs hcs
    obtain ⟨g',h1,h2⟩:=h.vars k cs hcs
    refine ⟨g',h1,fun k' c' hk'=>?_⟩
    obtain ⟨y,h3,h4,h5,h6⟩:=h2 k' c' hk'
    have hs:=hsameO g' _ (h.oV _ _ h1) (by simp)
    exact ⟨y,(hs _).1.trans h3,((hs _).2 ⟨y,h3⟩).trans h4,h5,h6.ext hext⟩
  ·
   have hob' : ∀ k o',St.obj { st.mapC (staleC id p.length) with objs:=(killO st.objs us).set id (some ⟨ob.ot,es'⟩) } k=some o'→(k=id∧o' = ⟨ob.ot,es'⟩)∨(k≠id∧k ∉ us∧st.obj k=some o'):=by
    intro k o' ho'
    rw [obj_set hidl] at ho'
    by_cases hk:k=id
    ·simp [hk] at ho';exact .inl ⟨hk,ho'.symm⟩
    ·by_cases hu:k ∈ us
     ·simp [hk,hu] at ho'
     ·simp [hk,hu] at ho';exact .inr ⟨hk,hu,by rw [obj_eq];simpa using ho'⟩
   have hvar' : ∀ k,St.var { st.mapC (staleC id p.length) with objs:=(killO st.objs us).set id (some ⟨ob.ot,es'⟩) } k=(st.var k).map (List.map (staleC id p.length)):=fun k=>mapC_var st _ k
   have hgo:∀ k s,k ∉ us→(k=id→s.length≤p.length)→stGo Go us id (p++[(i,j)]) (cG Go oc c) k s=Go k s:=by
    intro k s hk hs
    simp only [stGo,hk,if_false]
    by_cases hid:k=id
    ·subst hid
     have : ¬ (p++[(i,j)] <+: s):=fun hpre=>by have:=hpre.length_le;simp at this;have:=hs rfl;omega
     simp [subG,this]
    ·simp [hid]
   have hext:ObjExt w (w.setCell ⟨g,i*ot.length+j,none⟩ u) F F Go (stGo Go us id (p++[(i,j)]) (cG Go oc c)) Gv Gv st { st.mapC (staleC id p.length) with objs:=(killO st.objs us).set id (some ⟨ob.ot,es'⟩) } id p.length:=by
    refine ⟨hF,fun _ h=>h,by simp [killO_length],by simp [St.mapC],fun k _ o' ho'=>?_,fun k _ cs hcs=>?_⟩
    ·rcases hob' k o' ho' with ⟨rfl,rfl⟩|⟨_,h0,h1⟩
     ·exact ⟨ob,hob,rfl,fun s hs=>hgo _ s hidu hs⟩
     ·exact ⟨o',h1,rfl,fun s hs=>hgo _ s h0 hs⟩
    ·rw [hvar'] at hcs
     simp only [Option.map_eq_some_iff] at hcs
     obtain ⟨cs',h1,_⟩:=hcs
     exact ⟨⟨cs',h1⟩,rfl⟩
   have hst:∀ v c1,CRel w F Go Gv st v c1→CRel (w.setCell ⟨g,i*ot.length+j,none⟩ u) F (stGo Go us id (p++[(i,j)]) (cG Go oc c)) Gv { st.mapC (staleC id p.length) with objs:=(killO st.objs us).set id (some ⟨ob.ot,es'⟩) } v (staleC id p.length c1):=by
    intro v c' hc'
    exact hc'.stale hext
   refine ⟨stO O us id (p++[(i,j)]),stGo Go us id (p++[(i,j)]) (cG Go oc c),⟨by simp [St.mapC,h.size],?_,?_,?_,?_,?_,?_,?_,?_,?_,
    fun b hb=>by simpa using h.fS b hb,fun b hb=>h.aN b (by simpa using hb),h.pinned⟩,⟨⟨ob.ot,es'⟩,by rw [obj_set hidl];simp,rfl⟩,by rw [hgo id p hidu (fun _=>Nat.le_refl _)];exact hG0',
    fun v' c' hs hc'=>by have:=hst v' c' hc';rwa [staleC_simple hs] at this⟩
   ·intro k v s h1 h2
    simp only [St.mapC,List.getElem?_map,Option.map_eq_some_iff] at h2
    obtain ⟨s',h3,rfl⟩:=h2
    exact SRel.map hst rfl (h.slots k v s' h1 h3)
   ·intro k o' ho'
    rcases hob' k o' ho' with ⟨rfl,rfl⟩|⟨hne,hku,h1⟩
    ·refine hown _ (fun q hq=>?_) ?_
     ·simp [stGo,hidu,subG,hq]
     ·have hsh:(fun r=>stGo Go us k (p++[(i,j)]) (cG Go oc c) k (p++(i,j)::r))=cG Go oc c:=by
       funext r
       have hpre:p++[(i,j)] <+: p++(i,j)::r:=⟨r,by simp⟩
       simp only [stGo,hidu,if_false,if_true,subG,hpre]
       have:(p++(i,j)::r).drop (p++[(i,j)]).length=r:=by
        rw [show p++(i,j)::r=(p++[(i,j)])++r by simp,List.drop_left]
       rw [this]
      rw [hsh]
      refine hxo.keep hF (fun _ h=>h) (fun _=>rfl) (fun r b hb=>?_)
      obtain ⟨k',hk',hb⟩:=cG_some hb
      have hk'u:k' ∈ us:=by rw [hus];simp [hk']
      exact hsameO _ _ (h.oO _ _ _ hb) (by simp;intro e;subst e;exact absurd hk'u hidu)
    ·obtain ⟨v',hv'⟩:=h.objs k o' h1
     refine ⟨v',hv'.keep hF (fun _ h=>h) (fun r=>by simp [stGo,hku,hne]) (fun r b hb=>hsameO _ _ (h.oO _ _ _ hb) (by simp [hne]))⟩
   ·intro k q b hb
    rw [obj_set hidl]
    by_cases hk:k=id
    ·exact ⟨⟨ob.ot,es'⟩,by simp [hk]⟩
    ·by_cases hku:k ∈ us
     ·simp [stGo,hku] at hb
     ·simp [stGo,hku,hk] at hb
      obtain ⟨o,ho⟩:=h.objN k q b hb
      exact ⟨o,by simp [hk,hku];rw [obj_eq] at ho;simpa using ho⟩
   ·intro k cs hcs
    rw [hvar'] at hcs
    simp only [Option.map_eq_some_iff] at hcs
    obtain ⟨cs',hcs',rfl⟩:=hcs
    obtain ⟨g',h1,h2⟩:=h.vars k cs' hcs'
    refine ⟨g',h1,fun k' c' hk'=>?_⟩
    simp only [List.getElem?_map,Option.map_eq_some_iff] at hk'
    obtain ⟨c0,hk0,rfl⟩:=hk'
    obtain ⟨y,h3,h4,h5,h6⟩:=h2 k' c0 hk0
    have hs:=hsameO g' _ (h.oV _ _ h1) (by simp)
    exact ⟨y,(hs _).1.trans h3,((hs _).2 ⟨y,h3⟩).trans h4,h5,hst _ _ h6⟩
   ·intro k g' hg'
    obtain ⟨cs,hcs⟩:=h.varN k g' hg'
    exact ⟨_,by rw [hvar',hcs];rfl⟩
   ·intro k s b hb
    simp only [stGo] at hb
    by_cases hku:k ∈ us
    ·simp [hku] at hb
    ·simp only [hku,if_false] at hb
     by_cases hk:k=id
     ·subst hk
      simp only [if_true,subG] at hb
      by_cases hpre:p++[(i,j)] <+: s
      ·simp only [hpre,if_true] at hb
       obtain ⟨k',hk',hb⟩:=cG_some hb
       have hk'u:k' ∈ us:=by rw [hus];simp [hk']
       have:=h.oO _ _ _ hb
       simp only [stO,this,hk'u,if_true]
       obtain ⟨r,rfl⟩:=hpre
       simp
      ·simp only [hpre,if_false] at hb
       have:=h.oO _ _ _ hb
       simp [stO,this,hku,hpre]
     ·simp only [hk,if_false] at hb
      have:=h.oO _ _ _ hb
      simp [stO,this,hku,hk]
   ·intro k g' hg'
    have:=h.oV _ _ hg'
    simp [stO,this]
   ·intro b hb
    simp [stO,h.oF b hb]
   ·intro b x hx
    have:∃ y,O b=some y:=by
     cases hO:O b with
     | none=>simp [stO,hO] at hx
     | some y=>exact ⟨y,rfl⟩
    obtain ⟨y,hy⟩:=this
    have:=h.oA b y hy
    exact ⟨this.1,by simpa using this.2⟩
end
end Go.Proofs.V

namespace Go.Proofs.V
open Go
variable {P:Program}
section
variable {A:Nat→Prop} {pin:List (Nat×Value)} {F:Nat→Prop} {O:Nat→Option Ow} {Go:Nat→Gh} {Gv:Nat→Option Nat} {st:St} {tm:Array Value}
theorem Step.setCells {g:Nat} (hA:A g):∀ (vs:List Value) (k:Nat) (w:World),Step A w (w.setCells g k vs)
 | [],_,w=>Step.refl A w
 | v::vs,k,w=>(Step.setCell w k v hA).trans (Step.setCells hA vs (k+1) _)
theorem run_store1 {w:World} {g k:Nat} {v:Value} (h1:v.oneCell' = true) (hc:∃ y,w.cell? ⟨g,k,none⟩=some y) (hf:w.frozen? ⟨g,k,none⟩=false):(store ⟨g,k,none⟩ v).run P w=.ok () (w.setCell ⟨g,k,none⟩ v):=by
 obtain ⟨y,hy⟩:=hc
 rw [run_store P w _ v _ h1]
 simp [hy,hf]
theorem putOs_obj {id i j:Nat} {p:Pth} {c:C} {st' : St} (hp:st.putO id p i j c=some st'):c.simple=true:=by
 obtain ⟨_,_,_,_,_,_,_,_,_,_,_,_,hx,_⟩:=putO_some hp
 exact toT_simple hx
theorem putOs_simple:∀ (cs:List C) {st st' : St} {id i j:Nat} {p:Pth},st.putOs id p i j cs=some st'→∀ c,c ∈ cs→c.simple=true
 | [],_,_,_,_,_,_,_,c,hc=>by simp at hc
 | c::cs,st,st',id,i,j,p,hp,c',hc'=>by
  simp only [St.putOs] at hp
  split at hp
  ·rename_i st1 h1
   simp at hc'
   rcases hc' with rfl | hc'
   ·exact putOs_obj h1
   ·exact putOs_simple cs hp c' hc'
  ·simp at hp
theorem Rel.putOs:∀ (vs:List Value) (cs:List C) {w:World} {O:Nat→Option Ow} {Go:Nat→Gh} {st st' : St} {id i j n:Nat} {p:Pth} {ob:Ob} {ot:List OT} {bk:Bk},Rel A pin w F O Go Gv st tm→st.putOs id p i j cs=some st'→
  CsRel w F Go Gv st vs cs→st.obj id=some ob→subOT ob.ot p=some ot→Go id p=some bk→A bk.g→∀ m,m+n=i*ot.length+j→
  ∃ w' O' Go',(storeCells ⟨bk.g,m,none⟩ vs n).run P w=.ok () w'∧Rel A pin w' F O' Go' Gv st' tm∧Step A w w'
 | [],[],w,O,Go,st,st',id,i,j,n,p,ob,ot,bk,h,hp,hcs,hob,hot,hbk,hA,m,hm=>by
  simp [St.putOs] at hp
  subst hp
  exact ⟨w,O,Go,rfl,h,Step.refl A w⟩
 | [],c::cs,_,_,_,_,_,_,_,_,_,_,_,_,_,_,_,hcs,_,_,_,_,_,_=>absurd hcs.1 (by simp)
 | v::vs,[],_,_,_,_,_,_,_,_,_,_,_,_,_,_,_,hcs,_,_,_,_,_,_=>absurd hcs.1 (by simp)
 | v::vs,c::cs,w,O,Go,st,st',id,i,j,n,p,ob,ot,bk,h,hp,hcs,hob,hot,hbk,hA,m,hm=>by
  have hsimple:=putOs_simple _ hp
  simp only [St.putOs] at hp
  split at hp
  ·rename_i st1 h1
   have h0:=hcs.2 0 v c rfl rfl
   obtain ⟨ob1,ot1,bk1,e1,e2,e3,hc,hf,hA',O1,Go1,hr,⟨ob',e4,e5⟩,e6,hrel⟩:=h.putO h1 h0.1 h0.2
   rw [hob] at e1
   simp at e1
   subst e1
   rw [hot] at e2
   simp at e2
   subst e2
   rw [hbk] at e3
   simp at e3
   subst e3
   rw [←hm] at hc hf hr hrel
   have hcs1:CsRel (w.setCell ⟨bk.g,m+n,none⟩ v) F Go1 Gv st1 vs cs:=by
    refine ⟨by have:=hcs.1;simpa using this,fun k u c' a b=>?_⟩
    have:=hcs.2 (k+1) u c' (by simpa using a) (by simpa using b)
    exact ⟨this.1,hrel _ _ (hsimple c' (List.mem_cons_of_mem _ (List.mem_of_getElem? b))) this.2⟩
   obtain ⟨w',O',Go',r1,r2,r3⟩:=Rel.putOs vs cs (n:=n+1) hr hp hcs1 e4 (by rw [e5];exact hot) e6 hA m (by omega)
   refine ⟨w',O',Go',?_,r2,(Step.setCell w _ v hA).trans r3⟩
   simp only [storeCells,Sem.run_bind,addr_add,run_store1 h0.1 hc hf,Result.andThen_ok]
   exact r1
  ·simp at hp
theorem cells_of_slot {w:World} {v:Value} {s:SV} {a:Bool} {cs:List C} (h:SRel w F Go Gv st v s) (hs:s.cells=some (a,cs)) (hne:∀ c,cs=[c]→c≠.lit undef):CsRel w F Go Gv st v.cells.toList cs:=by
 cases s with
 | v a' cs'=>
  simp [SV.cells] at hs
  obtain ⟨rfl,rfl⟩:=hs
  cases a' with
  | true=>
   obtain ⟨vs,rfl,h2⟩:=h
   exact h2
  | false=>
   obtain ⟨c,h1,h2,h3⟩:=h
   simp at h1
   subst h1
   have h2' : v.oneCell' = true:=h2.resolve_right (fun h=>hne c rfl h.2)
   have:v.cells = #[v]:=by cases v <;> simp_all [Value.oneCell',Value.cells]
   rw [this]
   refine ⟨rfl,fun k u c' hk hc=>?_⟩
   cases k with
   | zero=>simp at hk hc;subst hk;subst hc;exact ⟨h2',h3⟩
   | succ k=>simp at hk
 | tup _=>simp [SV.cells] at hs
 | ifc _ _=>simp [SV.cells] at hs
 | any=>simp [SV.cells] at hs
theorem not_undef_of_sto {cs:List C} (h:cs.all C.sto=true) (c:C) (e:cs=[c]):c≠.lit undef:=by
 rintro rfl
 subst e
 simp [C.sto,undef,isLit] at h
theorem sound_store {w:World} (h:Rel A pin w F O Go Gv st tm) {x y:Opd} {x' y' : Operand} (hx:opdIs x x' = true) (hy:opdIs y y' = true) {n:Nat} (hn0:n≠0) {t:TypeId} (hn:sizeIs P t n=true) {s:SV} (hs:st.get y=some s) {st' : St}
  (hv:vstore st x n s=some st') (ds:List Deferred):∃ w',(Instr.storeAt t ((Act.mk tm ds).eval x') ((Act.mk tm ds).eval y')).run P w=.ok () w'∧Good A pin w F st' tm w':=by
 have hsr:=h.get hy hs ds
 unfold vstore at hv
 split at hv
 ·rename_i id p i j a cs hc hcs
  split at hv
  ·rename_i hlen
   obtain ⟨hr,_⟩:=h.cell hx hc ds
   have hsim:=putOs_simple _ hv
   have hne:∀ c,cs=[c]→c≠.lit undef:=by
    rintro c rfl rfl
    simp only [St.putOs] at hv
    split at hv
    ·rename_i st1 h1
     obtain ⟨_,_,_,oc,_,_,_,_,_,_,_,_,hx,_⟩:=putO_some h1
     unfold V.toT at hx
     cases oc <;> simp [undef,isLit] at hx
    ·simp at hv
   have hcr:=cells_of_slot hsr hcs hne
   cases cs with
   | nil=>simp at hlen;exact absurd hlen.symm hn0
   | cons c cs=>
    have hob:∃ ob,st.obj id=some ob:=by
     simp only [St.putOs] at hv
     split at hv
     ·rename_i st1 h1
      obtain ⟨ob,_,_,_,_,_,_,_,hob,_⟩:=putO_some h1
      exact ⟨ob,hob⟩
     ·simp at hv
    obtain ⟨ob,hob⟩:=hob
    obtain ⟨hid,hr⟩:=hr
    obtain ⟨bk,ot,h1,h2,h3⟩:=hr ob hob
    have hA:=(h.oA _ _ (h.oO _ _ _ h1)).1
    obtain ⟨w',O',Go',r1,r2,r3⟩:=Rel.putOs (P:=P) _ _ (n:=0) h hv hcr hob h2 h1 hA (i*ot.length+j) (by omega)
    refine ⟨w',?_,F,O',Go',Gv,r2,r3,fun _ h=>h,fun _ h=>.inl h⟩
    have hsz:((Act.mk tm ds).eval y').cells.size=n:=by
     have:=hcr.1
     simp at this hlen
     simp [this,hlen]
    simp only [Instr.storeAt,h3,Instr.sureAddr,Sem.run_bind,Sem.run_pure,Result.andThen_ok,storeVar,run_sizeOf hn,hsz,ne_eq,not_true_eq_false,if_false]
    exact r1
  ·simp at hv
 ·rename_i id j a cs hc hcs
  split at hv
  ·rename_i old hold
   split at hv
   ·rename_i hcond
    obtain ⟨hlen,hle,hsto⟩:=hcond
    simp at hv
    subst hv
    have hcr:=cells_of_slot hsr hcs (not_undef_of_sto hsto)
    obtain ⟨hr,_⟩:=h.cell hx hc ds
    obtain ⟨hid,hr⟩:=hr
    obtain ⟨g,h1,h2⟩:=hr old hold
    obtain ⟨g',h3,h4⟩:=h.vars id old hold
    rw [h1] at h3
    simp at h3
    subst h3
    have hsz:((Act.mk tm ds).eval y').cells.size=n:=by
     have:=hcr.1
     simp at this
     simp [this,hlen]
    have hl2:((Act.mk tm ds).eval y').cells.toList.length=n:=by simpa using hsz
    have hR:=Rel.setVars _ _ (k:=j) h hold h1 (by omega) hcr
    have hA:=(h.oA _ _ (h.oV _ _ h1)).1
    refine ⟨_,?_,F,O,Go,Gv,hR,Step.setCells hA _ _ _,fun _ h=>h,fun _ h=>.inl h⟩
    simp only [Instr.storeAt,h2,Instr.sureAddr,Sem.run_bind,Sem.run_pure,Result.andThen_ok,storeVar,run_sizeOf hn,hsz,ne_eq,not_true_eq_false,if_false]
    have:=run_storeCells_cells (P:=P) g j ((Act.mk tm ds).eval y').cells.toList 0 w
     (fun k hk=>by
      obtain ⟨y,hy,_⟩:=h4 (j+k) old[j+k] (by rw [List.getElem?_eq_getElem])
      simp [hy])
     (fun k hk=>by
      obtain ⟨y,_,hy,_⟩:=h4 (j+k) old[j+k] (by rw [List.getElem?_eq_getElem])
      simpa using hy)
     (fun v hv=>by
      obtain ⟨k,hk⟩:=List.getElem?_of_mem hv
      have hkl:k < cs.length:=by rw [←hcr.1];exact (List.getElem?_eq_some_iff.1 hk).1
      exact (hcr.2 k v cs[k] hk (by simp [hkl])).1)
    exact this
   ·simp at hv
  ·simp at hv
 ·simp at hv
end
end Go.Proofs.V

namespace Go.Proofs.V
open Go
variable {P:Program}
def mkG (Go:Nat→Gh) (b:Bk) (f:Nat→Nat→Option (Nat×Pth)):Gh
 | []=>some b
 | (i,j)::r=>
  match f i j with
  | some (id,pre)=>Go id (pre++r)
  | none=>none
section
variable {A:Nat→Prop} {pin:List (Nat×Value)} {w w' : World} {F:Nat→Prop} {O:Nat→Option Ow} {Go:Nat→Gh} {Gv:Nat→Option Nat} {st:St} {tm:Array Value}
theorem Rel.made (h:Rel A pin w F O Go Gv st tm) (hw:Step A w w') {us:List Nat} (hsame:∀ b x,O b=some x→(∀ id q,x=.obj id q→id ∉ us)→Same w w' b) (hF:∀ b,F b→Same w w' b)
  {f:Nat→Nat→Option (Nat×Pth)} {ot:List OT} {es:List (List T)} {g cap:Nat} (uv:Nat→Nat→Value)
  (hroot:(O g=none∧¬ F g∧A g∧g < w'.heap.size)∨∃ id0,id0 ∈ us∧O g=some (.obj id0 [])∧∀ i j pre,f i j=some (id0,pre)→pre≠[])
  (hf:∀ i j i' j' id pre pre' r r',f i j=some (id,pre)→f i' j' = some (id,pre')→pre++r=pre' ++ r'→i=i'∧j=j')
  (hfu:∀ i j id pre,f i j=some (id,pre)→id ∈ us)
  (hcap:es.length≤cap) (hm:cap≤maxLen) (hrow:∀ (i:Nat) (row:List T),es[i]? = some row→row.length=ot.length)
  (hc:∀ k,k < cap*ot.length→∃ u,w'.cell? ⟨g,k,none⟩=some u) (hfz:∀ k,k < cap*ot.length→w'.frozen? ⟨g,k,none⟩=false)
  (hcell:∀ i j,i < es.length→j < ot.length→w'.cell? ⟨g,i*ot.length+j,none⟩=some (uv i j))
  (hsub:∀ (i j:Nat) (row:List T) (x:T) (q:OT),es[i]? = some row→row[j]? = some x→ot[j]? = some q→Own w' F (fun r=>mkG Go ⟨g,cap⟩ f ((i,j)::r)) q (uv i j) x) :
  ∃ O' Go',Rel A pin w' F O' Go' Gv { st with objs:=killO st.objs us++[some ⟨ot,es⟩] } tm∧
   CRel w' F Go' Gv { st with objs:=killO st.objs us++[some ⟨ot,es⟩] } (.slice (some ⟨g,0,none⟩) es.length cap) (.ref st.objs.length [] 0 es.length):=by
 have hO:∀ i j r b,mkG Go ⟨g,cap⟩ f ((i,j)::r)=some b→∃ id pre,f i j=some (id,pre)∧Go id (pre++r)=some b∧O b.g=some (.obj id (pre++r)):=by
  intro i j r b hb
  simp only [mkG] at hb
  cases hfij:f i j with
  | none=>simp [hfij] at hb
  | some x=>obtain ⟨id,pre⟩:=x;simp only [hfij] at hb;exact ⟨id,pre,rfl,hb,h.oO _ _ _ hb⟩
 have hrt:∀ i j r b,mkG Go ⟨g,cap⟩ f ((i,j)::r)=some b→b.g≠g:=by
  intro i j r b hb e
  obtain ⟨id,pre,h1,h2,h3⟩:=hO i j r b hb
  rw [e] at h3
  rcases hroot with ⟨h4,_⟩|⟨id0,_,h4,h5⟩
  ·rw [h3] at h4;simp at h4
  ·rw [h3] at h4
   simp at h4
   obtain ⟨rfl,h6,_⟩:=h4
   exact h5 i j pre h1 h6
 have hN:=h.newObj hw (us:=us) hsame hF (G:=mkG Go ⟨g,cap⟩ f) (ot:=ot) (Own.sl uv rfl hcap hm hrow hc hfz hcell hsub) ?_ ?_
 ·refine ⟨_,_,hN,by simp [killO_length],fun o ho=>?_⟩
  simp only [newGo,if_true,mkG]
  exact .inl ⟨trivial,trivial,hcap⟩
 ·intro p b hb
  cases p with
  | nil=>
   simp [mkG] at hb
   subst hb
   rcases hroot with h1 | ⟨id0,h1,h2,_⟩
   ·exact .inl h1
   ·exact .inr ⟨id0,[],h1,h2⟩
  | cons ij r=>
   obtain ⟨i,j⟩:=ij
   obtain ⟨id,pre,h1,h2,h3⟩:=hO i j r b hb
   exact .inr ⟨id,_,hfu _ _ _ _ h1,h3⟩
 ·intro p q b b' hb hb' e
  cases p with
  | nil=>
   cases q with
   | nil=>rfl
   | cons ij r=>
    simp [mkG] at hb
    subst hb
    exact absurd e.symm (hrt _ _ _ _ hb')
  | cons ij r=>
   cases q with
   | nil=>
    simp [mkG] at hb'
    subst hb'
    exact absurd e (hrt _ _ _ _ hb)
   | cons ij' r'=>
    obtain ⟨i,j⟩:=ij
    obtain ⟨i',j'⟩:=ij'
    obtain ⟨id,pre,h1,h2,h3⟩:=hO i j r b hb
    obtain ⟨id',pre',h1',h2',h3'⟩:=hO i' j' r' b' hb'
    rw [e,h3'] at h3
    simp at h3
    obtain ⟨rfl,e2⟩:=h3
    obtain ⟨rfl,rfl⟩:=hf _ _ _ _ _ _ _ _ _ h1 h1' e2.symm
    rw [h1] at h1'
    simp at h1'
    subst h1'
    simp at e2
    rw [e2]
def litsEq:List Value→List Value→Bool
 | [],[]=>true
 | a::x,b::y=>litEq a b&&litsEq x y
 | _,_=>false
theorem litsEq_eq:∀ {x y:List Value},litsEq x y=true→x=y
 | [],[],_=>rfl
 | a::x,b::y,h=>by
  simp only [litsEq,Bool.and_eq_true] at h
  rw [litEq_eq h.1,litsEq_eq h.2]
 | [],_::_,h | _::_,[],h=>by simp [litsEq] at h
def zeroOk:List OT→List Value→Bool
 | [],[]=>true
 | .ro _::ot,.slice none 0 0::vs | .own _::ot,.slice none 0 0::vs=>zeroOk ot vs
 | .sc::ot,v::vs=>isLit v&&(!(v matches .slice none 0 0))&&zeroOk ot vs
 | _,_=>false
theorem zeroOk_own:∀ {ot:List OT} {vs:List Value},zeroOk ot vs=true→vs.length=ot.length∧∀ (j:Nat) (q:OT) (v:Value),ot[j]? = some q→vs[j]? = some v→v.oneCell' = true∧Own w F (fun _=>none) q v (zeroT v)
 | [],[],_=>⟨rfl,by simp⟩
 | o::ot,v::vs,h=>by
  have key:zeroOk ot vs=true∧v.oneCell' = true∧Own w F (fun _=>none) o v (zeroT v):=by
   unfold zeroOk at h
   split at h
   ·rename_i h1 _;simp at h1
   ·rename_i e1 e2;simp at e1 e2;obtain ⟨rfl,rfl⟩:=e1;obtain ⟨rfl,rfl⟩:=e2;exact ⟨h,rfl,.ro (.emp (by simp [maxLen]))⟩
   ·rename_i e1 e2;simp at e1 e2;obtain ⟨rfl,rfl⟩:=e1;obtain ⟨rfl,rfl⟩:=e2;exact ⟨h,rfl,.nil rfl⟩
   ·rename_i e1 e2
    simp at e1 e2
    obtain ⟨rfl,rfl⟩:=e1
    obtain ⟨rfl,rfl⟩:=e2
    simp only [Bool.and_eq_true] at h
    obtain ⟨⟨h1,h2⟩,h3⟩:=h
    have hz:zeroT v=.lit v:=by
     unfold zeroT
     split
     ·simp at h2
     ·rfl
    exact ⟨h3,by cases v <;> simp_all [isLit,Value.oneCell'],by rw [hz];exact .sc h1⟩
   ·simp at h
  obtain ⟨h1,h2,h3⟩:=key
  obtain ⟨h4,h5⟩:=zeroOk_own h1
  refine ⟨by simp [h4],fun j q v' a b=>?_⟩
  cases j with
  | zero=>simp at a b;subst a;subst b;exact ⟨h2,h3⟩
  | succ j=>exact h5 j q v' (by simpa using a) (by simpa using b)
 | [],_::_,h=>by simp [zeroOk] at h
 | .sc::_,[],h | .ro _::_,[],h | .own _::_,[],h | .box _::_,[],h=>by simp [zeroOk] at h
def elemIs (P:Program) (e:TypeId) (zero:List Value) (lim:Nat):Bool:=
 match P.info? e with
 | some i=>
  match i.zero with
  | some z=>litsEq z.cells.toList zero&&i.size==zero.length&&decide (0 < zero.length)&&decide (lim*i.bytes≤140737488355328)&&decide (lim≤140737488355328)
  | none=>false
 | none=>false
theorem elemIs_some {e:TypeId} {zero:List Value} {lim:Nat} (h:elemIs P e zero lim=true) :
  ∃ i z,P.info? e=some i∧i.zero=some z∧z.cells.toList=zero∧i.size=zero.length∧0 < zero.length∧lim*i.bytes≤140737488355328∧lim≤140737488355328:=by
 unfold elemIs at h
 split at h
 ·rename_i i hi
  split at h
  ·rename_i z hz
   simp only [Bool.and_eq_true,beq_iff_eq,decide_eq_true_eq] at h
   exact ⟨i,z,hi,hz,litsEq_eq h.1.1.1.1,h.1.1.1.2,h.1.1.2,h.1.2,h.2⟩
  ·simp at h
 ·simp at h
theorem div_mod_of {i j n:Nat} (hj:j < n):(i*n+j) % n=j:=by
 rw [Nat.mul_comm,Nat.mul_add_mod];exact Nat.mod_eq_of_lt hj
theorem madeCells_get {z:Array Value} {n:Nat} {k:Nat} (hk:k < n):(madeCells z n)[k]? = some (z[k % z.size]!):=by
 simp [madeCells,hk]
def sliceIs (P:Program) (t:TypeId) (f:TypeId→Bool):Bool:=underIs P t fun d=>match d with | .slice e=>f e | _=>false
theorem sliceIs_some {t:TypeId} {f:TypeId→Bool} (h:sliceIs P t f=true):∃ e,P.underlying t=some (.slice e)∧f e=true:=by
 obtain ⟨d,h1,h2⟩:=underIs_some h
 cases d <;> simp at h2
 exact ⟨_,h1,h2⟩
theorem sound_mk (h:Rel A pin w F O Go Gv st tm) {t:TypeId} {p:List OT} {zero:List Value} {lim:Nat} (ht:sliceIs P t (fun e=>elemIs P e zero lim)=true) (hz:zeroOk p zero=true) {k:Int} (h0:0≤k∧k≤lim) (kd kd' : IntKind) {d:Nat} (hd:∀ x,(d,x) ∉ pin) :
  ∃ v w',(Instr.makeSlice t (.int kd k) (.int kd' k)).run P w=.ok v w'∧
   Good A pin w F (st.push d ⟨p,List.replicate k.toNat (zero.map zeroT)⟩) (tm.setIfInBounds d v) w':=by
 obtain ⟨e,h1,h2⟩:=sliceIs_some ht
 obtain ⟨i,z,h3,h4,h5,h6,h7,h8,h9⟩:=elemIs_some h2
 obtain ⟨zl,hzo⟩:=zeroOk_own (w:=w.alloc (.cells (madeCells z.cells (k.toNat*i.size)) e)) (F:=F) hz
 have hb:(i.bytes:Int)*k≤281474976710656:=by
  have h10:(k.toNat*i.bytes:Nat)≤lim*i.bytes:=Nat.mul_le_mul_right _ (by omega)
  have h11:(i.bytes:Int)*k=((k.toNat*i.bytes:Nat):Int):=by
   rw [Int.natCast_mul,Int.toNat_of_nonneg h0.1,Int.mul_comm]
  omega
 refine ⟨_,_,run_make w t e i z h1 h3 h4 kd kd' k k h0.1 (Int.le_refl _) hb (by omega),?_⟩
 have hfree:=h.free (Nat.le_refl w.heap.size)
 have hlen:(List.replicate k.toNat (zero.map zeroT)).length=k.toNat:=by simp
 have hzs:z.cells.size=p.length:=by rw [←zl,←h5];simp
 have hsz:i.size=p.length:=by rw [h6,←zl]
 have hcell:∀ o,(w.alloc (.cells (madeCells z.cells (k.toNat*i.size)) e)).cell? ⟨w.heap.size,o,none⟩=(madeCells z.cells (k.toNat*i.size))[o]?:=fun o=>cell_alloc_new w _ e o
 obtain ⟨O',Go',hr,hc⟩:=h.made (w':=w.alloc (.cells (madeCells z.cells (k.toNat*i.size)) e)) (Step.alloc A w _) (us:=[]) (fun b x hx _=>Same.alloc _ (h.oA b x hx).2) (fun b hb=>Same.alloc _ (h.fS b hb))
  (f:=fun _ _=>none) (ot:=p) (es:=List.replicate k.toNat (zero.map zeroT)) (g:=w.heap.size) (cap:=k.toNat) (fun _ j=>z.cells[j]!)
  (.inl ⟨hfree.1,hfree.2.1,hfree.2.2,by simp⟩) (by simp) (by simp) (by simp) (by simp only [maxLen];omega)
  (fun i row hrow=>by
   rw [List.getElem?_replicate] at hrow
   split at hrow
   ·simp at hrow;subst hrow;simp [zl]
   ·simp at hrow)
  (fun o ho=>⟨_,by rw [hcell,madeCells_get (by rw [hsz];exact ho)]⟩) (fun o _=>frozen_alloc_new w _ e o)
  (fun a b ha hb=>by
   rw [hlen] at ha
   have:a*p.length+b < k.toNat*i.size:=by
    rw [hsz]
    have:(a+1)*p.length≤k.toNat*p.length:=Nat.mul_le_mul_right _ (by omega)
    rw [Nat.add_mul] at this
    omega
   rw [hcell,madeCells_get this,hzs,div_mod_of hb])
  (fun a b row x q hrow hx hq=>by
   rw [List.getElem?_replicate] at hrow
   split at hrow
   ·simp at hrow
    subst hrow
    simp only [List.getElem?_map,Option.map_eq_some_iff] at hx
    obtain ⟨v,hv,rfl⟩:=hx
    have hbz:b < z.cells.size:=by rw [←Array.length_toList,h5];exact (List.getElem?_eq_some_iff.1 hv).1
    have:z.cells[b]! = v:=by
     rw [←h5] at hv
     simp [hbz] at hv
     simp [getElem!_pos,hbz,hv]
    rw [this]
    exact (hzo b q v hq hv).2
   ·simp at hrow)
 refine ⟨F,O',Go',Gv,?_,Step.alloc A w _,fun _ h=>h,fun _ h=>.inl h⟩
 have:=hr.put (d:=d) (s:=.v false [.ref st.objs.length [] 0 (List.replicate k.toNat (zero.map zeroT)).length]) (v:=.slice (some ⟨w.heap.size,0,none⟩) k.toNat k.toNat) ⟨_,rfl,.inl rfl,by rw [hlen] at hc ⊢;exact hc⟩ hd
 exact this
theorem Rel.newAt (h:Rel A pin w F O Go Gv st tm) (hw:Step A w w') (hsame:∀ b x,O b=some x→Same w w' b) (hF:∀ b,F b→Same w w' b) {id g cap:Nat} (hid:st.objs[id]? = some none)
  {ot:List OT} {v:Value} {es:List (List T)} (ho:Own w' F (fun p=>if p=[] then some ⟨g,cap⟩ else none) (.own ot) v (.sl es)) (hg:O g=none) (hFg : ¬ F g) (hA:A g) (hgs:g < w'.heap.size) :
  ∃ O' Go',Rel A pin w' F O' Go' Gv ⟨st.slots.map (SV.map (deadO id)),st.objs.set id (some ⟨ot,es⟩),st.vars.map (Option.map (List.map (deadO id)))⟩ tm∧Go' id []=some ⟨g,cap⟩:=by
 have hidl:id < st.objs.length:=(List.getElem?_eq_some_iff.1 hid).1
 have hGid:∀ p,Go id p=none:=by
  intro p
  cases hp:Go id p with
  | none=>rfl
  | some b=>
   obtain ⟨o,h1⟩:=h.objN id p b hp
   simp only [obj_eq,hid] at h1
   simp at h1
 generalize hst' : (⟨st.slots.map (SV.map (deadO id)),st.objs.set id (some ⟨ot,es⟩),st.vars.map (Option.map (List.map (deadO id)))⟩:St)=st'
 have hob:st'.obj id=some ⟨ot,es⟩:=by subst hst';simp [obj_eq,List.getElem?_set,hidl]
 have hone:∀ i,i≠id→st'.obj i=st.obj i:=by
  intro i hi
  subst hst'
  simp only [obj_eq]
  rw [List.getElem?_set_ne (Ne.symm hi)]
 have hol:st'.objs.length=st.objs.length:=by subst hst';simp
 have hvl:st'.vars.length=st.vars.length:=by subst hst';simp
 have hvv:∀ i,st'.var i=(st.var i).map (List.map (deadO id)):=by
  intro i
  subst hst'
  simp only [var_eq]
  rw [List.getElem?_map]
  cases st.vars[i]? with
  | none=>rfl
  | some y=>cases y <;> rfl
 let Go' : Nat→Gh:=fun i=>if i=id then (fun p=>if p=[] then some ⟨g,cap⟩ else none) else Go i
 have hGne:∀ i,i≠id→Go' i=Go i:=fun i hi=>by simp [Go',hi]
 have hGeq:Go' id=fun p=>if p=[] then some ⟨g,cap⟩ else none:=by simp [Go']
 let O' : Nat→Option Ow:=fun b=>if b=g then some (.obj id []) else O b
 have hne:∀ b x,O b=some x→b≠g:=fun b x hx e=>by rw [e,hg] at hx;simp at hx
 have hV:∀ {i j u},VRel st Gv i j u→VRel st' Gv i j u:=by
  intro i j u hv
  refine ⟨by rw [hvl];exact hv.1,fun cs' hc=>?_⟩
  rw [hvv] at hc
  obtain ⟨cs0,h1,_⟩:=Option.map_eq_some_iff.1 hc
  exact hv.2 cs0 h1
 have hC:∀ u c,CRel w F Go Gv st u c→CRel w' F Go' Gv st' u (deadO id c):=by
  intro u c hc
  cases c with
  | lit x=>exact hc
  | ro p es=>exact Rd.keep hF (fun _ h=>h) hc
  | ref i p off len=>
   simp only [deadO]
   split
   ·trivial
   ·rename_i hi
    refine ⟨by rw [hol];exact hc.1,fun o' ho'=>?_⟩
    rw [hone i hi] at ho'
    rw [hGne i hi]
    exact hc.2 o' ho'
  | ptr i p a b=>
   simp only [deadO]
   split
   ·trivial
   ·rename_i hi
    refine ⟨by rw [hol];exact hc.1,fun o' ho'=>?_⟩
    rw [hone i hi] at ho'
    rw [hGne i hi]
    exact hc.2 o' ho'
  | rptr p cs=>
   obtain ⟨g2,o,h1,h2,h3,h4⟩:=hc
   refine ⟨g2,o,h1,h2,h3,fun k x q h5 h6=>?_⟩
   obtain ⟨u2,h7,h8⟩:=h4 k x q h5 h6
   exact ⟨u2,(hF g2 h2 _).1.trans h7,h8.keep hF (fun _ h=>h)⟩
  | vptr i j=>exact hV hc
  | clo f cap=>
   obtain ⟨vs,h1,h2,h3⟩:=hc
   exact ⟨vs,h1,h2,fun k u i h4 h5=>hV (h3 k u i h4 h5)⟩
  | dead=>trivial
 refine ⟨O',Go',⟨?_,?_,?_,?_,?_,?_,?_,?_,?_,?_,fun b hb=>Nat.lt_of_lt_of_le (h.fS b hb) hw.size,fun b hb=>h.aN b (Nat.le_trans hw.size hb),h.pinned⟩,by simp [Go']⟩
 ·subst hst';simp [h.size]
 ·intro k u s h1 h2
  have:st'.slots=st.slots.map (SV.map (deadO id)):=by subst hst';rfl
  rw [this,List.getElem?_map] at h2
  obtain ⟨s0,h3,rfl⟩:=Option.map_eq_some_iff.1 h2
  exact SRel.map hC rfl (h.slots k u s0 h1 h3)
 ·intro i o hoo
  by_cases hi:i=id
  ·subst hi
   rw [hob] at hoo
   obtain rfl:=Option.some.inj hoo
   exact ⟨v,by rw [hGeq];exact ho⟩
  ·rw [hone i hi] at hoo
   obtain ⟨u,hu⟩:=h.objs i o hoo
   refine ⟨u,?_⟩
   rw [hGne i hi]
   exact hu.keep hF (fun _ h=>h) (fun _=>rfl) (fun r b hb=>hsame _ _ (h.oO _ _ _ hb))
 ·intro i p b hb
  by_cases hi:i=id
  ·subst hi;exact ⟨_,hob⟩
  ·rw [hGne i hi] at hb
   obtain ⟨o,h1⟩:=h.objN i p b hb
   exact ⟨o,by rw [hone i hi];exact h1⟩
 ·intro i cs' hcs'
  rw [hvv] at hcs'
  obtain ⟨cs0,h1,rfl⟩:=Option.map_eq_some_iff.1 hcs'
  obtain ⟨g2,h2,h3⟩:=h.vars i cs0 h1
  refine ⟨g2,h2,fun k c hk=>?_⟩
  rw [List.getElem?_map] at hk
  obtain ⟨c0,hk0,rfl⟩:=Option.map_eq_some_iff.1 hk
  obtain ⟨u,a1,a2,a3,a4⟩:=h3 k c0 hk0
  have hs:=hsame g2 _ (h.oV _ _ h2)
  exact ⟨u,(hs _).1.trans a1,((hs _).2 ⟨u,a1⟩).trans a2,a3,hC _ _ a4⟩
 ·intro i g2 h2
  obtain ⟨cs,h1⟩:=h.varN i g2 h2
  exact ⟨_,by rw [hvv,h1];rfl⟩
 ·intro i p b hb
  by_cases hi:i=id
  ·subst hi
   rw [hGeq] at hb
   dsimp only at hb
   split at hb
   ·rename_i hp
    subst hp
    obtain rfl:=Option.some.inj hb
    simp [O']
   ·simp at hb
  ·rw [hGne i hi] at hb
   have:=h.oO i p b hb
   simp [O',hne _ _ this,this]
 ·intro i g2 hg2
  have:=h.oV i g2 hg2
  simp [O',hne _ _ this,this]
 ·intro b hb
  have:b≠g:=fun e=>hFg (e ▸ hb)
  simp [O',this,h.oF b hb]
 ·intro b x hx
  simp only [O'] at hx
  by_cases hb:b=g
  ·subst hb;exact ⟨hA,hgs⟩
  ·simp only [hb,if_false] at hx
   exact ⟨(h.oA b x hx).1,Nat.lt_of_lt_of_le (h.oA b x hx).2 hw.size⟩
theorem sound_mkk (h:Rel A pin w F O Go Gv st tm) {t:TypeId} {p:List OT} {zero:List Value} {lim:Nat} (ht:sliceIs P t (fun e=>elemIs P e zero lim)=true) (hz:zeroOk p zero=true) {k:Int} (h0:0≤k∧k≤lim) (kd kd' : IntKind) {id:Nat} (hid:st.objs[id]? = some none) {d:Nat} (hd:∀ x,(d,x) ∉ pin) :
  ∃ v w',(Instr.makeSlice t (.int kd k) (.int kd' k)).run P w=.ok v w'∧
   Good A pin w F (st.pushK d ⟨p,List.replicate k.toNat (zero.map zeroT)⟩ id) (tm.setIfInBounds d v) w':=by
 obtain ⟨e,h1,h2⟩:=sliceIs_some ht
 obtain ⟨i,z,h3,h4,h5,h6,h7,h8,h9⟩:=elemIs_some h2
 obtain ⟨zl,hzo⟩:=zeroOk_own (w:=w.alloc (.cells (madeCells z.cells (k.toNat*i.size)) e)) (F:=F) hz
 have hb:(i.bytes:Int)*k≤281474976710656:=by
  have h10:(k.toNat*i.bytes:Nat)≤lim*i.bytes:=Nat.mul_le_mul_right _ (by omega)
  have h11:(i.bytes:Int)*k=((k.toNat*i.bytes:Nat):Int):=by
   rw [Int.natCast_mul,Int.toNat_of_nonneg h0.1,Int.mul_comm]
  omega
 refine ⟨_,_,run_make w t e i z h1 h3 h4 kd kd' k k h0.1 (Int.le_refl _) hb (by omega),?_⟩
 have hfree:=h.free (Nat.le_refl w.heap.size)
 have hlen:(List.replicate k.toNat (zero.map zeroT)).length=k.toNat:=by simp
 have hzs:z.cells.size=p.length:=by rw [←zl,←h5];simp
 have hsz:i.size=p.length:=by rw [h6,←zl]
 have hcell:∀ o,(w.alloc (.cells (madeCells z.cells (k.toNat*i.size)) e)).cell? ⟨w.heap.size,o,none⟩=(madeCells z.cells (k.toNat*i.size))[o]?:=fun o=>cell_alloc_new w _ e o
 have hown:Own (w.alloc (.cells (madeCells z.cells (k.toNat*i.size)) e)) F (fun q=>if q=[] then some ⟨w.heap.size,k.toNat⟩ else none) (.own p) (.slice (some ⟨w.heap.size,0,none⟩) (List.replicate k.toNat (zero.map zeroT)).length k.toNat) (.sl (List.replicate k.toNat (zero.map zeroT))):=by
  refine .sl (fun _ j=>z.cells[j]!) (by simp) (by simp) (by simp only [maxLen];omega) ?_ (fun o ho=>⟨_,by rw [hcell,madeCells_get (by rw [hsz];exact ho)]⟩) (fun o _=>frozen_alloc_new w _ e o) ?_ ?_
  ·intro i row hrow
   rw [List.getElem?_replicate] at hrow
   split at hrow
   ·simp at hrow;subst hrow;simp [zl]
   ·simp at hrow
  ·intro a b ha hb
   rw [hlen] at ha
   have:a*p.length+b < k.toNat*i.size:=by
    rw [hsz]
    have:(a+1)*p.length≤k.toNat*p.length:=Nat.mul_le_mul_right _ (by omega)
    rw [Nat.add_mul] at this
    omega
   rw [hcell,madeCells_get this,hzs,div_mod_of hb]
  ·intro a b row x q hrow hx hq
   rw [List.getElem?_replicate] at hrow
   split at hrow
   ·simp at hrow
    subst hrow
    simp only [List.getElem?_map,Option.map_eq_some_iff] at hx
    obtain ⟨v,hv,rfl⟩:=hx
    have hbz:b < z.cells.size:=by rw [←Array.length_toList,h5];exact (List.getElem?_eq_some_iff.1 hv).1
    have:z.cells[b]! = v:=by
     rw [←h5] at hv
     simp [hbz] at hv
     simp [getElem!_pos,hbz,hv]
    rw [this]
    have:=(hzo b q v hq hv).2
    simpa using this
   ·simp at hrow
 obtain ⟨O',Go',hr,hgo⟩:=h.newAt (Step.alloc A w _) (fun b x hx=>Same.alloc _ (h.oA b x hx).2) (fun b hb=>Same.alloc _ (h.fS b hb)) hid hown hfree.1 hfree.2.1 hfree.2.2 (by simp)
 have hidl:id < st.objs.length:=(List.getElem?_eq_some_iff.1 hid).1
 refine ⟨F,O',Go',Gv,?_,Step.alloc A w _,fun _ h=>h,fun _ h=>.inl h⟩
 have:=hr.put (d:=d) (s:=.v false [.ref id [] 0 (List.replicate k.toNat (zero.map zeroT)).length]) (v:=.slice (some ⟨w.heap.size,0,none⟩) k.toNat k.toNat) ⟨_,rfl,.inl rfl,by simpa using hidl,fun o' _=>by simp only [hgo];exact .inl ⟨trivial,by simp,by simp⟩⟩ hd
 exact this
end
end Go.Proofs.V

namespace Go.Proofs.V
open Go
variable {P:Program}
theorem foldSet (off:Nat):∀ (l:List Value) (n:Nat) (cs:Array Value),
  ((l.zipIdx n).foldl (fun cs x=>cs.setIfInBounds (off+x.2) x.1) cs).size=cs.size∧
  ∀ k,((l.zipIdx n).foldl (fun cs x=>cs.setIfInBounds (off+x.2) x.1) cs)[k]? = if off+n≤k∧k < off+n+l.length∧k < cs.size then l[k - (off+n)]? else cs[k]?
 | [],n,cs=>⟨rfl,fun k=>by simp;omega⟩
 | v::l,n,cs=>by
  have ih:=foldSet off l (n+1) (cs.setIfInBounds (off+n) v)
  simp only [List.zipIdx_cons,List.foldl_cons]
  refine ⟨by rw [ih.1];simp,fun k=>?_⟩
  rw [ih.2 k]
  simp only [Array.size_setIfInBounds,Array.getElem?_setIfInBounds,List.length_cons]
  by_cases h1:k=off+n
  ·subst h1
   have : ¬ (off+(n+1)≤off+n∧off+n < off+(n+1)+l.length∧off+n < cs.size):=by omega
   simp only [this,if_false,if_true]
   by_cases h2:off+n < cs.size
   ·have:off+n≤off+n∧off+n < off+n+(l.length+1)∧off+n < cs.size:=by omega
    simp [h2]
   ·have : ¬ (off+n≤off+n∧off+n < off+n+(l.length+1)∧off+n < cs.size):=by omega
    rw [if_neg h2,if_neg this,Array.getElem?_eq_none (by omega)]
  ·simp only [Ne.symm h1,if_false]
   by_cases h2:off+(n+1)≤k∧k < off+(n+1)+l.length∧k < cs.size
   ·have h3:off+n≤k∧k < off+n+(l.length+1)∧k < cs.size:=by omega
    simp only [h2,h3,and_self,if_true]
    rw [show k - (off+n)=(k - (off+(n+1)))+1 by omega,List.getElem?_cons_succ]
   ·have h3 : ¬ (off+n≤k∧k < off+n+(l.length+1)∧k < cs.size):=by omega
    simp only [h2,h3,if_false]
theorem foldSetA (off:Nat) (vs cs:Array Value) :
  (vs.zipIdx.foldl (fun cs x=>cs.setIfInBounds (off+x.2) x.1) cs).size=cs.size∧
  ∀ k,(vs.zipIdx.foldl (fun cs x=>cs.setIfInBounds (off+x.2) x.1) cs)[k]? = if off≤k∧k < off+vs.size∧k < cs.size then vs[k - off]? else cs[k]?:=by
 have h:=foldSet off vs.toList 0 cs
 simp only [Nat.add_zero] at h
 rw [←Array.foldl_toList,Array.toList_zipIdx]
 refine ⟨h.1,fun k=>?_⟩
 rw [h.2 k]
 simp
theorem fill_cons {place:Nat→Option (Nat×Nat)} {cells:Array Value} {i off size:Nat} {v:Value} {rest:List (Nat×Value)} (hp:place i=some (off,size)) (h1:v.cells.size=size) (h2:off+size≤cells.size) :
  Instr.fill place cells ((i,v)::rest)=Instr.fill place (v.cells.zipIdx.foldl (fun cs x=>cs.setIfInBounds (off+x.2) x.1) cells) rest:=by
 subst h1
 have : ¬ (off+v.cells.size > cells.size):=by omega
 simp [Instr.fill,hp,this]
theorem fill_rows (sz N:Nat):∀ (vs:List Value) (n0:Nat) (cells:Array Value),cells.size=N*sz→n0+vs.length≤N→(∀ v ∈ vs,v.cells.size=sz)→
  ∃ cells',Instr.fill (fun i=>some (i*sz,sz)) cells ((vs.zipIdx n0).map fun x=>(x.2,x.1))=some cells'∧cells'.size=cells.size∧
   (∀ i j v,vs[i]? = some v→j < sz→cells'[(n0+i)*sz+j]? = v.cells[j]?)∧(∀ k,k < n0*sz→cells'[k]? = cells[k]?)
 | [],n0,cells,_,_,_=>⟨cells,rfl,rfl,by simp,fun _ _=>rfl⟩
 | v::vs,n0,cells,hc,hn,hv=>by
  simp at hn
  have h1:v.cells.size=sz:=hv v (by simp)
  have h2:n0*sz+sz≤cells.size:=by
   rw [hc,←Nat.succ_mul]
   exact Nat.mul_le_mul_right _ (by omega)
  have hf:=foldSetA (n0*sz) v.cells cells
  obtain ⟨cells',a1,a2,a3,a4⟩:=fill_rows sz N vs (n0+1) (v.cells.zipIdx.foldl (fun cs x=>cs.setIfInBounds (n0*sz+x.2) x.1) cells) (by rw [hf.1,hc]) (by omega) (fun v' hv'=>hv v' (by simp [hv']))
  refine ⟨cells',?_,by rw [a2,hf.1],?_,?_⟩
  ·simp only [List.zipIdx_cons,List.map_cons]
   rw [fill_cons (off:=n0*sz) (size:=sz) rfl h1 h2]
   exact a1
  ·intro i j v' hi hj
   cases i with
   | zero=>
    simp at hi
    subst hi
    simp only [Nat.add_zero]
    rw [a4 _ (by rw [Nat.succ_mul];omega),hf.2]
    have:n0*sz≤n0*sz+j∧n0*sz+j < n0*sz+v.cells.size∧n0*sz+j < cells.size:=by omega
    simp only [this,and_self,if_true]
    rw [show n0*sz+j - n0*sz=j by omega]
   | succ i=>
    have:=a3 i j v' (by simpa using hi) hj
    rwa [show n0+1+i=n0+(i+1) by omega] at this
  ·intro k hk
   rw [a4 k (by rw [Nat.succ_mul];omega),hf.2]
   have : ¬ (n0*sz≤k∧k < n0*sz+v.cells.size∧k < cells.size):=by omega
   simp only [this,if_false]
theorem run_lits {w:World} {t e:TypeId} {p:List OT} {i:TypeInfo} {z:Value} (ht:P.underlying t=some (.slice e)) (hi:P.info? e=some i) (hz:i.zero=some z) (hsz:i.size=p.length) (hzs:z.cells.size=p.length) {vs:List Value} {parts:Array (Nat×Value)}
  (hp:parts.toList=vs.zipIdx.map fun x=>(x.2,x.1)) (hv:∀ v ∈ vs,v.cells.size=p.length) (hN:vs.length*p.length≤2 ^ 24) :
  ∃ cells:Array Value,(Instr.buildSlice t vs.length parts).run P w=.ok (.slice (some ⟨w.heap.size,0,none⟩) vs.length vs.length) (w.alloc (.cells cells e))∧cells.size=vs.length*p.length∧
   ∀ i j v,vs[i]? = some v→j < p.length→cells[i*p.length+j]? = v.cells[j]?:=by
 have hN' : ¬ (vs.length*i.size > 2 ^ 24):=by rw [hsz];omega
 by_cases h0:vs.length*p.length=0
 ·have:∃ cells:Array Value,Instr.fill (fun j=>some (j*i.size,i.size)) ((Array.range (vs.length*i.size)).map ((#[]:Array Value)[· % (#[]:Array Value).size]!)) parts.toList=some cells∧cells.size=vs.length*p.length∧
    ∀ i j v,vs[i]? = some v→j < p.length→cells[i*p.length+j]? = v.cells[j]?:=by
   rw [hp,hsz,h0]
   obtain ⟨cells',a1,a2,a3,_⟩:=fill_rows p.length vs.length vs 0 ((Array.range 0).map ((#[]:Array Value)[· % (#[]:Array Value).size]!)) (by simp [h0]) (by omega) hv
   exact ⟨cells',a1,by rw [a2];simp,fun i j v hi hj=>by have:=a3 i j v hi hj;simpa using this⟩
  obtain ⟨cells,a1,a2,a3⟩:=this
  refine ⟨cells,?_,a2,a3⟩
  have h0' : vs.length*i.size=0:=by rw [hsz];exact h0
  simp [Instr.buildSlice,run_underlying ht,sizeOf,typeInfo,hi,hN',h0',newRow] at a1 ⊢
  simp [a1]
 ·have:∃ cells:Array Value,Instr.fill (fun j=>some (j*i.size,i.size)) ((Array.range (vs.length*i.size)).map (z.cells[· % z.cells.size]!)) parts.toList=some cells∧cells.size=vs.length*p.length∧
    ∀ i j v,vs[i]? = some v→j < p.length→cells[i*p.length+j]? = v.cells[j]?:=by
   rw [hp,hsz]
   obtain ⟨cells',a1,a2,a3,_⟩:=fill_rows p.length vs.length vs 0 ((Array.range (vs.length*p.length)).map (z.cells[· % z.cells.size]!)) (by simp) (by omega) hv
   exact ⟨cells',a1,by rw [a2];simp,fun i j v hi hj=>by have:=a3 i j v hi hj;simpa using this⟩
  obtain ⟨cells,a1,a2,a3⟩:=this
  refine ⟨cells,?_,a2,a3⟩
  have h0' : ¬ vs.length*i.size=0:=by rw [hsz];exact h0
  simp only [Instr.buildSlice,Sem.run_bind,run_underlying ht,Result.andThen_ok,sizeOf,typeInfo]
  simp [hi,hN',h0',zeroValue,typeInfo,hz,newRow,a1]
end Go.Proofs.V

namespace Go.Proofs.V
open Go
variable {P:Program}
theorem distinct_nodup:∀ {l:List Nat},distinct l=true→l.Nodup
 | [],_=>List.nodup_nil
 | x::l,h=>by
  simp only [distinct,Bool.and_eq_true,Bool.not_eq_true',List.contains_eq_mem,decide_eq_false_iff_not] at h
  exact List.nodup_cons.2 ⟨h.1,distinct_nodup h.2⟩
theorem flat_idx {L:List (List Nat)} (h:L.flatten.Nodup) {i i' x:Nat} {l l' : List Nat} (h1:L[i]? = some l) (h2:L[i']? = some l') (hx:x ∈ l) (hx' : x ∈ l'):i=i':=by
 rw [List.nodup_iff_pairwise_ne] at h
 have h3:=(List.pairwise_flatten.1 h).2
 rw [List.pairwise_iff_getElem] at h3
 have a1:=(List.getElem?_eq_some_iff.1 h1)
 have a2:=(List.getElem?_eq_some_iff.1 h2)
 obtain ⟨b1,c1⟩:=a1
 obtain ⟨b2,c2⟩:=a2
 rcases Nat.lt_trichotomy i i' with hlt | heq | hgt
 ·exact absurd rfl (h3 i i' b1 b2 hlt x (c1 ▸ hx) x (c2 ▸ hx'))
 ·exact heq
 ·exact absurd rfl (h3 i' i b2 b1 hgt x (c2 ▸ hx') x (c1 ▸ hx))
theorem flat_nodup {L:List (List Nat)} (h:L.flatten.Nodup) {i:Nat} {l:List Nat} (h1:L[i]? = some l):l.Nodup:=by
 rw [List.nodup_iff_pairwise_ne] at h ⊢
 exact (List.pairwise_flatten.1 h).1 l (List.mem_of_getElem? h1)
def rowUs (p:List OT) (cs:List C):List Nat:=(List.zipWith (fun o c=>(cid o c).toList) p cs).flatten
def litF (p:List OT) (css:List (List C)) (i j:Nat):Option (Nat×Pth):=
 match css[i]?,p[j]? with
 | some cs,some o=>
  match cs[j]? with
  | some c=>(cid o c).map fun id=>(id,[])
  | none=>none
 | _,_=>none
theorem litF_some {p:List OT} {css:List (List C)} {i j id:Nat} {pre:Pth} (h:litF p css i j=some (id,pre)):∃ cs o c,css[i]? = some cs∧p[j]? = some o∧cs[j]? = some c∧cid o c=some id∧pre=[]:=by
 unfold litF at h
 split at h
 ·rename_i cs o h1 h2
  split at h
  ·rename_i c h3
   simp only [Option.map_eq_some_iff] at h
   obtain ⟨k,h4,h5⟩:=h
   simp at h5
   exact ⟨cs,o,c,h1,h2,h3,by rw [h4,h5.1],h5.2⟩
  ·simp at h
 ·simp at h
theorem litF_mem {p:List OT} {css:List (List C)} {i j id:Nat} {pre:Pth} (h:litF p css i j=some (id,pre)):∃ cs,css[i]? = some cs∧(List.zipWith (fun o c=>(cid o c).toList) p cs)[j]? = some [id]:=by
 obtain ⟨cs,o,c,h1,h2,h3,h4,_⟩:=litF_some h
 exact ⟨cs,h1,by simp [List.getElem?_zipWith,h2,h3,h4]⟩
theorem litF_inj {p:List OT} {css:List (List C)} (hn:((css.map (rowUs p)).flatten).Nodup) {i j i' j' id:Nat} {pre pre' : Pth} (h:litF p css i j=some (id,pre)) (h' : litF p css i' j' = some (id,pre')):i=i'∧j=j':=by
 obtain ⟨cs,h1,h2⟩:=litF_mem h
 obtain ⟨cs',h1',h2'⟩:=litF_mem h'
 have m1:id ∈ rowUs p cs:=List.mem_flatten.2 ⟨_,List.mem_of_getElem? h2,by simp⟩
 have m2:id ∈ rowUs p cs':=List.mem_flatten.2 ⟨_,List.mem_of_getElem? h2',by simp⟩
 have hi:=flat_idx hn (i:=i) (i':=i') (by simp [h1]) (by simp [h1']) m1 m2
 subst hi
 rw [h1] at h1'
 simp at h1'
 subst h1'
 have hr:(rowUs p cs).Nodup:=flat_nodup hn (i:=i) (by simp [h1])
 exact ⟨rfl,flat_idx (x:=id) hr h2 h2' (by simp) (by simp)⟩
section
variable {A:Nat→Prop} {pin:List (Nat×Value)} {w w' : World} {F:Nat→Prop} {O:Nat→Option Ow} {Go:Nat→Gh} {Gv:Nat→Option Nat} {st:St} {tm:Array Value}
theorem Rel.rowsAll (h:Rel A pin w F O Go Gv st tm) (ds:List Deferred) {p:List OT} (hp0:p≠[]):∀ {xs:List Opd} {ys:List Operand} {es:List (List T)} {us:List Nat},V.rowsAll st p xs=some (es,us)→opdsAre xs ys=true→
  ∃ css:List (List C),css.length=xs.length∧es.length=xs.length∧ys.length=xs.length∧us=(css.map (rowUs p)).flatten∧(∀ id,id ∈ us→∃ o,st.obj id=some o)∧
   ∀ (i:Nat) (y:Operand) (cs:List C) (row:List T),ys[i]? = some y→css[i]? = some cs→es[i]? = some row→
    ((Act.mk tm ds).eval y).cells.size=p.length∧row.length=p.length∧cs.length=p.length∧
    ∀ (j:Nat) (o:OT) (c:C) (x:T) (v:Value),p[j]? = some o→cs[j]? = some c→row[j]? = some x→((Act.mk tm ds).eval y).cells[j]? = some v→v.oneCell' = true∧Own w F (cG Go o c) o v x
 | [],[],es,us,hr,_=>by
  simp [V.rowsAll] at hr
  obtain ⟨rfl,rfl⟩:=hr
  exact ⟨[],rfl,rfl,rfl,rfl,by simp,by simp⟩
 | [],_::_,_,_,_,hxy | _::_,[],_,_,_,hxy=>by simp [opdsAre] at hxy
 | x::xs,y::ys,es,us,hr,hxy=>by
  simp only [opdsAre,Bool.and_eq_true] at hxy
  simp only [V.rowsAll] at hr
  split at hr
  ·rename_i a cs rows us' h1 h2
   split at hr
   ·rename_i ts u h3
    simp at hr
    obtain ⟨rfl,rfl⟩:=hr
    obtain ⟨css,c1,c2,c3,c4,c5,c6⟩:=h.rowsAll ds hp0 h2 hxy.2
    simp only [Option.bind_eq_some_iff] at h1
    obtain ⟨s,hs,hsc⟩:=h1
    have hne:∀ c,cs=[c]→c≠.lit undef:=by
     rintro c rfl rfl
     cases p with
     | nil=>exact hp0 rfl
     | cons o p=>
      simp only [V.toTs] at h3
      cases o <;> simp [V.toT,undef,isLit] at h3
    have hcr:=cells_of_slot (h.get hxy.1 hs ds) hsc hne
    obtain ⟨b1,b2,b3,b4,b5,b6⟩:=h.toTs h3 hcr
    refine ⟨cs::css,by simp [c1],by simp [c2],by simp [c3],by simp [b5,c4,rowUs],?_,?_⟩
    ·intro id hid
     simp at hid
     rcases hid with hid | hid
     ·exact b6 id hid
     ·exact c5 id hid
    ·intro i y' cs' row e1 e2 e3
     cases i with
     | zero=>
      simp at e1 e2 e3
      subst e1;subst e2;subst e3
      exact ⟨by simpa using b3,b2,b1,fun j o c x v f1 f2 f3 f4=>b4 j o c x v f1 f2 f3 (by simpa using f4)⟩
     | succ i=>exact c6 i y' cs' row (by simpa using e1) (by simpa using e2) (by simpa using e3)
   ·simp at hr
  ·simp at hr
def partsAre (ps:List (Nat×Operand)) (xs:List Opd):Bool:=decide (ps.map (·.1)=List.range xs.length)&&opdsAre xs (ps.map (·.2))
theorem sound_lits (h:Rel A pin w F O Go Gv st tm) (ds:List Deferred) {t:TypeId} {p:List OT} {zero:List Value} {lim:Nat} (ht:sliceIs P t (fun e=>elemIs P e zero lim)=true) (hz:zero.length=p.length) {rows:List Opd} {parts:Array (Nat×Operand)}
  (hps:partsAre parts.toList rows=true) (hN:rows.length*p.length≤16777216) {es:List (List T)} {us:List Nat} (hr:V.rowsAll st p rows=some (es,us)) (hdist:distinct us=true) {d:Nat} (hd:∀ x,(d,x) ∉ pin) :
  ∃ v w',(Instr.buildSlice t rows.length (parts.map fun x=>(x.1,(Act.mk tm ds).eval x.2))).run P w=.ok v w'∧Good A pin w F ((st.kill us).push d ⟨p,es⟩) (tm.setIfInBounds d v) w':=by
 obtain ⟨e,h1,h2⟩:=sliceIs_some ht
 obtain ⟨i,z,h3,h4,h5,h6,h7,h8,h9⟩:=elemIs_some h2
 simp only [partsAre,Bool.and_eq_true,decide_eq_true_eq] at hps
 have hp0:p≠[]:=by rintro rfl;simp at hz;rw [hz] at h7;simp at h7
 obtain ⟨css,c1,c2,c3,c4,c5,c6⟩:=h.rowsAll ds hp0 hr hps.2
 have hzs:z.cells.size=p.length:=by rw [←hz,←h5];simp
 have hsz:i.size=p.length:=by rw [h6,hz]
 have hvl:((parts.toList.map (·.2)).map (Act.mk tm ds).eval).length=rows.length:=by rw [List.length_map];exact c3
 have hp:(parts.map fun x=>(x.1,(Act.mk tm ds).eval x.2)).toList=((parts.toList.map (·.2)).map (Act.mk tm ds).eval).zipIdx.map fun x=>(x.2,x.1):=by
  rw [Array.toList_map]
  apply List.ext_getElem?
  intro k
  have hk1:=congrArg (·[k]?) hps.1
  simp only [List.getElem?_map,List.getElem?_range'] at hk1
  have hlen:parts.toList.length=rows.length:=by simpa using c3
  by_cases hk:k < rows.length
  ·have hk2:k < parts.toList.length:=by omega
   rw [List.getElem?_eq_getElem hk2] at hk1
   simp [hk] at hk1
   simp [List.getElem?_zipIdx,hk2]
   have:k < parts.size:=by simpa using hk2
   simp [this] at hk1 ⊢
   exact hk1
  ·have hk2 : ¬ k < parts.size:=by have:=hlen;simp at this;omega
   simp [hk2]
 obtain ⟨cells,r1,r2,r3⟩:=run_lits (w:=w) h1 h3 h4 hsz hzs hp (fun v hv=>by
  obtain ⟨k,hk⟩:=List.getElem?_of_mem hv
  simp only [List.map_map,List.getElem?_map,Option.map_eq_some_iff] at hk
  obtain ⟨y,hy,rfl⟩:=hk
  have hkl:k < rows.length:=by
   have:=(List.getElem?_eq_some_iff.1 hy).1
   simp at c3
   simp at this
   omega
  exact (c6 k y.2 css[k] es[k] (by simp [hy]) (by simp [c1,hkl]) (by simp [c2,hkl])).1) (by rw [hvl];omega)
 rw [hvl] at r1 r2
 refine ⟨_,_,r1,?_⟩
 have hfree:=h.free (Nat.le_refl w.heap.size)
 have hcell:∀ o,(w.alloc (.cells cells e)).cell? ⟨w.heap.size,o,none⟩=cells[o]?:=fun o=>cell_alloc_new w cells e o
 have hFk:∀ b,F b→Same w (w.alloc (.cells cells e)) b:=fun b hb=>Same.alloc _ (h.fS b hb)
 have hnd:=distinct_nodup hdist
 rw [c4] at hnd
 have hget:∀ a b,a < rows.length→b < p.length→∃ y cs row v o c x,(parts.toList.map (·.2))[a]? = some y∧css[a]? = some cs∧es[a]? = some row∧((Act.mk tm ds).eval y).cells[b]? = some v∧p[b]? = some o∧cs[b]? = some c∧row[b]? = some x∧
   v.oneCell' = true∧Own w F (cG Go o c) o v x:=by
  intro a b ha hb
  have ha1:a < (parts.toList.map (·.2)).length:=by omega
  have ha2:a < css.length:=by omega
  have ha3:a < es.length:=by omega
  obtain ⟨e1,e2,e3,e4⟩:=c6 a _ css[a] es[a] (List.getElem?_eq_getElem ha1) (by simp [ha2]) (by simp [ha3])
  refine ⟨_,_,_,_,_,_,_,List.getElem?_eq_getElem ha1,List.getElem?_eq_getElem ha2,List.getElem?_eq_getElem ha3,Array.getElem?_eq_getElem (by omega),List.getElem?_eq_getElem hb,List.getElem?_eq_getElem (by omega),List.getElem?_eq_getElem (by omega),?_⟩
  exact e4 b _ _ _ _ (List.getElem?_eq_getElem hb) (List.getElem?_eq_getElem (by omega)) (List.getElem?_eq_getElem (by omega)) (Array.getElem?_eq_getElem (by omega))
 have hcv:∀ a b,a < es.length→b < p.length→cells[a*p.length+b]? = some (((((parts.toList.map (·.2))[a]?).map (fun y=>((Act.mk tm ds).eval y).cells)).getD #[])[b]!):=by
  intro a b ha hb
  obtain ⟨y,cs,row,v,o,c,x,e1,e2,e3,e4,_⟩:=hget a b (by omega) hb
  have:=r3 a b ((Act.mk tm ds).eval y) (by rw [List.getElem?_map,e1];rfl) hb
  rw [this,e4,e1]
  have hb' : b < ((Act.mk tm ds).eval y).cells.size:=(Array.getElem?_eq_some_iff.1 e4).1
  simp [hb',getElem!_pos] at e4 ⊢
  exact e4.symm
 obtain ⟨O',Go',hrel,hc⟩:=h.made (w':=w.alloc (.cells cells e)) (Step.alloc A w _) (us:=us) (fun b x hx _=>Same.alloc _ (h.oA b x hx).2) hFk
  (f:=litF p css) (ot:=p) (es:=es) (g:=w.heap.size) (cap:=rows.length) (fun a b=>((((parts.toList.map (·.2))[a]?).map (fun y=>((Act.mk tm ds).eval y).cells)).getD #[])[b]!)
  (.inl ⟨hfree.1,hfree.2.1,hfree.2.2,by simp⟩)
  (fun i j i' j' id pre pre' r r' e1 e2 _=>litF_inj hnd e1 e2)
  (fun i j id pre e1=>by
   obtain ⟨cs,f1,f2⟩:=litF_mem e1
   rw [c4]
   exact List.mem_flatten.2 ⟨rowUs p cs,by simp;exact ⟨cs,List.mem_of_getElem? f1,rfl⟩,List.mem_flatten.2 ⟨_,List.mem_of_getElem? f2,by simp⟩⟩)
  (by omega) (by
   have:rows.length≤rows.length*p.length:=Nat.le_mul_of_pos_right _ (by rw [←hz];exact h7)
   simp only [maxLen];omega)
  (fun a row hrow=>by
   have ha:a < es.length:=(List.getElem?_eq_some_iff.1 hrow).1
   exact (c6 a _ css[a] row (List.getElem?_eq_getElem (show a < (parts.toList.map (·.2)).length by omega)) (by simp [show a < css.length by omega]) hrow).2.1)
  (fun o ho=>by rw [hcell];exact ⟨_,Array.getElem?_eq_getElem (by omega)⟩) (fun o _=>frozen_alloc_new w _ e o)
  (fun a b ha hb=>by rw [hcell];exact hcv a b ha hb)
  (fun a b row x q hrow hx hq=>by
   have ha:a < es.length:=(List.getElem?_eq_some_iff.1 hrow).1
   have hb:b < p.length:=(List.getElem?_eq_some_iff.1 hq).1
   obtain ⟨y,cs,row',v,o,c,x',e1,e2,e3,e4,e5,e6,e7,e8,e9⟩:=hget a b (by omega) hb
   rw [hrow] at e3
   simp at e3
   subst e3
   rw [hx] at e7
   simp at e7
   subst e7
   rw [hq] at e5
   simp at e5
   subst e5
   have hv:(((((parts.toList.map (·.2))[a]?).map (fun y=>((Act.mk tm ds).eval y).cells)).getD #[])[b]!)=v:=by
    have hb' : b < ((Act.mk tm ds).eval y).cells.size:=(Array.getElem?_eq_some_iff.1 e4).1
    rw [e1]
    simp [hb',getElem!_pos] at e4 ⊢
    exact e4
   rw [hv]
   refine e9.keep hFk (fun _ h=>h) (fun r=>?_) (fun r b hb=>?_)
   ·simp only [mkG,litF,e2,hq,e6]
    unfold cG
    cases cid q c <;> rfl
   ·obtain ⟨k,_,hk⟩:=cG_some hb
    exact Same.alloc _ (h.oA _ _ (h.oO _ _ _ hk)).2)
 refine ⟨F,O',Go',Gv,?_,Step.alloc A w _,fun _ h=>h,fun _ h=>.inl h⟩
 have hel:es.length=rows.length:=c2
 have:=hrel.put (d:=d) (s:=.v false [.ref st.objs.length [] 0 es.length]) (v:=.slice (some ⟨w.heap.size,0,none⟩) rows.length rows.length) ⟨_,rfl,.inl rfl,by rw [hel] at hc ⊢;exact hc⟩ hd
 simpa [St.push,St.kill,St.set,killO_length] using this
end
end Go.Proofs.V

namespace Go.Proofs.V
open Go
variable {P:Program}
theorem Same.setCells (g:Nat) {b:Nat} (hb:b≠g):∀ (vs:List Value) (k:Nat) (w:World),Same w (w.setCells g k vs) b
 | [],_,w=>Same.refl w b
 | v::vs,k,w=>(Same.setCell w g k v hb).trans (Same.setCells g hb vs (k+1) _)
section
variable {A:Nat→Prop} {pin:List (Nat×Value)} {w w' : World} {F:Nat→Prop} {O:Nat→Option Ow} {Go:Nat→Gh} {Gv:Nat→Option Nat} {st:St} {tm:Array Value}
theorem idx_lt {i j n m:Nat} (hi:i < m) (hj:j < n):i*n+j < m*n:=by
 have:(i+1)*n≤m*n:=Nat.mul_le_mul_right _ hi
 rw [Nat.add_mul] at this
 omega
def flatV (n sz:Nat) (us:Nat→Nat→Value):List Value:=(List.range (n*sz)).map fun k=>us (k / sz) (k % sz)
theorem flatV_length (n sz:Nat) (us:Nat→Nat→Value):(flatV n sz us).length=n*sz:=by simp [flatV]
theorem flatV_get {n sz:Nat} {us:Nat→Nat→Value} {i j:Nat} (hi:i < n) (hj:j < sz):(flatV n sz us)[i*sz+j]? = some (us i j):=by
 have h1:=idx_lt hi hj
 have h2:(i*sz+j) / sz=i:=by
  rw [Nat.mul_comm,Nat.mul_add_div (by omega),Nat.div_eq_of_lt hj];simp
 simp [flatV,h1,h2,div_mod_of hj]
theorem flatV_some {n sz:Nat} {us:Nat→Nat→Value} {k:Nat} {u:Value} (h:(flatV n sz us)[k]? = some u):∃ i j,i < n∧j < sz∧k=i*sz+j∧u=us i j:=by
 have hk:k < n*sz:=by rw [←flatV_length n sz us];exact (List.getElem?_eq_some_iff.1 h).1
 have hsz:0 < sz:=by rcases Nat.eq_zero_or_pos sz with e | e;subst e;simp at hk;exact e
 have e:k=k / sz*sz+k % sz:=by rw [Nat.mul_comm];exact (Nat.div_add_mod k sz).symm
 have h1:k / sz < n:=Nat.div_lt_of_lt_mul (by rwa [Nat.mul_comm])
 have h2:k % sz < sz:=Nat.mod_lt _ hsz
 refine ⟨_,_,h1,h2,e,?_⟩
 have:=flatV_get (us:=us) h1 h2
 rw [←e,h] at this
 simpa using this
def usG (Go:Nat→Gh) (us:List Nat) (i j:Nat):Gh:=fun r=>match us with | [id]=>Go id ((i,j)::r) | _=>none
structure Srcs (P:Program) (w:World) (F:Nat→Prop) (O:Nat→Option Ow) (Go:Nat→Gh) (st:St) (p:List OT) (tx:TypeId) (v:Value) (rows:List (List T)) (us:List Nat):Prop where
 ex:∃ uv:Nat→Nat→Value,Src P p.length tx v rows.length (flatV rows.length p.length uv) w∧(∀ (i:Nat) (row:List T),rows[i]? = some row→row.length=p.length)∧
  (∀ (i j:Nat) (row:List T) (x:T) (q:OT),rows[i]? = some row→row[j]? = some x→p[j]? = some q→Own w F (usG Go us i j) q (uv i j) x)
 us:us=[]∨∃ id,us=[id]∧∃ o,st.obj id=some o
theorem sc_ro_of_lends {p:List OT} (h:OT.beqs p (OT.lends p)=true) {j:Nat} {q:OT} (hq:p[j]? = some q):q=.sc∨∃ q',q=.ro q':=by
 have:=OT.beqs_eq _ _ h
 have hn:=OT.beqs_noHol h j q hq
 rw [this] at hq
 obtain ⟨q',_,rfl⟩:=OT.lends_get _ _ _ hq
 cases q' with
 | hol p=>exact absurd rfl (hn _)
 | _=>simp [OT.lend]
theorem Own.noG {G G' : Gh} {q:OT} {u:Value} {x:T} (h:Own w F G q u x) (hq:q=.sc∨∃ q',q=.ro q'):Own w F G' q u x:=by
 rcases hq with rfl | ⟨q',rfl⟩
 ·cases h with
  | sc h=>exact .sc h
 ·cases h with
  | ro h=>exact .ro h
theorem Rd.own {q:OT} {u:Value} {x:T} (h:Rd w F q u x) (hq:∀ p,q≠.hol p) (G:Gh):Own w F G q u x:=by
 cases h with
 | sc h=>exact .sc h
 | emp h=>exact .ro (.emp h)
 | sl us a b c d e f=>exact .ro (.sl us a b c d e f)
 | hole h=>exact absurd rfl (hq _)
 | full h=>exact absurd rfl (hq _)
theorem Rel.srcs (h:Rel A pin w F O Go Gv st tm) {p:List OT} (hp0:0 < p.length) {c:C} {rows:List (List T)} {us:List Nat} (hs:srcRows st p c=some (rows,us)) {v:Value} (hc:CRel w F Go Gv st v c) {tx e' : TypeId} (hk:P.underlying tx=some (.slice e')) :
  Srcs P w F O Go st p tx v rows us:=by
 unfold srcRows at hs
 split at hs
 ·simp at hs
  obtain ⟨rfl,rfl⟩:=hs
  simp only [CRel] at hc
  subst hc
  exact ⟨⟨fun _ _=>undef,by simpa [flatV] using Src.ofNil w hk 0,by simp,by simp⟩,.inl rfl⟩
 ·split at hs
  ·rename_i q es hb
   simp at hs
   obtain ⟨rfl,rfl⟩:=hs
   have:=OT.beqs_eq _ _ hb
   subst this
   refine ⟨?_,.inl rfl⟩
   simp only [CRel] at hc
   generalize ht:T.sl es=t at hc
   generalize hq:OT.ro p=q at hc
   cases hc with
   | sc _=>simp at hq
   | hole _=>simp at hq
   | full _=>simp at hq
   | @emp p' a cap hcap=>
    simp at ht
    subst ht
    refine ⟨fun _ _=>undef,?_,by simp,by simp⟩
    cases a with
    | none=>simpa [flatV] using Src.ofNil w hk cap
    | some a=>simpa [flatV] using Src.ofSlice (P:=P) w (size:=p.length) hk a 0 cap [] (by simp) (by simp) (by simp)
   | @sl p' g o cap es' uv hFg hcap hm hrow hcell hsub=>
    simp at ht hq
    subst ht
    subst hq
    refine ⟨uv,Src.ofSlice w hk ⟨g,o,none⟩ es.length cap _ (by rw [flatV_length]) (fun k u hku=>?_) (fun u hu=>?_),hrow,fun i j row x q h1 h2 h3=>(hsub i j row x q h1 h2 h3).own (OT.beqs_noHol hb j q h3) _⟩
    ·obtain ⟨i,j,hi,hj,rfl,rfl⟩:=flatV_some hku
     rw [addr_add,←Nat.add_assoc]
     exact hcell i j hi hj
    ·obtain ⟨k,hku⟩:=List.getElem?_of_mem hu
     obtain ⟨i,j,hi,hj,rfl,rfl⟩:=flatV_some hku
     have hr:=hrow i es[i] (by simp [hi])
     exact (hsub i j es[i] es[i][j] p[j] (by simp [hi]) (by simp [hr,hj]) (by simp [hj])).one
  ·simp at hs
 ·rename_i id q off len
  split at hs
  ·rename_i ob hob
   split at hs
   ·rename_i ot es hsub
    split at hs
    ·rename_i hle
     have hpc:p=ot:=by
      split at hs
      ·rename_i hb;simp at hb;exact OT.beqs_eq _ _ hb.1
      ·split at hs
       ·rename_i hb;simp at hb;exact OT.beqs_eq _ _ hb.1.1
       ·simp at hs
     subst hpc
     have h1:=hc.2 ob hob
     obtain ⟨v0,hv0⟩:=h.objs id ob hob
     obtain ⟨v',hv'⟩:=hv0.at q hsub
     have hsubOT:=subOT_of_subEs hsub
     have main:∃ uv:Nat→Nat→Value,Src P p.length tx v len (flatV len p.length uv) w∧(∀ (i:Nat) (row:List T),((es.drop off).take len)[i]? = some row→row.length=p.length)∧
       (∀ (i j:Nat) (row:List T) (x:T) (oc:OT),((es.drop off).take len)[i]? = some row→row[j]? = some x→p[j]? = some oc→Own w F (fun r=>Go id (q++(off+i,j)::r)) oc (uv i j) x):=by
      generalize ht:T.sl es=t at hv'
      have get:∀ (i:Nat) (row:List T),((es.drop off).take len)[i]? = some row→es[off+i]? = some row∧i < len:=by
       intro i row h
       rw [List.getElem?_take] at h
       split at h
       ·rw [List.getElem?_drop] at h;exact ⟨h,by assumption⟩
       ·simp at h
      cases hv' with
      | nil hG0=>
       simp at ht
       subst ht
       simp at hG0
       simp only [hG0] at h1
       obtain ⟨rfl,rfl,rfl⟩:=h1
       exact ⟨fun _ _=>undef,by simpa [flatV] using Src.ofNil w hk 0,by simp,by simp⟩
      | @sl G pp g cap es' uv hG0 hcap hm hrow hcc hf hcell hsubs=>
       simp at ht
       subst ht
       simp at hG0
       simp only [hG0] at h1
       by_cases hlen0:len=0
       ·subst hlen0
        refine ⟨fun _ _=>undef,?_,by simp,by simp⟩
        have:∃ a c,v=.slice a 0 c:=by
         rcases h1 with ⟨_,rfl,_⟩|⟨_,a,c,rfl,_⟩
         ·exact ⟨_,_,rfl⟩
         ·exact ⟨_,_,rfl⟩
        obtain ⟨a,c,rfl⟩:=this
        cases a with
        | none=>simpa [flatV] using Src.ofNil w hk c
        | some a=>simpa [flatV] using Src.ofSlice (P:=P) w (size:=p.length) hk a 0 c [] (by simp) (by simp) (by simp)
       ·have hval:∃ cap',v=.slice (some ⟨g,off*p.length,none⟩) len cap':=by
         rcases h1 with ⟨rfl,rfl,h3⟩|⟨_,a,c,rfl,h3,h4,h5⟩
         ·exact ⟨cap,by simp⟩
         ·obtain ⟨ot',h6,h7⟩:=h5 (by omega)
          rw [hsubOT] at h6
          simp at h6
          subst h6
          exact ⟨c,by rw [h7]⟩
        obtain ⟨cap',rfl⟩:=hval
        refine ⟨fun i j=>uv (off+i) j,Src.ofSlice w hk _ len cap' _ (by rw [flatV_length]) (fun k u hku=>?_) (fun u hu=>?_),fun i row h=>hrow _ row (get i row h).1,fun i j row x oc a b c=>hsubs (off+i) j row x oc (get i row a).1 b c⟩
        ·obtain ⟨i,j,hi,hj,rfl,rfl⟩:=flatV_some hku
         rw [addr_add]
         have:=hcell (off+i) j (by omega) hj
         rwa [Nat.add_mul,Nat.add_assoc] at this
        ·obtain ⟨k,hku⟩:=List.getElem?_of_mem hu
         obtain ⟨i,j,hi,hj,rfl,rfl⟩:=flatV_some hku
         have hil:off+i < es.length:=by omega
         have hr:=hrow (off+i) es[off+i] (by simp [hil])
         exact (hsubs (off+i) j es[off+i] es[off+i][j] p[j] (by simp [hil]) (by simp [hr,hj]) (by simp [hj])).one
     obtain ⟨uv,m1,m2,m3⟩:=main
     have hlen:((es.drop off).take len).length=len:=by simp;omega
     split at hs
     ·rename_i hb
      simp at hb
      simp at hs
      obtain ⟨rfl,rfl⟩:=hs
      refine ⟨⟨uv,by rw [hlen];exact m1,m2,fun i j row x oc a b c=>(m3 i j row x oc a b c).noG (sc_ro_of_lends hb.2 c)⟩,.inl rfl⟩
     ·split at hs
      ·rename_i hb
       simp at hb
       obtain ⟨⟨_,rfl⟩,rfl,rfl⟩:=hb
       simp at hs
       obtain ⟨rfl,rfl⟩:=hs
       simp at m2 m3
       refine ⟨⟨uv,m1,m2,fun i j row x oc a b c=>?_⟩,.inr ⟨id,rfl,ob,hob⟩⟩
       exact m3 i j row x oc a b c
      ·simp at hs
    ·simp at hs
   ·simp at hs
  ·simp at hs
 ·simp at hs
end
end Go.Proofs.V

namespace Go.Proofs.V
open Go
variable {P:Program}
section
variable {A:Nat→Prop} {pin:List (Nat×Value)} {w w' : World} {F:Nat→Prop} {O:Nat→Option Ow} {Go:Nat→Gh} {Gv:Nat→Option Nat} {st:St} {tm:Array Value}
def oneOf:List Nat→Option Nat
 | [k]=>some k
 | _=>none
theorem oneOf_some {us:List Nat} {k:Nat} (h:oneOf us=some k):us=[k]:=by
 unfold oneOf at h
 split at h
 ·simp at h;rw [h]
 ·simp at h
def oldLen:Option (Nat×Nat)→Nat
 | some x=>x.2
 | none=>0
def appF (old:Option (Nat×Nat)) (us:List Nat) (i j:Nat):Option (Nat×Pth):=
 if i < oldLen old then old.map fun x=>(x.1,[(i,j)]) else (oneOf us).map fun k=>(k,[(i - oldLen old,j)])
theorem appF_one {old:Option (Nat×Nat)} {us:List Nat} {i j id:Nat} {pre:Pth} (h:appF old us i j=some (id,pre)) :
  (∃ len,old=some (id,len)∧i < len∧pre=[(i,j)])∨(us=[id]∧oldLen old≤i∧pre=[(i - oldLen old,j)]):=by
 unfold appF at h
 by_cases hi:i < oldLen old
 ·rw [if_pos hi] at h
  cases old with
  | none=>simp at h
  | some x=>
   simp at h
   obtain ⟨rfl,rfl⟩:=h
   exact .inl ⟨x.2,rfl,hi,rfl⟩
 ·rw [if_neg hi] at h
  simp only [Option.map_eq_some_iff] at h
  obtain ⟨k,hk,h⟩:=h
  simp at h
  obtain ⟨rfl,rfl⟩:=h
  exact .inr ⟨oneOf_some hk,by omega,rfl⟩
theorem appF_inj {old:Option (Nat×Nat)} {us:List Nat} (hne:∀ id len,old=some (id,len)→id ∉ us):∀ i j i' j' id pre pre' r r',appF old us i j=some (id,pre)→appF old us i' j' = some (id,pre')→pre++r=pre' ++ r'→i=i'∧j=j':=by
 intro i j i' j' id pre pre' r r' h h' e
 rcases appF_one h with ⟨len,h1,h2,rfl⟩|⟨h1,h3,rfl⟩
 ·rcases appF_one h' with ⟨len',h1',h2',rfl⟩|⟨h1',h3',rfl⟩
  ·simp at e;exact ⟨e.1.1,e.1.2⟩
  ·exact absurd (by rw [h1'];simp) (hne _ _ h1)
 ·rcases appF_one h' with ⟨len',h1',h2',rfl⟩|⟨h1',h3',rfl⟩
  ·exact absurd (by rw [h1];simp) (hne _ _ h1')
  ·simp at e
   omega
theorem appF_old {id len:Nat} {us:List Nat} {i j:Nat} (h:i < len):appF (some (id,len)) us i j=some (id,[(i,j)]):=by
 simp [appF,oldLen,h]
theorem appF_new {old:Option (Nat×Nat)} {us:List Nat} {i j:Nat} (h : ¬ i < oldLen old):appF old us i j=(oneOf us).map fun k=>(k,[(i - oldLen old,j)]):=by
 simp [appF,h]
theorem mkG_new {Go:Nat→Gh} {bk:Bk} {old:Option (Nat×Nat)} {us:List Nat} {i j:Nat} (h : ¬ i < oldLen old) :
  (fun r=>mkG Go bk (appF old us) ((i,j)::r))=usG Go us (i - oldLen old) j:=by
 funext r
 simp only [mkG,appF_new h,usG]
 unfold oneOf
 match us with
 | []=>rfl
 | [k]=>rfl
 | _::_::_=>rfl
theorem usG_some {Go:Nat→Gh} {us:List Nat} {i j:Nat} {r:Pth} {b:Bk} (h:usG Go us i j r=some b):∃ k,Go k ((i,j)::r)=some b:=by
 match us,h with
 | [k],h=>exact ⟨k,h⟩
def oldG (Go:Nat→Gh) (old:Option (Nat×Nat)) (i j:Nat):Gh:=fun r=>match old with | some (id,_)=>Go id ((i,j)::r) | none=>none
theorem append_get {α:Type} {l l' : List α} {k:Nat} : (l++l')[k]? = if k < l.length then l[k]? else l'[k - l.length]?:=by
 rw [List.getElem?_append]
theorem arr_get {l:List Value} {z:Array Value} {k:Nat} (hk:k < l.length):(l.toArray++z)[k]? = l[k]?:=by
 rw [Array.getElem?_append]
 simp [hk]
theorem grow_good (h:Rel A pin w F O Go Gv st tm) {p:List OT} {e:TypeId} {z:Value} (hzs:z.cells.size=p.length) (hp0:0 < p.length) {us:List Nat} {rows old:List (List T)} {len cap0:Nat} {olds:List Value} {oldId:Option (Nat×Nat)} {kills:List Nat}
  (hol:old.length=len) (holdl:olds.length=len*p.length) (hoid:∀ id l,oldId=some (id,l)→l=len∧id ∈ kills∧id ∉ us) (hon:oldId=none→len=0) (huk:∀ id,id ∈ us→id ∈ kills)
  (us0:Nat→Nat→Value) (hus0:∀ i j,i < len→j < p.length→olds[i*p.length+j]? = some (us0 i j)) (horow:∀ (i:Nat) (row:List T),old[i]? = some row→row.length=p.length)
  (hosub:∀ (i j:Nat) (row:List T) (x:T) (q:OT),old[i]? = some row→row[j]? = some x→p[j]? = some q→Own w F (oldG Go oldId i j) q (us0 i j) x)
  (uv:Nat→Nat→Value) (hrow:∀ (i:Nat) (row:List T),rows[i]? = some row→row.length=p.length)
  (hsub:∀ (i j:Nat) (row:List T) (x:T) (q:OT),rows[i]? = some row→row[j]? = some x→p[j]? = some q→Own w F (usG Go us i j) q (uv i j) x)
  (h63:len+rows.length≤maxLen) {d:Nat} (hd:∀ x,(d,x) ∉ pin) :
  Good A pin w F { st with slots:=st.slots.set d (.v false [.ref st.objs.length [] 0 (old++rows).length]),objs:=killO st.objs kills++[some ⟨p,old++rows⟩] }
   (tm.setIfInBounds d (.slice (some ⟨w.heap.size,0,none⟩) (len+rows.length) (grownCap w (len+rows.length) cap0 e)))
   (w.drew.alloc (.cells ((olds++flatV rows.length p.length uv).toArray++Builtin.zeroCells z.cells (grownCap w (len+rows.length) cap0 e - (len+rows.length))) e)):=by
 generalize hnc:grownCap w (len+rows.length) cap0 e=ncap
 have hge:len+rows.length≤ncap:=hnc ▸ grownCap_ge w (len+rows.length) cap0 e
 have hcm:ncap≤maxLen:=hnc ▸ grownCap_le_maxLen w (len+rows.length) cap0 e h63
 generalize hcells:(olds++flatV rows.length p.length uv).toArray++Builtin.zeroCells z.cells (ncap - (len+rows.length))=cells
 have hlen1:(olds++flatV rows.length p.length uv).length=(len+rows.length)*p.length:=by rw [List.length_append,holdl,flatV_length,Nat.add_mul]
 have hcs:cells.size=ncap*p.length:=by
  rw [←hcells,Array.size_append,size_zeroCells,hzs,List.size_toArray,hlen1,←Nat.add_mul]
  congr 1
  omega
 have hfree:=h.free (Nat.le_refl w.heap.size)
 have hstep:Step A w (w.drew.alloc (.cells cells e)):=(Step.drew A w).trans (Step.alloc A w.drew _)
 have hsame:∀ b,b < w.heap.size→Same w (w.drew.alloc (.cells cells e)) b:=fun b hb=>(Same.drew w b).trans (Same.alloc (w:=w.drew) _ hb)
 have hF:∀ b,F b→Same w (w.drew.alloc (.cells cells e)) b:=fun b hb=>hsame b (h.fS b hb)
 have hcell:∀ o,(w.drew.alloc (.cells cells e)).cell? ⟨w.heap.size,o,none⟩=cells[o]?:=fun o=>cell_alloc_new w.drew cells e o
 have hkeep:∀ {G:Gh} {q:OT} {u:Value} {x:T},Own w F G q u x→(∀ r b,G r=some b→∃ id q',O b.g=some (.obj id q'))→Own (w.drew.alloc (.cells cells e)) F G q u x:=
  fun ho hg=>ho.keep hF (fun _ h=>h) (fun _=>rfl) (fun r b hb=>let ⟨id,q',h1⟩:=hg r b hb;hsame _ (h.oA _ _ h1).2)
 have hel:(old++rows).length=len+rows.length:=by rw [List.length_append,hol]
 obtain ⟨O',Go',hr,hc⟩:=h.made (w':=w.drew.alloc (.cells cells e)) hstep (us:=kills) (fun b x hx _=>hsame b (h.oA b x hx).2) hF
  (f:=appF oldId us) (ot:=p) (es:=old++rows) (g:=w.heap.size) (cap:=ncap) (fun i j=>if i < len then us0 i j else uv (i - len) j)
  (.inl ⟨hfree.1,hfree.2.1,hfree.2.2,by simp⟩)
  (appF_inj (fun id l e=>(hoid id l e).2.2))
  (fun i j id pre e=>by
   rcases appF_one e with ⟨l,h1,_,_⟩|⟨h1,_⟩
   ·exact (hoid _ _ h1).2.1
   ·exact huk id (by rw [h1];simp))
  (by omega) hcm
  (fun i row hrow'=>by
   rw [append_get] at hrow'
   split at hrow'
   ·exact horow i row hrow'
   ·exact hrow _ row hrow')
  (fun o ho=>by rw [hcell];exact ⟨_,Array.getElem?_eq_getElem (by omega)⟩) (fun o _=>frozen_alloc_new w.drew cells e o)
  (fun i j hi hj=>by
   rw [hcell,←hcells,arr_get (by rw [hlen1];exact idx_lt (by omega) hj),append_get,holdl]
   by_cases hil:i < len
   ·simp only [idx_lt hil hj,hil,if_true]
    exact hus0 i j hil hj
   ·have h1 : ¬ i*p.length+j < len*p.length:=by
     have:len*p.length≤i*p.length:=Nat.mul_le_mul_right _ (by omega)
     omega
    simp only [h1,hil,if_false]
    have h2:i*p.length+j - len*p.length=(i - len)*p.length+j:=by
     have:len*p.length≤i*p.length:=Nat.mul_le_mul_right _ (by omega)
     rw [Nat.sub_mul]
     omega
    rw [h2]
    exact flatV_get (by omega) hj)
  (fun i j row x q h1 h2 h3=>by
   have hgo:∀ r b,mkG Go ⟨w.heap.size,ncap⟩ (appF oldId us) ((i,j)::r)=some b→∃ id q',O b.g=some (.obj id q'):=by
    intro r b hb
    simp only [mkG] at hb
    split at hb
    ·exact ⟨_,_,h.oO _ _ _ hb⟩
    ·simp at hb
   rw [append_get,hol] at h1
   split at h1
   ·rename_i hil
    simp only [hil,if_true]
    refine hkeep ?_ hgo
    have:=hosub i j row x q h1 h2 h3
    cases hod:oldId with
    | none=>have:=hon hod;omega
    | some y=>
     obtain ⟨id,l⟩:=y
     have hl:=(hoid id l hod).1
     subst hl
     subst hod
     have e2:oldG Go (some (id,l)) i j=fun r=>mkG Go ⟨w.heap.size,ncap⟩ (appF (some (id,l)) us) ((i,j)::r):=by funext r;simp [mkG,appF_old hil,oldG]
     rw [e2] at this
     exact this
   ·rename_i hil
    simp only [hil,if_false]
    refine hkeep ?_ hgo
    have:=hsub (i - len) j row x q h1 h2 h3
    have hol' : oldLen oldId=len:=by
     cases hod:oldId with
     | none=>exact (hon hod).symm
     | some y=>exact (hoid y.1 y.2 hod).1
    have e:=mkG_new (Go:=Go) (bk:=⟨w.heap.size,ncap⟩) (old:=oldId) (us:=us) (i:=i) (j:=j) (by rw [hol'];exact hil)
    rw [hol'] at e
    rw [e]
    exact this)
 refine ⟨F,O',Go',Gv,?_,hstep,fun _ h=>h,fun _ h=>.inl h⟩
 have:=hr.put (d:=d) (s:=.v false [.ref st.objs.length [] 0 (old++rows).length]) (v:=.slice (some ⟨w.heap.size,0,none⟩) (len+rows.length) ncap) ⟨_,rfl,.inl rfl,by rw [hel] at hc ⊢;exact hc⟩ hd
 exact this
theorem room_good (h:Rel A pin w F O Go Gv st tm) {p:List OT} (hp0:0 < p.length) {us:List Nat} {rows:List (List T)} {id len:Nat} {ob:Ob} {bk:Bk} {kills:List Nat} (hob:st.obj id=some ob) (hot:ob.ot=p) (hbk:Go id []=some bk)
  (hle:len≤ob.es.length) (hidk:id ∈ kills) (hidu:id ∉ us) (huk:∀ id,id ∈ us→id ∈ kills)
  (uv:Nat→Nat→Value) (hrow:∀ (i:Nat) (row:List T),rows[i]? = some row→row.length=p.length) (hroom:len+rows.length≤bk.cap) (hone:∀ u,u ∈ flatV rows.length p.length uv→u.oneCell' = true)
  (hsub:∀ (i j:Nat) (row:List T) (x:T) (q:OT),rows[i]? = some row→row[j]? = some x→p[j]? = some q→Own w F (usG Go us i j) q (uv i j) x) {d:Nat} (hd:∀ x,(d,x) ∉ pin) :
  (∀ k,k < (flatV rows.length p.length uv).length→(w.cell? ⟨bk.g,0+len*p.length+k,none⟩).isSome=true)∧(∀ k,k < (flatV rows.length p.length uv).length→w.frozen? ⟨bk.g,0+len*p.length+k,none⟩=false)∧
  Good A pin w F { st with slots:=st.slots.set d (.v false [.ref st.objs.length [] 0 (ob.es.take len++rows).length]),objs:=killO st.objs kills++[some ⟨p,ob.es.take len++rows⟩] }
   (tm.setIfInBounds d (.slice (some ⟨bk.g,0,none⟩) (len+rows.length) bk.cap)) (w.setCells bk.g (0+len*p.length) (flatV rows.length p.length uv)):=by
 subst hot
 obtain ⟨v0,hv0⟩:=h.objs id ob hob
 generalize ht:T.sl ob.es=t at hv0
 cases hv0 with
 | nil hG0=>rw [hG0] at hbk;simp at hbk
 | @sl G p g cap es us0 hG0 hcap hm hrow0 hcc hf hcell0 hsubs=>
  simp at ht
  subst ht
  rw [hG0] at hbk
  simp at hbk
  subst hbk
  simp only at hroom ⊢
  have hin:∀ k,k < (flatV rows.length ob.ot.length uv).length→0+len*ob.ot.length+k < cap*ob.ot.length:=by
   intro k hk
   rw [flatV_length] at hk
   have:(len+rows.length)*ob.ot.length≤cap*ob.ot.length:=Nat.mul_le_mul_right _ hroom
   rw [Nat.add_mul] at this
   omega
  have hc1:∀ k,k < (flatV rows.length ob.ot.length uv).length→(w.cell? ⟨g,0+len*ob.ot.length+k,none⟩).isSome=true:=by
   intro k hk
   obtain ⟨u,hu⟩:=hcc _ (hin k hk)
   rw [hu]
   rfl
  have hf1:∀ k,k < (flatV rows.length ob.ot.length uv).length→w.frozen? ⟨g,0+len*ob.ot.length+k,none⟩=false:=fun k hk=>hf _ (hin k hk)
  refine ⟨hc1,hf1,?_⟩
  have hOg:=h.oO _ _ _ hG0
  simp only at hOg
  have hA:=(h.oA _ _ hOg).1
  have hstep:=Step.setCells (A:=A) hA (flatV rows.length ob.ot.length uv) (0+len*ob.ot.length) w
  have hsame:∀ b,b≠g→Same w (w.setCells g (0+len*ob.ot.length) (flatV rows.length ob.ot.length uv)) b:=fun b hb=>Same.setCells g hb _ _ _
  have hF:∀ b,F b→Same w (w.setCells g (0+len*ob.ot.length) (flatV rows.length ob.ot.length uv)) b:=fun b hb=>hsame b (fun e=>by subst e;have:=h.oF _ hb;rw [hOg] at this;simp at this)
  have hel:(ob.es.take len++rows).length=len+rows.length:=by simp;omega
  have hold:∀ o,o < 0+len*ob.ot.length∨0+len*ob.ot.length+(flatV rows.length ob.ot.length uv).length≤o→(w.setCells g (0+len*ob.ot.length) (flatV rows.length ob.ot.length uv)).cell? ⟨g,o,none⟩=w.cell? ⟨g,o,none⟩:=
   fun o ho=>World.cell?_setCells_out g _ _ w _ (fun _ _=>ho)
  have hnew:∀ k u,(flatV rows.length ob.ot.length uv)[k]? = some u→(w.setCells g (0+len*ob.ot.length) (flatV rows.length ob.ot.length uv)).cell? ⟨g,0+len*ob.ot.length+k,none⟩=some u:=by
   intro k u hk
   have hkl:=(List.getElem?_eq_some_iff.1 hk).1
   have:=World.cell?_setCells_in g (flatV rows.length ob.ot.length uv) (0+len*ob.ot.length) w hc1 k hkl
   rw [this]
   rw [List.getElem?_eq_getElem hkl] at hk
   exact hk
  have hkeep:∀ {G:Gh} {q:OT} {u:Value} {x:T},Own w F G q u x→(∀ r b,G r=some b→b.g≠g)→Own (w.setCells g (0+len*ob.ot.length) (flatV rows.length ob.ot.length uv)) F G q u x:=
   fun ho hg=>ho.keep hF (fun _ h=>h) (fun _=>rfl) (fun r b hb=>hsame _ (hg r b hb))
  have htake:∀ (i:Nat) (row:List T),(ob.es.take len)[i]? = some row→ob.es[i]? = some row:=by
   intro i row h
   rw [List.getElem?_take] at h
   split at h
   ·exact h
   ·simp at h
  have htl:(ob.es.take len).length=len:=by simp;omega
  obtain ⟨O',Go',hr,hc⟩:=h.made hstep (us:=kills) (fun b x hx hn=>hsame b (fun e=>by subst e;rw [hOg] at hx;simp at hx;exact hn id [] hx.symm hidk)) hF
   (f:=appF (some (id,len)) us) (ot:=ob.ot) (es:=ob.es.take len++rows) (g:=g) (cap:=cap) (fun i j=>if i < len then us0 i j else uv (i - len) j)
   (.inr ⟨id,hidk,hOg,fun i j pre e=>by
    rcases appF_one e with ⟨l,_,_,rfl⟩|⟨h1,_⟩
    ·simp
    ·exact absurd (by rw [h1];simp) hidu⟩)
   (appF_inj (fun id' l e=>by simp at e;rw [←e.1];exact hidu))
   (fun i j id' pre e=>by
    rcases appF_one e with ⟨l,h1,_,_⟩|⟨h1,_⟩
    ·simp at h1;rw [←h1.1];exact hidk
    ·exact huk id' (by rw [h1];simp))
   (by omega) hm
   (fun i row hrow'=>by
    rw [append_get] at hrow'
    split at hrow'
    ·exact hrow0 i row (htake i row hrow')
    ·exact hrow _ row hrow')
   (fun o ho=>by
    by_cases h1:o < 0+len*ob.ot.length∨0+len*ob.ot.length+(flatV rows.length ob.ot.length uv).length≤o
    ·rw [hold o h1];exact hcc o ho
    ·have h2:o - (0+len*ob.ot.length) < (flatV rows.length ob.ot.length uv).length:=by omega
     have:=hnew _ _ (List.getElem?_eq_getElem h2)
     rw [show 0+len*ob.ot.length+(o - (0+len*ob.ot.length))=o by omega] at this
     exact ⟨_,this⟩)
   (fun o ho=>by rw [World.frozen?_setCells];exact hf o ho)
   (fun i j hi hj=>by
    by_cases hil:i < len
    ·simp only [hil,if_true]
     rw [hold _ (.inl (by have:=idx_lt hil hj;omega))]
     exact hcell0 i j (by omega) hj
    ·simp only [hil,if_false]
     have h2:i*ob.ot.length+j=0+len*ob.ot.length+((i - len)*ob.ot.length+j):=by
      have:len*ob.ot.length≤i*ob.ot.length:=Nat.mul_le_mul_right _ (by omega)
      rw [Nat.sub_mul]
      omega
     rw [h2]
     exact hnew _ _ (flatV_get (by omega) hj))
   (fun i j row x q h1 h2 h3=>by
    rw [append_get,htl] at h1
    split at h1
    ·rename_i hil
     simp only [hil,if_true]
     refine hkeep ?_ ?_
     ·have:=hsubs i j row x q (htake i row h1) h2 h3
      simpa [mkG,appF_old hil] using this
     ·intro r b hb e
      simp only [mkG,appF_old hil] at hb
      have:=h.oO _ _ _ hb
      rw [e,hOg] at this
      simp at this
    ·rename_i hil
     simp only [hil,if_false]
     have e:=mkG_new (Go:=Go) (bk:=⟨g,cap⟩) (old:=some (id,len)) (us:=us) (i:=i) (j:=j) hil
     simp only [oldLen] at e
     rw [e]
     refine hkeep (hsub (i - len) j row x q h1 h2 h3) ?_
     intro r b hb e'
     obtain ⟨k,hk⟩:=usG_some hb
     have:=h.oO _ _ _ hk
     rw [e',hOg] at this
     simp at this)
  refine ⟨F,O',Go',Gv,?_,hstep,fun _ h=>h,fun _ h=>.inl h⟩
  have:=hr.put (d:=d) (s:=.v false [.ref st.objs.length [] 0 (ob.es.take len++rows).length]) (v:=.slice (some ⟨g,0,none⟩) (len+rows.length) cap) ⟨_,rfl,.inl rfl,by rw [hel] at hc ⊢;exact hc⟩ hd
  exact this
end
end Go.Proofs.V

namespace Go.Proofs.V
open Go
variable {P:Program}
section
variable {A:Nat→Prop} {pin:List (Nat×Value)} {w w' : World} {F:Nat→Prop} {O:Nat→Option Ow} {Go:Nat→Gh} {Gv:Nat→Option Nat} {st:St} {tm:Array Value}
theorem append_core (h:Rel A pin w F O Go Gv st tm) {t tx ty e:TypeId} {p:List OT} {zero:List Value} {lim:Nat} (ht:P.underlying t=some (.slice e)) (he:elemIs P e zero lim=true) (hz:zero.length=p.length)
  {yv:Value} {rows:List (List T)} {us:List Nat} (hs:Srcs P w F O Go st p tx yv rows us) {d:Nat} (hd:∀ x,(d,x) ∉ pin) :
  (rows.length≤lim→∃ v w',(Builtin.append_ #[t,tx] ty #[.slice none 0 0,yv]).run P w=.ok v w'∧∀ kills,(∀ id,id ∈ us→id ∈ kills)→
   Good A pin w F { st with slots:=st.slots.set d (.v false [.ref st.objs.length [] 0 rows.length]),objs:=killO st.objs kills++[some ⟨p,rows⟩] } (tm.setIfInBounds d v) w')∧
  (∀ id len ob bk,st.obj id=some ob→ob.ot=p→Go id []=some bk→len≤ob.es.length→len≤bk.cap→id ∉ us→len+rows.length≤lim→
   ∃ v w',(Builtin.append_ #[t,tx] ty #[.slice (some ⟨bk.g,0,none⟩) len bk.cap,yv]).run P w=.ok v w'∧
   Good A pin w F { st with slots:=st.slots.set d (.v false [.ref st.objs.length [] 0 (ob.es.take len++rows).length]),objs:=killO st.objs (id::us)++[some ⟨p,ob.es.take len++rows⟩] } (tm.setIfInBounds d v) w'):=by
 obtain ⟨i,z,h3,h4,h5,h6,h7,h8,h9⟩:=elemIs_some he
 have hzs:z.cells.size=p.length:=by rw [←hz,←h5];simp
 have hsz:i.size=p.length:=by rw [h6,hz]
 have hp0:0 < p.length:=by rw [←hz];exact h7
 obtain ⟨⟨uv,hsrc,hrow,hsub⟩,hus⟩:=hs
 rw [←hsz] at hsrc
 constructor
 ·intro hl
  by_cases h0:rows.length=0
  ·have hr:rows=[]:=List.eq_nil_of_length_eq_zero h0
   subst hr
   refine ⟨_,_,run_append_nothing w t tx ty e i ht h3 none 0 0 (Nat.le_refl _) yv (by simpa [flatV] using hsrc),fun kills _=>?_⟩
   have hN:=h.newObj (Step.refl A w) (us:=kills) (fun b _ _ _=>Same.refl w b) (fun b _=>Same.refl w b) (G:=fun _=>none) (ot:=p) (Own.nil rfl) (fun _ _ hb=>by simp at hb) (fun _ _ _ _ hb=>by simp at hb)
   refine Good.same ?_ (O:=newO O kills st.objs.length fun _=>none) (Go:=newGo Go kills st.objs.length fun _=>none) (Gv:=Gv)
   have:=hN.put (d:=d) (s:=.v false [.ref st.objs.length [] 0 0]) (v:=.slice none 0 0) ⟨_,rfl,.inl rfl,by simp [killO_length],fun o _=>by simp [newGo]⟩ hd
   exact this
  ·have hg:=run_append_grow_src w t tx ty e i z ht h3 h4 none 0 0 [] (by simp [Builtin.firstCells]) yv rows.length _ hsrc (by omega) (by omega) (growslice_fits (by omega) (by
    have:(0+rows.length)*i.bytes≤lim*i.bytes:=Nat.mul_le_mul_right _ (by omega)
    omega))
   refine ⟨_,_,hg,fun kills hk=>?_⟩
   have:=grow_good h (e:=e) hzs hp0 (us:=us) (rows:=rows) (old:=[]) (len:=0) (cap0:=0) (olds:=[]) (oldId:=none) (kills:=kills) rfl (by simp) (by simp) (fun _=>rfl) hk (fun _ _=>undef) (by simp) (by simp) (by simp) uv hrow hsub
    (by simp only [maxLen];omega) hd
   simpa [hsz] using this
 ·intro id len ob bk hob hot hbk hle hcapl hidu hl
  have hbytes:(len+rows.length)*i.bytes≤140737488355328:=by
   have:(len+rows.length)*i.bytes≤lim*i.bytes:=Nat.mul_le_mul_right _ hl
   omega
  have hone:∀ u,u ∈ flatV rows.length p.length uv→u.oneCell' = true:=by rw [←hsz];exact hsrc.one
  by_cases hroom:len+rows.length≤bk.cap
  ·obtain ⟨r1,r2,r3⟩:=room_good h hp0 (us:=us) (rows:=rows) (id:=id) (len:=len) (kills:=id::us) hob hot hbk hle (by simp) hidu (fun k hk=>by simp [hk]) uv hrow hroom hone hsub hd
   have:=run_append_room_src w t tx ty e i ht h3 bk.g 0 len bk.cap yv rows.length _ hsrc hroom (by rw [hsz];exact r1) (by rw [hsz];exact r2)
   refine ⟨_,_,this,?_⟩
   rw [hsz]
   exact r3
  ·subst hot
   obtain ⟨v0,hv0⟩:=h.objs id ob hob
   generalize htt:T.sl ob.es=tt at hv0
   cases hv0 with
   | nil hG0=>rw [hG0] at hbk;simp at hbk
   | @sl G p g cap es us0 hG0 hcap hm hrow0 hcc hf hcell0 hsubs=>
    simp at htt
    subst htt
    rw [hG0] at hbk
    simp at hbk
    subst hbk
    simp only at hroom ⊢
    have hold:(Builtin.firstCells i.size len (.slice (some ⟨g,0,none⟩) len cap)).run P w.drew=.ok (flatV len ob.ot.length us0).toArray w.drew:=by
     refine run_firstCells_some (P:=P) w.drew i.size len ⟨g,0,none⟩ len cap _ (by rw [flatV_length,hsz]) (fun k u hk=>?_)
     obtain ⟨a,b,ha,hb,rfl,rfl⟩:=flatV_some hk
     rw [addr_add,Nat.zero_add]
     exact hcell0 a b (by omega) hb
    have hg:=run_append_grow_src w t tx ty e i z ht h3 h4 (some ⟨g,0,none⟩) len cap _ hold yv rows.length _ hsrc (by omega) (by omega) (growslice_fits (by omega) hbytes)
    refine ⟨_,_,hg,?_⟩
    have htl:(ob.es.take len).length=len:=by simp;omega
    have htake:∀ (i:Nat) (row:List T),(ob.es.take len)[i]? = some row→ob.es[i]? = some row:=by
     intro i row h
     rw [List.getElem?_take] at h
     split at h
     ·exact h
     ·simp at h
    have:=grow_good h (e:=e) hzs hp0 (us:=us) (rows:=rows) (old:=ob.es.take len) (len:=len) (cap0:=cap) (olds:=flatV len ob.ot.length us0) (oldId:=some (id,len)) (kills:=id::us) htl (flatV_length _ _ _)
     (fun a b e=>by simp at e;obtain ⟨rfl,rfl⟩:=e;exact ⟨rfl,by simp,hidu⟩) (by simp) (fun k hk=>by simp [hk]) us0 (fun a b ha hb=>flatV_get ha hb) (fun a row h=>hrow0 a row (htake a row h))
     (fun a b row x q e1 e2 e3=>hsubs a b row x q (htake a row e1) e2 e3) uv hrow hsub (by simp only [maxLen];omega) hd
    rw [hsz]
    exact this
theorem sound_append (h:Rel A pin w F O Go Gv st tm) (ds:List Deferred) {t tx ty e e' : TypeId} {p:List OT} {zero:List Value} {lim:Nat} (ht:P.underlying t=some (.slice e)) (hx:P.underlying tx=some (.slice e')) (he:elemIs P e zero lim=true) (hz:zero.length=p.length)
  {x y:Opd} {x' y' : Operand} (hxx:opdIs x x' = true) (hyy:opdIs y y' = true) {d:Nat} {st' : St} (hv:vappend st d x y p lim=some st') (hd:∀ x,(d,x) ∉ pin) :
  ∃ v w',(Builtin.append_ #[t,tx] ty #[(Act.mk tm ds).eval x',(Act.mk tm ds).eval y']).run P w=.ok v w'∧Good A pin w F st' (tm.setIfInBounds d v) w':=by
 obtain ⟨i,z,h3,h4,h5,h6,h7,h8,h9⟩:=elemIs_some he
 unfold vappend at hv
 split at hv
 ·rename_i cx cy hcx hcy
  have hrx:=(h.cell hxx hcx ds).1
  have hry:=(h.cell hyy hcy ds).1
  split at hv
  ·rename_i rows us hrows
   have hs:=h.srcs (P:=P) (by rw [←hz];exact h7) hrows hry hx
   obtain ⟨core1,core2⟩:=append_core (ty:=ty) h ht he hz hs hd
   split at hv
   ·split at hv
    ·rename_i hl
     simp at hv
     subst hv
     simp only [CRel] at hrx
     rw [hrx]
     obtain ⟨v,w',r1,r2⟩:=core1 hl
     refine ⟨v,w',r1,?_⟩
     have:=r2 us (fun _ h=>h)
     simpa [St.push,St.kill,killO_length] using this
    ·simp at hv
   ·rename_i id len
    split at hv
    ·rename_i ob hob
     split at hv
     ·rename_i hcond
      simp at hcond hv
      obtain ⟨⟨hb,hle,hlim⟩,hid⟩:=hcond
      have hot:=OT.beqs_eq _ _ hb
      subst hv
      have h1:=hrx.2 ob hob
      cases hg:Go id [] with
      | none=>
       simp only [hg] at h1
       obtain ⟨e1,_,rfl⟩:=h1
       rw [e1]
       have hes:ob.es=[]:=by
        rcases h.root hob with ⟨_,h10,_⟩|⟨b,h10,_⟩
        ·exact h10
        ·rw [hg] at h10;simp at h10
       obtain ⟨v,w',r1,r2⟩:=core1 (by omega)
       refine ⟨v,w',r1,?_⟩
       have:=r2 (id::us) (fun k hk=>by simp [hk])
       simpa [St.push,St.kill,killO_length,hes] using this
      | some bk=>
       simp only [hg] at h1
       rcases h1 with ⟨_,e1,e2⟩|⟨h10,_⟩
       ·rw [e1]
        obtain ⟨v,w',r1,r2⟩:=core2 id len ob bk hob hot.symm hg hle e2 hid hlim
        refine ⟨v,w',r1,?_⟩
        simpa [St.push,St.kill,killO_length] using r2
       ·omega
     ·simp at hv
    ·simp at hv
   ·simp at hv
  ·simp at hv
 ·simp at hv
theorem bytesT_length (s:ByteArray):(bytesT s).length=s.size:=by
 unfold bytesT
 rw [List.length_map,Array.length_toList]
 rfl
theorem srcs_string {tx:TypeId} (hk:P.underlying tx=some .string) (s:ByteArray) (F:Nat→Prop) (O:Nat→Option Ow) (Go:Nat→Gh) (st:St):Srcs P w F O Go st [.sc] tx (.string s) (bytesT s) []:=by
 refine ⟨⟨fun i _=>(((byteCells s)[i]?).getD undef),?_,?_,?_⟩,.inl rfl⟩
 ·have hfl:flatV (bytesT s).length ([.sc]:List OT).length (fun i _=>(((byteCells s)[i]?).getD undef))=byteCells s:=by
   apply List.ext_getElem?
   intro k
   have hl:=byteCells_length s
   by_cases hk:k < s.size
   ·have:=flatV_get (n:=(bytesT s).length) (sz:=([.sc]:List OT).length) (us:=fun i _=>(((byteCells s)[i]?).getD undef)) (i:=k) (j:=0) (by rw [bytesT_length];exact hk) (by simp)
    simp at this
    simp
    rw [this]
    have hk' : k < (byteCells s).length:=by omega
    simp [hk']
   ·rw [List.getElem?_eq_none (by rw [flatV_length,bytesT_length];simp;omega),List.getElem?_eq_none (by omega)]
  rw [hfl,bytesT_length]
  exact Src.ofString w hk s
 ·intro i row hr
  simp only [bytesT,List.getElem?_map,Option.map_eq_some_iff] at hr
  obtain ⟨b,_,rfl⟩:=hr
  rfl
 ·intro i j row x q hr hx hq
  simp only [bytesT,List.getElem?_map,Option.map_eq_some_iff] at hr
  obtain ⟨b,hb,rfl⟩:=hr
  cases j with
  | succ j=>simp at hx
  | zero=>
   simp at hx hq
   subst hx;subst hq
   have:(byteCells s)[i]? = some (.int .u8 b.toNat):=by simp only [byteCells,List.getElem?_map,hb];rfl
   simp only [this,Option.getD_some]
   exact .sc rfl
theorem sound_appendS (h:Rel A pin w F O Go Gv st tm) (ds:List Deferred) {t tx ty e:TypeId} {zero:List Value} {lim:Nat} (ht:P.underlying t=some (.slice e)) (hx:P.underlying tx=some .string) (he:elemIs P e zero lim=true) (hz:zero.length=1)
  {x y:Opd} {x' y' : Operand} (hxx:opdIs x x' = true) (hyy:opdIs y y' = true) {d:Nat} {st' : St} (hv:vappendS st d x y lim=some st') (hd:∀ x,(d,x) ∉ pin) :
  ∃ v w',(Builtin.append_ #[t,tx] ty #[(Act.mk tm ds).eval x',(Act.mk tm ds).eval y']).run P w=.ok v w'∧Good A pin w F st' (tm.setIfInBounds d v) w':=by
 unfold vappendS at hv
 split at hv
 ·rename_i cx s hcx hcy
  have hrx:=(h.cell hxx hcx ds).1
  have hry:=h.val hyy hcy ds
  rw [hry]
  obtain ⟨core1,core2⟩:=append_core (ty:=ty) h ht he (p:=[.sc]) hz (srcs_string hx s F O Go st) hd
  rw [bytesT_length] at core1 core2
  split at hv
  ·split at hv
   ·rename_i hl
    simp at hv
    subst hv
    simp only [CRel] at hrx
    rw [hrx]
    obtain ⟨v,w',r1,r2⟩:=core1 hl
    refine ⟨v,w',r1,?_⟩
    have:=r2 [] (fun _ h=>h)
    simpa [St.push,killO,bytesT_length] using this
   ·simp at hv
  ·rename_i id len
   split at hv
   ·rename_i ob hob
    split at hv
    ·rename_i hcond
     simp at hcond hv
     obtain ⟨hb,hle,hlim⟩:=hcond
     have hot:=OT.beqs_eq _ _ hb
     subst hv
     have h1:=hrx.2 ob hob
     cases hg:Go id [] with
     | none=>
      simp only [hg] at h1
      obtain ⟨e1,_,rfl⟩:=h1
      rw [e1]
      have hes:ob.es=[]:=by
       rcases h.root hob with ⟨_,h10,_⟩|⟨b,h10,_⟩
       ·exact h10
       ·rw [hg] at h10;simp at h10
      obtain ⟨v,w',r1,r2⟩:=core1 (by omega)
      refine ⟨v,w',r1,?_⟩
      have:=r2 [id] (fun k hk=>by simp at hk)
      simpa [St.push,St.kill,killO_length,hes,bytesT_length] using this
     | some bk=>
      simp only [hg] at h1
      rcases h1 with ⟨_,e1,e2⟩|⟨h10,_⟩
      ·rw [e1]
       obtain ⟨v,w',r1,r2⟩:=core2 id len ob bk hob hot.symm hg hle e2 (by simp) hlim
       refine ⟨v,w',r1,?_⟩
       simpa [St.push,St.kill,killO_length] using r2
      ·omega
    ·simp at hv
   ·simp at hv
  ·simp at hv
 ·simp at hv
end
end Go.Proofs.V

namespace Go.Proofs.V
open Go
variable {P:Program}
section
variable {A:Nat→Prop} {pin:List (Nat×Value)} {w w' : World} {F:Nat→Prop} {O:Nat→Option Ow} {Go:Nat→Gh} {Gv:Nat→Option Nat} {st:St} {tm:Array Value}
theorem run_copy_src (w:World) (dT sT ty elem:TypeId) (base:Option Addr) (dLen dCap:Nat) {x:Value} {n:Nat} {news:List Value} (hu:P.underlying dT=some (.slice elem)) (hz:sizeIs P elem 1=true) (hs:Src P 1 sT x n news w) (hn:n≤dLen)
  {w' : World} (hst:∀ a,base=some a→(storeCells a news 0).run P w=.ok () w') (hb:base=none→w' = w) :
  (Builtin.copy_ #[dT,sT] ty #[.slice base dLen dCap,x]).run P w=.ok (goInt n) w':=by
 have hm:Nat.min n dLen=n:=Nat.min_eq_left hn
 cases base with
 | none=>
  have:=hb rfl
  subst this
  simp [Builtin.copy_,run_underlying hu,hs.len,run_sizeOf hz,hm,hs.cells]
 | some a=>
  simp [Builtin.copy_,run_underlying hu,hs.len,run_sizeOf hz,hm,hs.cells,hst a rfl]
theorem Rel.putRows:∀ (rows:List (List T)) (vs:List Value) {w:World} {O:Nat→Option Ow} {Go:Nat→Gh} {st:St} {id off:Nat} {ob:Ob} {bk:Bk},Rel A pin w F O Go Gv st tm→st.obj id=some ob→ob.ot=[.sc]→Go id []=some bk→off+rows.length≤ob.es.length→
  vs.length=rows.length→(∀ (k:Nat) (v:Value) (row:List T),vs[k]? = some v→rows[k]? = some row→row=[.lit v]∧isLit v=true)→
  ∃ O' Go',(∀ m,m≤off→(storeCells ⟨bk.g,m,none⟩ vs (off - m)).run P w=.ok () (w.setCells bk.g off vs))∧Rel A pin (w.setCells bk.g off vs) F O' Go' Gv { st with objs:=st.objs.set id (some ⟨[.sc],ob.es.take off++rows++ob.es.drop (off+rows.length)⟩) } tm∧Step A w (w.setCells bk.g off vs)
 | [],[],w,O,Go,st,id,off,ob,bk,h,hob,hot,hbk,hle,hl,hv=>by
  refine ⟨O,Go,fun m _=>rfl,?_,Step.refl A w⟩
  have e1:ob.es.take off++[]++ob.es.drop (off+([]:List (List T)).length)=ob.es:=by simp
  have e2:st.objs.set id (some ⟨[.sc],ob.es⟩)=st.objs:=by
   have:(⟨[.sc],ob.es⟩:Ob)=ob:=by rw [←hot]
   rw [this]
   apply List.ext_getElem?
   intro k
   rw [List.getElem?_set]
   split
   ·rename_i e
    subst e
    have hlt:=obj_lt hob
    rw [if_pos hlt]
    rw [obj_eq] at hob
    rw [List.getElem?_eq_getElem hlt] at hob ⊢
    simpa using hob.symm
   ·rfl
  rw [e1,e2]
  exact h
 | [],v::vs,w,O,Go,st,id,off,ob,bk,h,hob,hot,hbk,hle,hl,hv=>by simp at hl
 | r::rows,[],w,O,Go,st,id,off,ob,bk,h,hob,hot,hbk,hle,hl,hv=>by simp at hl
 | r::rows,v::vs,w,O,Go,st,id,off,ob,bk,h,hob,hot,hbk,hle,hl,hv=>by
  obtain ⟨hr,hlit⟩:=hv 0 v r rfl rfl
  subst hr
  have hoff:off < ob.es.length:=by simp at hle;omega
  obtain ⟨v0,hv0⟩:=h.objs id ob hob
  have hrl:ob.es[off].length=1:=by
   have:ob.ot.length=1:=by rw [hot];rfl
   rw [←this]
   generalize ht:T.sl ob.es=t at hv0
   cases hv0 with
   | nil hG0=>rw [hG0] at hbk;simp at hbk
   | @sl G p g cap es us0 hG0 hcap hm hrow0 hcc hf hcell0 hsubs=>
    simp at ht
    exact hrow0 off _ (by rw [←ht];exact List.getElem?_eq_getElem hoff)
  have hone:v.oneCell' = true:=by cases v <;> simp_all [isLit,Value.oneCell']
  have hset:ob.es[off].set 0 (.lit v)=[.lit v]:=by
   match hh:ob.es[off],hrl with
   | [x],_=>rfl
  have hput:st.putO id [] off 0 (.lit v)=some { st with objs:=st.objs.set id (some ⟨ob.ot,ob.es.set off [.lit v]⟩) }:=by
   unfold St.putO
   have htt:V.toT st .sc (.lit v)=some (.lit v,[]):=by simp [V.toT,hlit]
   simp only [hob,subEs,hot,List.getElem?_cons_zero,List.getElem?_eq_getElem hoff,htt,hrl,updEs,hset,killO,List.foldl_nil]
   rfl
  obtain ⟨ob1,ot1,bk1,e1,e2,e3,hc,hf,hA',O1,Go1,hrr,⟨ob',e4,e5⟩,e6,hrel⟩:=h.putO hput (u:=v) hone rfl
  rw [hob] at e1
  simp at e1
  subst e1
  simp [subOT] at e2
  subst e2
  rw [hbk] at e3
  simp at e3
  subst e3
  rw [hot] at hc hf hrr hrel
  simp only [List.length_cons,List.length_nil,Nat.zero_add,Nat.mul_one,Nat.add_zero] at hc hf hrr hrel
  have hob' : St.obj { st with objs:=st.objs.set id (some ⟨[.sc],ob.es.set off [.lit v]⟩) } id=some ⟨[.sc],ob.es.set off [.lit v]⟩:=by
   rw [obj_eq]
   simp [List.getElem?_set,obj_lt hob]
  obtain ⟨O2,Go2,s1,s2,s3⟩:=Rel.putRows rows vs (off:=off+1) hrr hob' rfl e6 (by simp at hle ⊢;omega) (by simpa using hl) (fun k v' row a b=>hv (k+1) v' row (by simpa using a) (by simpa using b))
  refine ⟨O2,Go2,fun m hm=>?_,?_,(Step.setCell w _ v hA').trans s3⟩
  ·simp only [storeCells,Sem.run_bind,addr_add,show m+(off - m)=off by omega,run_store1 hone hc hf,Result.andThen_ok]
   have:=s1 m (by omega)
   rw [show off+1 - m=off - m+1 by omega] at this
   exact this
  ·have e7:(ob.es.set off [.lit v]).take (off+1)++rows++(ob.es.set off [.lit v]).drop (off+1+rows.length)=ob.es.take off++([.lit v]::rows)++ob.es.drop (off+([.lit v]::rows).length):=by
    have a1:(ob.es.set off [.lit v]).take (off+1)=ob.es.take off++[[.lit v]]:=by
     rw [List.take_add_one,List.getElem?_set_self hoff,List.take_set_of_le (Nat.le_refl _)]
     rfl
    have a2:(ob.es.set off [.lit v]).drop (off+1+rows.length)=ob.es.drop (off+([.lit v]::rows).length):=by
     rw [List.drop_set_of_lt (by omega)]
     congr 1
     simp;omega
    rw [a1,a2]
    simp
   simp only [List.set_set] at s2
   rw [e7] at s2
   exact s2
theorem sound_copy (h:Rel A pin w F O Go Gv st tm) (ds:List Deferred) {t tx ty e e' : TypeId} (ht:P.underlying t=some (.slice e)) (hx:P.underlying tx=some (.slice e')) (he:sizeIs P e 1=true)
  {x y:Opd} {x' y' : Operand} (hxx:opdIs x x' = true) (hyy:opdIs y y' = true) {d:Nat} {st' : St} (hv:vcopy st d x y=some st') (hd:∀ x,(d,x) ∉ pin) :
  ∃ v w',(Builtin.copy_ #[t,tx] ty #[(Act.mk tm ds).eval x',(Act.mk tm ds).eval y']).run P w=.ok v w'∧Good A pin w F st' (tm.setIfInBounds d v) w':=by
 unfold vcopy at hv
 split at hv
 ·rename_i id off len cy hcx hcy
  have hrx:=(h.cell hxx hcx ds).1
  have hry:=(h.cell hyy hcy ds).1
  split at hv
  ·rename_i ob rows us hob hrows
   split at hv
   ·rename_i hcond
    simp only [Bool.and_eq_true,decide_eq_true_eq] at hcond
    obtain ⟨hb,hl,hle⟩:=hcond
    have hot:=(OT.beqs_eq _ _ hb).symm
    obtain rfl:=Option.some.inj hv
    have hs:=h.srcs (P:=P) (p:=[.sc]) (by simp) hrows hry hx
    obtain ⟨⟨uv,hsrc,hrow,hsub⟩,hus⟩:=hs
    have hsrc' : Src P 1 tx ((Act.mk tm ds).eval y') rows.length (flatV rows.length 1 uv) w:=hsrc
    have hvr:∀ (k:Nat) (v:Value) (row:List T),(flatV rows.length 1 uv)[k]? = some v→rows[k]? = some row→row=[.lit v]∧isLit v=true:=by
     intro k v row h1 h2
     obtain ⟨i,j,hi,hj,rfl,rfl⟩:=flatV_some h1
     have hj0:j=0:=by omega
     subst hj0
     simp at h2
     have h3:=hrow i row h2
     match row,h3 with
     | [x],_=>
      have:=hsub i 0 [x] x .sc h2 rfl rfl
      cases this with
      | sc h=>exact ⟨rfl,h⟩
    have h1:=hrx.2 ob hob
    have fin:∀ {O' Go' w1},Rel A pin w1 F O' Go' Gv { st with objs:=st.objs.set id (some ⟨[.sc],ob.es.take off++rows++ob.es.drop (off+rows.length)⟩) } tm→Step A w w1→
      Good A pin w F { st with slots:=st.slots.set d (litS (.int .i64 rows.length)),objs:=st.objs.set id (some ⟨[.sc],ob.es.take off++rows++ob.es.drop (off+rows.length)⟩) } (tm.setIfInBounds d (goInt rows.length)) w1:=by
     intro O' Go' w1 hR hS
     have:=hR.put (d:=d) (s:=litS (.int .i64 rows.length)) (v:=goInt rows.length) ⟨_,rfl,.inl rfl,rfl⟩ hd
     exact ⟨F,O',Go',Gv,this,hS,fun _ h=>h,fun _ h=>.inl h⟩
    cases hg:Go id [] with
    | none=>
     simp only [hg] at h1
     obtain ⟨e1,e2,e3⟩:=h1
     rw [e1]
     subst e2
     subst e3
     have hr0:rows=[]:=List.eq_nil_of_length_eq_zero (by omega)
     subst hr0
     refine ⟨_,w,run_copy_src w t tx ty e none 0 0 ht he hsrc' hl (by simp) (fun _=>rfl),?_⟩
     refine fin (O':=O) (Go':=Go) ?_ (Step.refl A w)
     have e2:st.objs.set id (some ⟨[.sc],ob.es⟩)=st.objs:=by
      have:(⟨[.sc],ob.es⟩:Ob)=ob:=by rw [←hot]
      rw [this]
      apply List.ext_getElem?
      intro k
      rw [List.getElem?_set]
      split
      ·rename_i e
       subst e
       have hlt:=obj_lt hob
       rw [if_pos hlt]
       rw [obj_eq] at hob
       rw [List.getElem?_eq_getElem hlt] at hob ⊢
       simpa using hob.symm
      ·rfl
     simpa [e2] using h
    | some bk=>
     simp only [hg] at h1
     obtain ⟨O',Go',s1,s2,s3⟩:=Rel.putRows (P:=P) rows (flatV rows.length 1 uv) (off:=off) h hob hot hg (by omega) (by rw [flatV_length];omega) hvr
     have hx' : ∃ a c,(Act.mk tm ds).eval x'=.slice a len c∧(0 < len→a=some ⟨bk.g,off,none⟩):=by
      rcases h1 with ⟨e0,e1,e2⟩|⟨_,a,c,e1,_,_,e2⟩
      ·subst e0
       exact ⟨_,_,e1,fun _=>rfl⟩
      ·refine ⟨a,c,e1,fun h0=>?_⟩
       obtain ⟨ot,h3,h4⟩:=e2 h0
       simp [subOT] at h3
       subst h3
       rw [hot] at h4
       simpa using h4
     obtain ⟨a,c,e1,e2⟩:=hx'
     rw [e1]
     refine ⟨_,w.setCells bk.g off (flatV rows.length 1 uv),run_copy_src w t tx ty e a len c ht he hsrc' hl (fun a' ha=>?_) (fun ha=>?_),fin s2 s3⟩
     ·by_cases h0:0 < len
      ·rw [e2 h0] at ha
       obtain rfl:=Option.some.inj ha
       have:=s1 off (Nat.le_refl _)
       simpa using this
      ·have hr0:rows=[]:=List.eq_nil_of_length_eq_zero (by omega)
       subst hr0
       rfl
     ·by_cases h0:0 < len
      ·rw [e2 h0] at ha
       simp at ha
      ·have hr0:rows=[]:=List.eq_nil_of_length_eq_zero (by omega)
       subst hr0
       rfl
   ·simp at hv
  ·simp at hv
 ·simp at hv
end
end Go.Proofs.V

namespace Go.Proofs.V
open Go
variable {P:Program}
section
variable {A:Nat→Prop} {pin:List (Nat×Value)} {w w' : World} {F:Nat→Prop} {O:Nat→Option Ow} {Go:Nat→Gh} {Gv:Nat→Option Nat} {st:St} {tm:Array Value}
theorem Rel.addF (h:Rel A pin w F O Go Gv st tm) {g:Nat} (hO:O g=none) (hg:g < w.heap.size):Rel A pin w (fun b=>F b∨b=g) O Go Gv st tm:=by
 have hext:Ext w w F (fun b=>F b∨b=g) Go Go Gv Gv st st:=⟨fun b _=>Same.refl w b,fun b h=>.inl h,Nat.le_refl _,Nat.le_refl _,fun k _ o ho=>⟨o,ho,rfl,rfl⟩,fun k _ cs h=>⟨⟨cs,h⟩,rfl⟩⟩
 refine ⟨h.size,fun k v s h1 h2=>(h.slots k v s h1 h2).ext hext,fun id o ho=>?_,h.objN,fun id cs hcs=>?_,h.varN,h.oO,h.oV,?_,h.oA,?_,h.aN,h.pinned⟩
 ·obtain ⟨v,hv⟩:=h.objs id o ho
  exact ⟨v,hv.keep (fun b _=>Same.refl w b) (fun b h=>.inl h) (fun _=>rfl) (fun _ _ _=>Same.refl w _)⟩
 ·obtain ⟨g',h1,h2⟩:=h.vars id cs hcs
  refine ⟨g',h1,fun k c hk=>?_⟩
  obtain ⟨u,a1,a2,a3,a4⟩:=h2 k c hk
  exact ⟨u,a1,a2,a3,a4.ext hext⟩
 ·rintro b (hb | rfl)
  ·exact h.oF b hb
  ·exact hO
 ·rintro b (hb | rfl)
  ·exact h.fS b hb
  ·exact hg
theorem isLit_cells {v:Value} (h:isLit v=true):v.cells = #[v]:=by
 cases v <;> simp_all [isLit,Value.cells]
theorem sound_litr (h:Rel A pin w F O Go Gv st tm) (ds:List Deferred) {t:TypeId} {zero:List Value} {lim:Nat} (ht:sliceIs P t (fun e=>elemIs P e zero lim)=true) (hz:zero.length=1) {vs:List Value} {parts:Array (Nat×Operand)}
  (hps:partsAre parts.toList (vs.map .k)=true) (hN:vs.length≤16777216) (hv:vs.all isLit=true) {d:Nat} (hd:∀ x,(d,x) ∉ pin) :
  ∃ v w',(Instr.buildSlice t vs.length (parts.map fun x=>(x.1,(Act.mk tm ds).eval x.2))).run P w=.ok v w'∧Good A pin w F (st.set d (.v false [.ro [.sc] (vs.map fun v=>[.lit v])])) (tm.setIfInBounds d v) w':=by
 obtain ⟨e,h1,h2⟩:=sliceIs_some ht
 obtain ⟨i,z,h3,h4,h5,h6,h7,h8,h9⟩:=elemIs_some h2
 simp only [partsAre,Bool.and_eq_true,decide_eq_true_eq] at hps
 have hzs:z.cells.size=([.sc]:List OT).length:=by rw [show ([.sc]:List OT).length=1 from rfl,←hz,←h5];simp
 have hsz:i.size=([.sc]:List OT).length:=by rw [h6,hz];rfl
 have hvl:∀ v ∈ vs,isLit v=true:=fun v hm=>List.all_eq_true.1 hv v hm
 have hlen:parts.toList.length=vs.length:=by
  have:=congrArg List.length hps.1
  simpa using this
 have hev:∀ (k:Nat) (v:Value),vs[k]? = some v→∃ y:Nat×Operand,parts.toList[k]? = some y∧y.1=k∧(Act.mk tm ds).eval y.2=v:=by
  intro k v hk
  have hkl:k < vs.length:=(List.getElem?_eq_some_iff.1 hk).1
  have hk2:k < parts.toList.length:=by omega
  refine ⟨parts.toList[k],List.getElem?_eq_getElem hk2,?_,?_⟩
  ·have hk1:=congrArg (·[k]?) hps.1
   simp only [List.getElem?_map,List.getElem?_range',List.getElem?_eq_getElem hk2,Option.map_some] at hk1
   simp [hkl] at hk1
   simpa using hk1
  ·have:opdsAre (vs.map .k) (parts.toList.map (·.2))=true:=hps.2
   have gen:∀ (xs:List Opd) (ys:List Operand) (j:Nat) (x:Opd) (y:Operand),opdsAre xs ys=true→xs[j]? = some x→ys[j]? = some y→opdIs x y=true:=by
    intro xs
    induction xs with
    | nil=>intro ys j x y _ hx;simp at hx
    | cons a xs ih=>
     intro ys j x y ho hx hy
     cases ys with
     | nil=>simp at hy
     | cons b ys=>
      simp only [opdsAre,Bool.and_eq_true] at ho
      cases j with
      | zero=>simp at hx hy;subst hx;subst hy;exact ho.1
      | succ j=>exact ih ys j x y ho.2 (by simpa using hx) (by simpa using hy)
   have h10:=gen _ _ k (.k v) parts.toList[k].2 this (by simp [hk]) (by rw [List.getElem?_map,List.getElem?_eq_getElem hk2];rfl)
   generalize parts.toList[k].2=y at h10
   cases y with
   | const u=>
    have:=litEq_eq (by simpa [opdIs] using h10)
    subst this
    rfl
   | _=>simp [opdIs] at h10
 have hp:(parts.map fun x=>(x.1,(Act.mk tm ds).eval x.2)).toList=vs.zipIdx.map fun x=>(x.2,x.1):=by
  rw [Array.toList_map]
  apply List.ext_getElem?
  intro k
  by_cases hk:k < vs.length
  ·obtain ⟨y,e1,e2,e3⟩:=hev k vs[k] (List.getElem?_eq_getElem hk)
   rw [List.getElem?_map,e1,List.getElem?_map,List.getElem?_zipIdx,List.getElem?_eq_getElem hk]
   simp [e2,e3]
  ·rw [List.getElem?_eq_none (by rw [List.length_map];omega),List.getElem?_eq_none (by simp;omega)]
 obtain ⟨cells,r1,r2,r3⟩:=run_lits (w:=w) h1 h3 h4 hsz hzs hp (fun v hm=>by rw [isLit_cells (hvl v hm)];rfl) (by simp;omega)
 refine ⟨_,_,r1,?_⟩
 have hfree:=h.free (Nat.le_refl w.heap.size)
 have hcell:∀ o,(w.alloc (.cells cells e)).cell? ⟨w.heap.size,o,none⟩=cells[o]?:=fun o=>cell_alloc_new w cells e o
 have hR:=(h.alloc (.cells cells e)).addF hfree.1 (by simp)
 have hrd:Rd (w.alloc (.cells cells e)) (fun b=>F b∨b=w.heap.size) (.ro [.sc]) (.slice (some ⟨w.heap.size,0,none⟩) (vs.map fun v=>[T.lit v]).length vs.length) (.sl (vs.map fun v=>[T.lit v])):=by
  refine .sl (fun a _=>vs[a]?.getD undef) (.inr rfl) (by simp) (by simp only [maxLen];omega) ?_ ?_ ?_
  ·intro a row hrow
   simp only [List.getElem?_map,Option.map_eq_some_iff] at hrow
   obtain ⟨v,_,rfl⟩:=hrow
   rfl
  ·intro a b ha hb
   simp at ha hb
   subst hb
   have hk:vs[a]? = some vs[a]:=List.getElem?_eq_getElem ha
   have h11:=r3 a 0 vs[a] hk (by simp)
   rw [hcell,Nat.zero_add]
   refine h11.trans ?_
   rw [isLit_cells (hvl _ (List.getElem_mem ha)),hk]
   rfl
  ·intro a b row x q hrow hx hq
   simp only [List.getElem?_map,Option.map_eq_some_iff] at hrow
   obtain ⟨v,hv1,rfl⟩:=hrow
   cases b with
   | succ b=>simp at hx
   | zero=>
    simp at hx hq
    subst hx;subst hq
    simp only [hv1,Option.getD_some]
    exact .sc (hvl v (List.mem_of_getElem? hv1))
 have hlen2:(vs.map fun v=>[T.lit v]).length=vs.length:=by simp
 rw [hlen2] at hrd
 have:=hR.put (d:=d) (s:=.v false [.ro [.sc] (vs.map fun v=>[.lit v])]) (v:=.slice (some ⟨w.heap.size,0,none⟩) vs.length vs.length) ⟨_,rfl,.inl rfl,hrd⟩ hd
 exact ⟨_,O,Go,Gv,this,Step.alloc A w _,fun b hb=>.inl hb,fun b hb=>by
  rcases hb with hb | rfl
  ·exact .inl hb
  ·exact .inr hfree.2.2⟩
end
end Go.Proofs.V

namespace Go.Proofs.V
open Go
variable {P:Program}
section
variable {A:Nat→Prop} {pin:List (Nat×Value)} {w w' : World} {F:Nat→Prop} {O:Nat→Option Ow} {Go:Nat→Gh} {Gv:Nat→Option Nat} {st:St} {tm:Array Value}
theorem Good.set (h:Rel A pin w F O Go Gv st tm) {d:Nat} {v:Value} {s:SV} (hs:SRel w F Go Gv st v s) (hd:∀ x,(d,x) ∉ pin):Good A pin w F (st.set d s) (tm.setIfInBounds d v) w:=
 Good.same (h.put hs hd)
theorem litRel {v:Value} (h:isLit v=true):SRel w F Go Gv st v (litS v):=⟨.lit v,rfl,.inl (by cases v <;> simp_all [isLit,Value.oneCell']),rfl⟩
theorem undefRel:SRel w F Go Gv st undef undefS:=⟨.lit undef,rfl,.inr ⟨rfl,rfl⟩,rfl⟩
theorem sound_s2b (h:Rel A pin w F O Go Gv st tm) {src dst e:TypeId} {u:TypeDesc} (hs:P.underlying src=some u) (hd1:P.underlying dst=some (.slice e)) (he:P.underlying e=some (.int .u8)) (s:ByteArray) (hsz:s.size≤maxLen) {d:Nat} (hd:∀ x,(d,x) ∉ pin) :
  ∃ v w',(convert src dst (.string s)).run P w=.ok v w'∧Good A pin w F (st.push d ⟨[.sc],bytesT s⟩) (tm.setIfInBounds d v) w':=by
 refine ⟨_,_,Lib.run_convert_string_bytes w src dst e s hs hd1 he,?_⟩
 have hfree:=h.free (Nat.le_refl w.heap.size)
 have hge:=grownCap_ge w s.size 0 e
 have hcm:=grownCap_le_maxLen w s.size 0 e hsz
 have hold:∀ b,b < w.heap.size→(Lib.bytesWorld w e s).heap[b]? = w.heap[b]?:=fun b hb=>Lib.bytesWorld_at_old w e s b hb
 have hnew:=Lib.bytesWorld_at_new w e s
 have hstep:Step A w (Lib.bytesWorld w e s):=⟨by rw [Lib.bytesWorld_size];omega,fun b hb _=>hold b hb,rfl,rfl,rfl,fun b hb=>by
  by_cases h1:b < w.heap.size
  ·exact (FrOk.get hb).of_heap (hold b h1)
  ·by_cases h2:b=w.heap.size
   ·subst h2
    intro c e' lo hi hx
    rw [hnew] at hx
    simp at hx
    obtain ⟨rfl,_,rfl,_⟩:=hx
    exact .inr (Nat.le_refl _)
   ·exact FrOk.big (by rw [Lib.bytesWorld_size];omega)⟩
 have hcs:(Lib.bytesCells w e s).size=grownCap w s.size 0 e:=by
  unfold Lib.bytesCells
  have:s.data.size=s.size:=rfl
  simp [this]
  omega
 have hl:=bytesT_length s
 obtain ⟨O',Go',hr,hc⟩:=h.made hstep (us:=[]) (fun b x hx _=>Same.of_heap (hold b (h.oA b x hx).2)) (fun b hb=>Same.of_heap (hold b (h.fS b hb)))
  (f:=fun _ _=>none) (ot:=[.sc]) (es:=bytesT s) (g:=w.heap.size) (cap:=grownCap w s.size 0 e) (fun i _=>.int .u8 (s.data.toList.getD i 0).toNat)
  (.inl ⟨hfree.1,hfree.2.1,hfree.2.2,by rw [Lib.bytesWorld_size];omega⟩) (by simp) (by simp) (by omega) hcm
  (fun i row hr=>by
   simp only [bytesT,List.getElem?_map,Option.map_eq_some_iff] at hr
   obtain ⟨b,_,rfl⟩:=hr
   rfl)
  (fun k hk=>by
   simp at hk
   simp only [World.cell?,hnew]
   exact ⟨_,by simp;exact Array.getElem?_eq_getElem (by omega)⟩)
  (fun k hk=>by
   simp at hk
   simp only [World.frozen?,hnew]
   simp
   omega)
  (fun i j hi hj=>by
   simp at hj
   subst hj
   simp
   have:=Lib.bytesWorld_cell w e s i (by omega)
   simpa using this)
  (fun i j row x q hr hx hq=>by
   simp only [bytesT,List.getElem?_map,Option.map_eq_some_iff] at hr
   obtain ⟨b,hb,rfl⟩:=hr
   cases j with
   | succ j=>simp at hx
   | zero=>
    simp at hx hq
    subst hx;subst hq
    have:s.data.toList.getD i 0=b:=by rw [List.getD_eq_getElem?_getD,hb];rfl
    simp only [this]
    exact .sc rfl)
 refine ⟨F,O',Go',Gv,?_,hstep,fun _ h=>h,fun _ h=>.inl h⟩
 have:=hr.put (d:=d) (s:=.v false [.ref st.objs.length [] 0 (bytesT s).length]) (v:=.slice (some ⟨w.heap.size,0,none⟩) s.size (grownCap w s.size 0 e)) ⟨_,rfl,.inl rfl,by rw [hl] at hc ⊢;exact hc⟩ hd
 simpa [St.push,St.set,killO] using this
theorem heap_freeze (w:World) (g n:Nat) {b:Nat} (hb:b≠g):(w.freeze ⟨g,n,none⟩ 1).heap[b]? = w.heap[b]?:=by
 simp only [World.freeze]
 simp [Array.getElem?_modify,Ne.symm hb]
theorem freeze_at {w:World} {g n:Nat} {c:Array Value} {e:TypeId} {lo hi:Nat} (h:w.heap[g]? = some (.cells c e (lo,hi))) :
  (w.freeze ⟨g,n,none⟩ 1).heap[g]? = some (.cells c e (if lo==hi then (n,n+1) else (min lo n,max hi (n+1)))):=by
 simp only [World.freeze]
 simp [Array.getElem?_modify,h]
theorem Same.freeze {w:World} {g:Nat} {c:Array Value} {e:TypeId} {lo hi:Nat} (h:w.heap[g]? = some (.cells c e (lo,hi))) (hf:lo=hi∨c.size≤lo) (b:Nat) :
  Same w (w.freeze ⟨g,c.size,none⟩ 1) b:=by
 by_cases hb:b=g
 ·subst hb
  intro o
  have h2:=freeze_at (n:=c.size) h
  refine ⟨by simp only [World.cell?,h,h2],fun hu=>?_⟩
  obtain ⟨u,hu⟩:=hu
  have ho:o < c.size:=by
   simp only [World.cell?,h] at hu
   exact (Array.getElem?_eq_some_iff.1 hu).1
  clear hu
  simp only [World.frozen?,h,h2]
  by_cases h3:lo=hi
  ·subst h3
   have a1 : ¬ c.size≤o:=by omega
   have a2:∀ k:Nat,(decide (k≤o)&&decide (o < k))=false:=fun k=>by
    by_cases hk:k≤o
    ·simp [Nat.not_lt.2 hk]
    ·simp [hk]
   simp [a1,a2]
  ·have h4:c.size≤lo:=hf.resolve_left h3
   have a1 : ¬ lo≤o:=by omega
   have a2 : ¬ min lo c.size≤o:=by rw [Nat.min_eq_right h4];omega
   simp [h3,a1,a2]
 ·exact Same.of_heap (heap_freeze w g c.size hb)
theorem Step.freeze {A:Nat→Prop} {w:World} {g:Nat} {c:Array Value} {e:TypeId} {lo hi:Nat} (h:w.heap[g]? = some (.cells c e (lo,hi))) (hf:lo=hi∨c.size≤lo) (hA:A g) :
  Step A w (w.freeze ⟨g,c.size,none⟩ 1):=by
 refine ⟨by simp [World.freeze],fun b _ hb=>heap_freeze w g c.size (fun e=>hb (e ▸ hA)),by simp [World.freeze],by simp [World.freeze],by simp [World.freeze],fun b hb=>?_⟩
 by_cases hbg:b=g
 ·subst hbg
  intro c' e' lo' hi' hx
  rw [freeze_at h] at hx
  simp at hx
  obtain ⟨rfl,_,hx⟩:=hx
  by_cases h3:lo=hi
  ·simp [h3] at hx
   right;omega
  ·have h4:c.size≤lo:=hf.resolve_left h3
   simp [h3] at hx
   right;omega
 ·exact (FrOk.get hb).of_heap (heap_freeze w g c.size hbg)
theorem run_cvb (w:World) {t e:TypeId} (hd:P.underlying t=some (.slice e)) (he:P.underlying e=some (.int .u8)) (g l cp:Nat) :
  (convert t t (.slice (some ⟨g,0,none⟩) l cp)).run P w=.ok (.slice (some ⟨g,0,none⟩) l cp) (match w.shape? g with | some (_,n)=>w.freeze ⟨g,n,none⟩ 1 | none=>w):=by
 cases hs:w.shape? g with
 | none=>simp [convert,run_underlying hd,run_underlying he,markStringish,hs,Result.andThen]
 | some x=>simp [convert,run_underlying hd,run_underlying he,markStringish,hs,Result.andThen]
theorem sound_cvb (h:Rel A pin w F O Go Gv st tm) (hfr:∀ b,A b→FrOk w b) {t e:TypeId} (hd1:P.underlying t=some (.slice e)) (he:P.underlying e=some (.int .u8)) {g l cp:Nat} (hA:A g)
  {d:Nat} (hd:∀ x,(d,x) ∉ pin) {x:SV} (hx:SRel w F Go Gv st (.slice (some ⟨g,0,none⟩) l cp) x) :
  ∃ w',(convert t t (.slice (some ⟨g,0,none⟩) l cp)).run P w=.ok (.slice (some ⟨g,0,none⟩) l cp) w'∧Good A pin w F (st.set d x) (tm.setIfInBounds d (.slice (some ⟨g,0,none⟩) l cp)) w':=by
 refine ⟨_,run_cvb w hd1 he g l cp,?_⟩
 have hp:=h.put (d:=d) hx hd
 cases hh:w.heap[g]? with
 | none=>
  have:w.shape? g=none:=by simp [World.shape?,hh]
  rw [this]
  exact Good.same hp
 | some o=>
  cases o with
  | cells c e' f=>
   obtain ⟨lo,hi⟩:=f
   have:w.shape? g=some (e',c.size):=by simp [World.shape?,hh]
   rw [this]
   have hf:=hfr g hA c e' lo hi hh
   exact ⟨F,O,Go,Gv,hp.world (Step.freeze hh hf hA) (fun b _ _=>Same.freeze hh hf b) (fun b _=>Same.freeze hh hf b),Step.freeze hh hf hA,fun _ h=>h,fun _ h=>.inl h⟩
  | _=>
   have:w.shape? g=none:=by simp [World.shape?,hh]
   rw [this]
   exact Good.same hp
theorem bytesOf_get:∀ {es:List (List T)} {bs:List UInt8},bytesOf es=some bs→bs.length=es.length∧∀ (i:Nat) (b:UInt8),bs[i]? = some b→∃ n:Int,es[i]? = some [T.lit (.int .u8 n)]∧0≤n∧n≤255∧b=UInt8.ofNat n.toNat
 | [],bs,h=>by simp [bytesOf] at h;subst h;exact ⟨rfl,by simp⟩
 | e::es,bs,h=>by
  unfold bytesOf at h
  split at h
  ·rename_i h1;simp at h1
  ·rename_i n es' h1
   simp at h1
   obtain ⟨rfl,rfl⟩:=h1
   split at h
   ·rename_i hn
    simp only [Option.map_eq_some_iff] at h
    obtain ⟨bs',h2,rfl⟩:=h
    obtain ⟨h3,h4⟩:=bytesOf_get h2
    refine ⟨by simp [h3],fun i b hb=>?_⟩
    cases i with
    | zero=>simp at hb;subst hb;exact ⟨n,rfl,hn.1,hn.2,rfl⟩
    | succ i=>exact h4 i b (by simpa using hb)
   ·simp at h
  ·simp at h
theorem run_b2s {v:Value} {es:List (List T)} {bs:List UInt8} (hv:Rd w F (.ro [.sc]) v (.sl es)) (hb:bytesOf es=some bs):(Conv.bytesToString v).run P w=.ok (.string ⟨bs.toArray⟩) w:=by
 obtain ⟨h1,h2⟩:=bytesOf_get hb
 generalize ht:T.sl es=t at hv
 cases hv with
 | @emp p a cap hcap=>
  simp at ht
  subst ht
  simp at h1
  subst h1
  cases a with
  | none=>rfl
  | some a=>
   have:=run_bytesToString (P:=P) w a 0 cap [] (by simpa using run_loadCells_list (P:=P) w a [] (by simp))
   exact this
 | @sl p g o cap es' us hF hcap hm hrow hcell hsub=>
  simp at ht
  subst ht
  have hns:∃ ns:List Int,ns.length=es.length∧∀ (i:Nat) (n:Int),ns[i]? = some n→us i 0=.int .u8 n∧bs[i]? = some (UInt8.ofNat n.toNat):=by
   refine list_of es.length (fun i hi=>?_)
   have hbi:i < bs.length:=by omega
   obtain ⟨n,e1,e2,e3,e4⟩:=h2 i bs[i] (by simp [hbi])
   have e5:bs[i]? = some (UInt8.ofNat n.toNat):=by rw [List.getElem?_eq_getElem hbi,e4]
   refine ⟨n,?_,e5⟩
   have:=hsub i 0 _ _ .sc e1 rfl rfl
   generalize us i 0=u at this ⊢
   cases this
   rfl
  obtain ⟨ns,n1,n2⟩:=hns
  have hload:(loadCells ⟨g,o,none⟩ es.length).run P w=.ok (ns.map (Value.int .u8)).toArray w:=by
   have:=run_loadCells_list (P:=P) w ⟨g,o,none⟩ (ns.map (Value.int .u8)) (fun j v hj=>by
    simp only [List.getElem?_map,Option.map_eq_some_iff] at hj
    obtain ⟨n,hn,rfl⟩:=hj
    have hjl:j < es.length:=by rw [←n1];exact (List.getElem?_eq_some_iff.1 hn).1
    have:=hcell j 0 hjl (by simp)
    rw [addr_add]
    simp at this
    rw [this,(n2 j n hn).1])
   simpa [n1] using this
  rw [run_bytesToString w _ _ _ ns hload]
  congr 2
  have hfold:∀ (l:List Int) (r:ByteArray),l.foldl (fun r n=>r.push (UInt8.ofNat n.toNat)) r=⟨r.data++(l.map fun n=>UInt8.ofNat n.toNat).toArray⟩:=by
   intro l
   induction l with
   | nil=>intro r;simp
   | cons n l ih=>
    intro r
    simp only [List.foldl_cons,ih,List.map_cons]
    congr 1
    apply Array.ext'
    simp [ByteArray.push]
  rw [hfold]
  have hbs:ns.map (fun n=>UInt8.ofNat n.toNat)=bs:=by
   apply List.ext_getElem?
   intro i
   by_cases hi:i < es.length
   ·have hni:i < ns.length:=by omega
    have:=(n2 i ns[i] (by simp [hni])).2
    simp [this,hni]
   ·rw [List.getElem?_eq_none (by simp;omega),List.getElem?_eq_none (by omega)]
  rw [hbs]
  congr 1
  apply Array.ext'
  rw [Array.toList_append]
  rfl
theorem run_sliceS {t:TypeId} (ht:underIs P t (fun d=>d matches .string)=true) (h:Rel A pin w F O Go Gv st tm) (ds:List Deferred) {lo hi:Option Opd} {lo' hi' : Option Operand} (h1:optIs lo lo' = true) (h2:optIs hi hi' = true) {s:ByteArray} {l hh:Nat} (hv:vbounds st s.size lo hi=some (l,hh)) :
  (Instr.sliceAt t (.string s) (lo'.map (Act.mk tm ds).eval) (hi'.map (Act.mk tm ds).eval) (none:Option Value)).run P w=.ok (.string (s.extract l hh)) w:=by
 obtain ⟨d,e1,e2⟩:=underIs_some ht
 cases d <;> simp at e2
 have hb:=(run_bounds (P:=P) h ds h1 h2 (Nat.le_refl _) false hv).1
 unfold Instr.sliceAt Instr.slice
 simp [run_underlying e1,hb]
theorem run_sliceV {t e:TypeId} {n:Nat} (ht:P.underlying t=some (.slice e)) (hn:sizeIs P e n=true) (h:Rel A pin w F O Go Gv st tm) (ds:List Deferred) {lo hi:Option Opd} {lo' hi' : Option Operand} (h1:optIs lo lo' = true) (h2:optIs hi hi' = true)
  {a:Option Addr} {len cap l hh:Nat} (hc:len≤cap) (hv:vbounds st len lo hi=some (l,hh)) :
  (Instr.sliceAt t (.slice a len cap) (lo'.map (Act.mk tm ds).eval) (hi'.map (Act.mk tm ds).eval) (none:Option Value)).run P w=.ok (.slice (if cap=l then a else a.map (·.add (l*n))) (hh - l) (cap - l)) w∧l≤hh∧hh≤len:=by
 have hb:=run_bounds (P:=P) h ds h1 h2 hc true hv
 refine ⟨?_,hb.2⟩
 unfold Instr.sliceAt Instr.slice
 simp [run_underlying ht,hb.1,run_sizeOf hn]
theorem sound_slc (h:Rel A pin w F O Go Gv st tm) (ds:List Deferred) {t:TypeId} {n:Nat} (ht:sliceIs P t (fun e=>sizeIs P e n)=true) {x:Opd} {x' : Operand} (hx:opdIs x x' = true) {lo hi:Option Opd} {lo' hi' : Option Operand} (h1:optIs lo lo' = true) (h2:optIs hi hi' = true)
  {c:C} (hc:st.cell x=some c) {s:SV}
  (hs:slcR st lo hi n c=some s) :
  ∃ v,(Instr.sliceAt t ((Act.mk tm ds).eval x') (lo'.map (Act.mk tm ds).eval) (hi'.map (Act.mk tm ds).eval) (none:Option Value)).run P w=.ok v w∧SRel w F Go Gv st v s:=by
 obtain ⟨e,he1,he2⟩:=sliceIs_some ht
 have hr:=(h.cell hx hc ds).1
 cases c with
 | ro p es=>
  simp only [slcR] at hs
  split at hs
  ·rename_i hpn
   simp only [Option.map_eq_some_iff] at hs
   obtain ⟨⟨l,hh⟩,hb,rfl⟩:=hs
   generalize hv:(Act.mk tm ds).eval x' = v0 at hr
   simp only [CRel] at hr
   generalize htt:T.sl es=tt at hr
   generalize hq:OT.ro p=q at hr
   cases hr with
   | sc _=>simp at hq
   | hole _=>simp at hq
   | full _=>simp at hq
   | @emp p' a cap hcap=>
    simp at htt
    subst htt
    have:=run_sliceV (P:=P) he1 he2 h ds h1 h2 (a:=a) (Nat.zero_le cap) (by simpa using hb)
    obtain ⟨r1,r2,r3⟩:=this
    refine ⟨_,r1,_,rfl,.inl rfl,?_⟩
    have:hh - l=0:=by omega
    rw [this]
    simp
    exact .emp (by omega)
   | @sl p' g o cap es' us hF hcap hm hrow hcell hsub=>
    simp at htt hq
    subst htt
    subst hq
    have:=run_sliceV (P:=P) he1 he2 h ds h1 h2 (a:=some ⟨g,o,none⟩) hcap hb
    obtain ⟨r1,r2,r3⟩:=this
    refine ⟨_,r1,_,rfl,.inl rfl,?_⟩
    have hlen:((es.take hh).drop l).length=hh - l:=by simp;omega
    by_cases h0:hh - l=0
    ·have:(es.take hh).drop l=[]:=List.eq_nil_of_length_eq_zero (by omega)
     simp only [CRel]
     rw [this,h0]
     exact .emp (by omega)
    ·have hne : ¬ cap=l:=by omega
     simp only [hne,if_false,Option.map_some,addr_add]
     have get:∀ (i:Nat) (row:List T),((es.take hh).drop l)[i]? = some row→es[l+i]? = some row:=by
      intro i row hi
      rw [List.getElem?_drop,List.getElem?_take] at hi
      split at hi
      ·exact hi
      ·simp at hi
     have:=Rd.sl (w:=w) (F:=F) (p:=p) (g:=g) (o:=o+l*n) (cap:=cap - l) (es:=(es.take hh).drop l) (fun i j=>us (l+i) j) hF (by omega) (by omega)
      (fun i row hi=>hrow _ row (get i row hi))
      (fun i j hi hj=>by
       have:=hcell (l+i) j (by omega) hj
       rw [Nat.add_mul,hpn] at this
       rw [hpn,Nat.add_assoc,Nat.add_assoc]
       rw [show o+(l*n+i*n)+j=o+(l*n+(i*n+j)) by omega] at this
       exact this)
      (fun i j row x q a b c=>hsub (l+i) j row x q (get i row a) b c)
     rw [hlen] at this
     exact this
  ·simp at hs
 | ref id q off len=>
  simp only [slcR] at hs
  split at hs
  ·rename_i ot hot
   simp only [Option.bind_eq_some_iff] at hot
   obtain ⟨ob,hob,hot⟩:=hot
   split at hs
   ·rename_i hpn
    simp only [Option.map_eq_some_iff] at hs
    obtain ⟨⟨l,hh⟩,hb,rfl⟩:=hs
    have hr2:=hr.2 ob hob
    cases hg:Go id q with
    | none=>
     simp only [hg] at hr2
     obtain ⟨e1,rfl,rfl⟩:=hr2
     rw [e1]
     obtain ⟨r1,r2,r3⟩:=run_sliceV (P:=P) he1 he2 h ds h1 h2 (a:=none) (Nat.zero_le 0) hb
     have hh0:hh=0:=by omega
     have hl0:l=0:=by omega
     subst hh0;subst hl0
     refine ⟨_,r1,_,rfl,.inl rfl,hr.1,fun o ho=>?_⟩
     simp [hg]
    | some b=>
     simp only [hg] at hr2
     rcases hr2 with ⟨rfl,e1,e2⟩|⟨hoff,a,c,e1,e2,e3,e4⟩
     ·rw [e1]
      obtain ⟨r1,r2,r3⟩:=run_sliceV (P:=P) he1 he2 h ds h1 h2 (a:=some ⟨b.g,0,none⟩) e2 hb
      refine ⟨_,r1,_,rfl,.inl rfl,hr.1,fun o ho=>?_⟩
      simp only [hg]
      by_cases hl0:l=0
      ·subst hl0
       refine .inl ⟨rfl,?_,by omega⟩
       have:(if b.cap=0 then some (⟨b.g,0,none⟩:Addr) else Option.map (fun x:Addr=>x.add (0*n)) (some ⟨b.g,0,none⟩))=some ⟨b.g,0,none⟩:=by
        split <;> simp [addr_add]
       rw [this]
       simp
      ·refine .inr ⟨by omega,_,_,rfl,by omega,by omega,fun hpos=>?_⟩
       ·have hne : ¬ b.cap=l:=by omega
        rw [hob] at ho
        simp at ho
        subst ho
        exact ⟨ot,hot,by simp [hne,addr_add,hpn]⟩
     ·rw [e1]
      obtain ⟨r1,r2,r3⟩:=run_sliceV (P:=P) he1 he2 h ds h1 h2 (a:=a) e2 hb
      refine ⟨_,r1,_,rfl,.inl rfl,hr.1,fun o ho=>?_⟩
      simp only [hg]
      refine .inr ⟨by omega,_,_,rfl,by omega,by omega,fun hpos=>?_⟩
      obtain ⟨ot',f1,f2⟩:=e4 (by omega)
      rw [hot] at f1
      simp at f1
      subst f1
      rw [hob] at ho
      simp at ho
      subst ho
      have hne : ¬ c=l:=by omega
      refine ⟨ot,hot,?_⟩
      subst f2
      simp [hne,addr_add,hpn,Nat.add_mul]
   ·simp at hs
  ·simp at hs
 | lit v=>
  have hv:v=.slice none 0 0∧(vbounds st 0 lo hi).map (fun _=>litS (.slice none 0 0))=some s:=by
   unfold slcR at hs
   split at hs
   ·rename_i heq;simp at heq
   ·rename_i heq;simp at heq
   ·rename_i heq;simp at heq;exact ⟨heq,hs⟩
   ·simp at hs
  obtain ⟨rfl,hs2⟩:=hv
  simp only [Option.map_eq_some_iff] at hs2
  obtain ⟨⟨l,hh⟩,hb,rfl⟩:=hs2
  simp only [CRel] at hr
  rw [hr]
  obtain ⟨r1,r2,r3⟩:=run_sliceV (P:=P) he1 he2 h ds h1 h2 (a:=none) (Nat.zero_le 0) hb
  have hh0:hh=0:=by omega
  have hl0:l=0:=by omega
  subst hh0;subst hl0
  exact ⟨_,r1,_,rfl,.inl rfl,rfl⟩
 | _=>simp [slcR] at hs
end
end Go.Proofs.V

namespace Go.Proofs.V
open Go
variable {P:Program}
def fieldIs (P:Program) (t:TypeId) (f off:Nat) (g:TypeId→Bool):Bool:=
 match P.underlying t with
 | some (.struct fs)=>
  match fs[f]? with
  | some fd=>fd.offset==off&&g fd.type
  | none=>false
 | _=>false
theorem fieldIs_some {t:TypeId} {f off:Nat} {g:TypeId→Bool} (h:fieldIs P t f off g=true):∃ fs fd,P.underlying t=some (.struct fs)∧fs[f]? = some fd∧fd.offset=off∧g fd.type=true:=by
 unfold fieldIs at h
 split at h
 ·rename_i fs h1
  split at h
  ·rename_i fd h2
   simp at h
   exact ⟨fs,fd,h1,h2,h.1,h.2⟩
  ·simp at h
 ·simp at h
def sizePos (P:Program) (t:TypeId):Bool:=
 match P.info? t with
 | some i=>decide (0 < i.size)
 | none=>false
section
variable {A:Nat→Prop} {pin:List (Nat×Value)} {w w' : World} {F:Nat→Prop} {O:Nat→Option Ow} {Go:Nat→Gh} {Gv:Nat→Option Nat} {st:St} {tm:Array Value}
theorem run_fadr {t:TypeId} {f off:Nat} (ht:fieldIs P t f off (sizePos P)=true) (g o:Nat):(Instr.fieldAt t (.pointer (some ⟨g,o,none⟩)) f).run P w=.ok (.pointer (some ⟨g,o+off,none⟩)) w:=by
 obtain ⟨fs,fd,h1,h2,h3,h4⟩:=fieldIs_some ht
 unfold sizePos at h4
 split at h4
 ·rename_i i hi
  simp at h4
  unfold Instr.fieldAt
  have hne : ¬ i.size=0:=by omega
  simp [run_underlying h1,h2,Instr.sureAddr,fieldPlace,sizeOf,typeInfo,hi,hne,h3,addr_add]
 ·simp at h4
theorem sound_fadr' (h:Rel A pin w F O Go Gv st tm) (ds:List Deferred) {I:Value→Sem Value} {off:Nat} (hI:∀ g o,(I (.pointer (some ⟨g,o,none⟩))).run P w=.ok (.pointer (some ⟨g,o+off,none⟩)) w) {x:Opd} {x' : Operand} (hx:opdIs x x' = true) {c c' : C} (hc:st.cell x=some c) (hs:fadrC st off c=some c') :
  ∃ v,(I ((Act.mk tm ds).eval x')).run P w=.ok v w∧SRel w F Go Gv st v (.v false [c']):=by
 have hr:=(h.cell hx hc ds).1
 cases c with
 | rptr p cs=>
  simp only [fadrC] at hs
  split at hs
  ·rename_i hlt
   simp at hs
   subst hs
   obtain ⟨g,o,e1,e2,e3,e4⟩:=hr
   rw [e1]
   refine ⟨_,hI g o,_,rfl,.inl rfl,g,o+off,rfl,e2,by simp [e3],fun k y q hy hq=>?_⟩
   simp at hy hq
   obtain ⟨u,hu,hd⟩:=e4 _ y q hy hq
   exact ⟨u,by rw [Nat.add_assoc];exact hu,hd⟩
  ·simp at hs
 | ptr id p i j=>
  simp only [fadrC,Option.map_eq_some_iff] at hs
  obtain ⟨o,ho,rfl⟩:=hs
  obtain ⟨b,ot,e1,e2,e3⟩:=hr.2 o ho
  rw [e3]
  refine ⟨_,hI _ _,_,rfl,.inl rfl,hr.1,fun o' ho'=>?_⟩
  rw [ho] at ho'
  simp at ho'
  subst ho'
  exact ⟨b,ot,e1,e2,by rw [Nat.add_assoc]⟩
 | vptr id j=>
  simp only [fadrC,Option.map_eq_some_iff] at hs
  obtain ⟨cs,hv,rfl⟩:=hs
  obtain ⟨g,e1,e2⟩:=hr.2 cs hv
  rw [e2]
  exact ⟨_,hI _ _,_,rfl,.inl rfl,hr.1,fun cs' hcs'=>⟨g,e1,rfl⟩⟩
 | _=>simp [fadrC] at hs
theorem sound_fadr (h:Rel A pin w F O Go Gv st tm) (ds:List Deferred) {t:TypeId} {f off:Nat} (ht:fieldIs P t f off (sizePos P)=true) {x:Opd} {x' : Operand} (hx:opdIs x x' = true) {c c' : C} (hc:st.cell x=some c) (hs:fadrC st off c=some c') :
  ∃ v,(Instr.fieldAt t ((Act.mk tm ds).eval x') f).run P w=.ok v w∧SRel w F Go Gv st v (.v false [c']):=
 sound_fadr' (I:=fun v=>Instr.fieldAt t v f) h ds (fun g o=>run_fadr ht g o) hx hc hs
def arrIs (P:Program) (t:TypeId) (i:Operand) (off:Nat):Bool:=
 match P.underlying t,i with
 | some (.array len e),.const (.int .i64 k)=>decide (0≤k∧k < (len:Int))&&(match P.info? e with | some ie=>k.toNat*ie.size==off | none=>false)
 | _,_=>false
theorem run_aadr {t:TypeId} {i:Operand} {off:Nat} (ht:arrIs P t i off=true) (tm:Array Value) (ds:List Deferred) (g o:Nat):(Instr.indexAt t (.pointer (some ⟨g,o,none⟩)) ((Act.mk tm ds).eval i)).run P w=.ok (.pointer (some ⟨g,o+off,none⟩)) w:=by
 unfold arrIs at ht
 split at ht
 ·rename_i len e k h1
  split at ht
  ·rename_i ie hie
   simp at ht
   obtain ⟨⟨h2,h3⟩,rfl⟩:=ht
   have he:(Act.mk tm ds).eval (.const (.int .i64 k))=.int .i64 k:=rfl
   rw [he]
   unfold Instr.indexAt
   simp [asIntOf,run_underlying h1,Instr.sureAddr,h2,h3,sizeOf,typeInfo,hie,addr_add]
  ·simp at ht
 ·simp at ht
theorem sound_nck (h:Rel A pin w F O Go Gv st tm) (ds:List Deferred) {x:Opd} {x' : Operand} (hx:opdIs x x' = true) {c c' : C} (hc:st.cell x=some c) (hs:nckC st c=some c') :
  ((∃ a,(Act.mk tm ds).eval x'=.pointer (some a))∨∃ f vs,(Act.mk tm ds).eval x'=.func (.func f) #[] vs)∧SRel w F Go Gv st ((Act.mk tm ds).eval x') (.v false [c']):=by
 obtain ⟨hr,ho⟩:=h.cell hx hc ds
 cases c with
 | rptr p cs=>
  simp only [nckC,Option.some.injEq] at hs
  subst hs
  obtain ⟨g,o,e1,e2⟩:=hr
  exact ⟨.inl ⟨_,e1⟩,_,rfl,.inl (by rw [e1];rfl),g,o,e1,e2⟩
 | ptr id p i j=>
  simp only [nckC,Option.map_eq_some_iff] at hs
  obtain ⟨o,ho,rfl⟩:=hs
  obtain ⟨b,ot,e1,e2,e3⟩:=hr.2 o ho
  exact ⟨.inl ⟨_,e3⟩,_,rfl,.inl (by rw [e3];rfl),hr⟩
 | vptr id j=>
  simp only [nckC,Option.map_eq_some_iff] at hs
  obtain ⟨cs,hv,rfl⟩:=hs
  obtain ⟨g,e1,e2⟩:=hr.2 cs hv
  exact ⟨.inl ⟨_,e2⟩,_,rfl,.inl (by rw [e2];rfl),hr⟩
 | clo f l=>
  simp only [nckC,Option.some.injEq] at hs
  subst hs
  obtain ⟨vs,e1,e2⟩:=hr
  exact ⟨.inr ⟨_,_,e1⟩,_,rfl,.inl (by rw [e1];rfl),vs,e1,e2⟩
 | _=>simp [nckC] at hs
theorem run_gix {t e:TypeId} {n len:Nat} (ht:P.underlying t=some (.array len e)) (hn:sizeIs P e n=true) (g:Nat) (kd:IntKind) {k:Int} (hk:0≤k∧k < len) :
  (Instr.indexAt t (.pointer (some ⟨g,0,none⟩)) (.int kd k)).run P w=.ok (.pointer (some ⟨g,k.toNat*n,none⟩)) w:=by
 unfold Instr.indexAt
 simp [asIntOf,run_underlying ht,hk,run_sizeOf hn,addr_add,Instr.sureAddr]
theorem run_iadr {t e:TypeId} {n:Nat} (ht:P.underlying t=some (.slice e)) (hn:sizeIs P e n=true) (g o len cap:Nat) (kd:IntKind) {k:Int} (hk:0≤k∧k < len) :
  (Instr.indexAt t (.slice (some ⟨g,o,none⟩) len cap) (.int kd k)).run P w=.ok (.pointer (some ⟨g,o+k.toNat*n,none⟩)) w:=by
 unfold Instr.indexAt
 simp [asIntOf,run_underlying ht,hk,run_sizeOf hn,addr_add]
theorem sound_iadr (h:Rel A pin w F O Go Gv st tm) (ds:List Deferred) {t:TypeId} {n:Nat} (ht:sliceIs P t (fun e=>sizeIs P e n)=true) {x i:Opd} {x' i' : Operand} (hx:opdIs x x' = true) (hi:opdIs i i' = true) {c c' : C} {k:Int} (hc:st.cell x=some c) (hk:st.num i=some k) (hs:iadrC st k n c=some c') :
  ∃ v,(Instr.indexAt t ((Act.mk tm ds).eval x') ((Act.mk tm ds).eval i')).run P w=.ok v w∧SRel w F Go Gv st v (.v false [c']):=by
 obtain ⟨e,he1,he2⟩:=sliceIs_some ht
 have hr:=(h.cell hx hc ds).1
 obtain ⟨kd,hkd⟩:=h.num ds hi hk
 rw [hkd]
 cases c with
 | ro p es=>
  simp only [iadrC] at hs
  split at hs
  ·rename_i h0
   split at hs
   ·rename_i row hrow
    split at hs
    ·rename_i hpn
     simp at hs
     subst hs
     generalize hv:(Act.mk tm ds).eval x' = v0 at hr
     simp only [CRel] at hr
     generalize htt:T.sl es=tt at hr
     generalize hq:OT.ro p=q at hr
     cases hr with
     | sc _=>simp at hq
     | hole _=>simp at hq
     | full _=>simp at hq
     | @emp p' a cap hcap=>
      simp at htt
      subst htt
      simp at hrow
     | @sl p' g o cap es' us hF hcap hm hrows hcell hsub=>
      simp at htt hq
      subst htt
      subst hq
      have hlt:k.toNat < es.length:=(List.getElem?_eq_some_iff.1 hrow).1
      refine ⟨_,run_iadr he1 he2 g o _ _ kd ⟨h0,by omega⟩,_,rfl,.inl rfl,g,_,rfl,hF,hrows _ _ hrow,fun j y q hy hq=>?_⟩
      have hj:j < p.length:=(List.getElem?_eq_some_iff.1 hq).1
      exact ⟨us k.toNat j,by rw [←hpn];exact hcell _ _ hlt hj,hsub _ _ _ _ _ hrow hy hq⟩
    ·simp at hs
   ·simp at hs
  ·simp at hs
 | ref id q off len=>
  simp only [iadrC] at hs
  split at hs
  ·rename_i hkl
   split at hs
   ·rename_i ot hot
    simp only [Option.bind_eq_some_iff] at hot
    obtain ⟨ob,hob,hot⟩:=hot
    split at hs
    ·rename_i hpn
     simp at hs
     subst hs
     have hr2:=hr.2 ob hob
     cases hg:Go id q with
     | none=>
      simp only [hg] at hr2
      omega
     | some b=>
      simp only [hg] at hr2
      have key:∃ cap,(Act.mk tm ds).eval x'=.slice (some ⟨b.g,off*ot.length,none⟩) len cap:=by
       rcases hr2 with ⟨rfl,e1,e2⟩|⟨hoff,a,c,e1,e2,e3,e4⟩
       ·exact ⟨b.cap,by rw [e1,Nat.zero_mul]⟩
       ·obtain ⟨ot',f1,f2⟩:=e4 (by omega)
        rw [hot] at f1
        simp at f1
        subst f1
        exact ⟨c,by rw [e1,f2]⟩
      obtain ⟨cap,hx'⟩:=key
      rw [hx']
      refine ⟨_,run_iadr he1 he2 b.g _ _ _ kd hkl,_,rfl,.inl rfl,hr.1,fun o ho=>?_⟩
      rw [hob] at ho
      simp at ho
      subst ho
      exact ⟨b,ot,hg,hot,by rw [←hpn,Nat.add_mul];simp⟩
    ·simp at hs
   ·simp at hs
  ·simp at hs
 | _=>simp [iadrC] at hs
theorem sound_ext (h:Rel A pin w F O Go Gv st tm) (ds:List Deferred) {x:Opd} {x' : Operand} (hx:opdIs x x' = true) {l:List (Bool×List C)} (hc:st.get x=some (.tup l)) {i:Nat} {y:Bool×List C} (hy:l[i]? = some y) :
  ∃ v,(Instr.extract ((Act.mk tm ds).eval x') i).run P w=.ok v w∧SRel w F Go Gv st v (.v y.1 y.2):=by
 obtain ⟨vs,e1,e2,e3⟩:=h.get hx hc ds
 rw [e1]
 have hi:i < vs.size:=by rw [e2];exact (List.getElem?_eq_some_iff.1 hy).1
 refine ⟨vs[i],by simp [Instr.extract,hi],?_⟩
 exact e3 i vs[i] y (by simp [hi]) hy
theorem run_part {t:TypeId} {n off:Nat} {agg:Bool} (hn:sizeIs P t n=true) (ha:underIs P t (fun d=>isAggD d==agg)=true) (h1:agg=true∨n=1) {vs:Array Value} (hl:off+n≤vs.size) :
  (part t vs off).run P w=.ok (if agg then .agg (vs.extract off (off+n)) else vs.getD off undef) w:=by
 unfold part
 simp only [Sem.run_bind,run_isAgg ha,Result.andThen_ok]
 cases agg with
 | true=>simp [run_sizeOf hn]
 | false=>
  simp at h1
  have:off < vs.size:=by omega
  simp [this]
theorem CsRel.sub {vs:List Value} {cs:List C} (h:CsRel w F Go Gv st vs cs) (off n:Nat):CsRel w F Go Gv st ((vs.drop off).take n) ((cs.drop off).take n):=by
 refine ⟨by simp [h.1],fun k u c hu hc=>?_⟩
 rw [List.getElem?_take] at hu hc
 split at hu
 ·rw [List.getElem?_drop] at hu hc
  rename_i hk
  simp only [hk,if_true] at hc
  exact h.2 _ u c hu hc
 ·simp at hu
theorem sound_fld (h:Rel A pin w F O Go Gv st tm) (ds:List Deferred) {t:TypeId} {f off n:Nat} {agg:Bool} (ht:fieldIs P t f off (fun ft=>sizeIs P ft n&&underIs P ft (fun d=>isAggD d==agg))=true) {x:Opd} {x' : Operand} (hx:opdIs x x' = true)
  {cs:List C} (hc:(st.get x).bind SV.cells=some (true,cs)) (hl:off+n≤cs.length) (h1:agg=true∨n=1) :
  ∃ v,(Instr.field t ((Act.mk tm ds).eval x') f).run P w=.ok v w∧SRel w F Go Gv st v (.v agg ((cs.drop off).take n)):=by
 obtain ⟨fs,fd,e1,e2,e3,e4⟩:=fieldIs_some ht
 simp at e4
 simp only [Option.bind_eq_some_iff] at hc
 obtain ⟨s,hs,hsc⟩:=hc
 cases s with
 | v a cs'=>
  simp [SV.cells] at hsc
  obtain ⟨rfl,rfl⟩:=hsc
  obtain ⟨vs,g1,g2⟩:=h.get hx hs ds
  rw [g1]
  have hvl:vs.size=cs'.length:=by simpa using g2.1
  refine ⟨_,by
   unfold Instr.field
   simp only [Sem.run_bind,run_underlying e1,Result.andThen_ok,e2,asAgg,Sem.run_pure]
   rw [e3]
   exact run_part e4.1 e4.2 h1 (by omega),?_⟩
  have hsub:=g2.sub off n
  cases agg with
  | true=>
   refine ⟨_,rfl,?_⟩
   have:(vs.extract off (off+n)).toList=(vs.toList.drop off).take n:=by simp [List.take_drop]
   rw [this]
   exact hsub
  | false=>
   simp at h1
   subst h1
   have hlt:off < vs.size:=by omega
   have hlt' : off < cs'.length:=by omega
   have e5:(cs'.drop off).take 1=[cs'[off]]:=by
    apply List.ext_getElem?
    intro k
    rw [List.getElem?_take,List.getElem?_drop]
    cases k with
    | zero=>simp [hlt']
    | succ k=>simp
   have:=g2.2 off vs[off] cs'[off] (by simp [hlt]) (by simp [hlt'])
   refine ⟨_,e5,.inl ?_,?_⟩ <;> simp [hlt,this]
 | tup ss=>simp [SV.cells] at hsc
 | ifc _ _=>simp [SV.cells] at hsc
 | any=>simp [SV.cells] at hsc
end
end Go.Proofs.V

namespace Go.Proofs.V
open Go
variable {P:Program}
def placeOf (P:Program) (t:TypeId):Option (Array Value×(Nat→Option (Nat×Nat))):=
 match P.info? t,P.underlying t with
 | some it,some (.array _ e)=>
  match it.zero,P.info? e with
  | some z,some ie=>some (z.cells,fun i=>some (i*ie.size,ie.size))
  | _,_=>none
 | some it,some (.struct fields)=>
  match it.zero,fields.toList.mapM (fun f=>(P.info? f.type).map fun i=>(f.offset,i.size)) with
  | some z,some places=>some (z.cells,(places.toArray[·]?))
  | _,_=>none
 | _,_=>none
theorem built_eq (t:TypeId) (parts:List (Nat×Value)):P.built t parts=(placeOf P t).bind fun x=>Instr.fill x.2 x.1 parts:=by
 unfold Program.built placeOf
 split
 ·split <;> simp_all
 ·split <;> simp_all
 ·simp_all
def bldParts (pl:Nat→Option (Nat×Nat)) (N:Nat):List (Nat×Operand)→List (Nat×Nat×Opd)→Bool
 | [],[]=>true
 | (i,y)::ys,(off,n,x)::xs=>
  (match pl i with
   | some (o,m)=>o==off&&m==n
   | none=>false)&&decide (off+n≤N)&&opdIs x y&&bldParts pl N ys xs
 | _,_=>false
def bldIs (P:Program) (t:TypeId) (is:List Ini) (ys:List (Nat×Operand)) (xs:List (Nat×Nat×Opd)):Bool:=
 match placeOf P t with
 | some (z,pl)=>litsEq (is.map iniV) z.toList&&bldParts pl z.size ys xs
 | none=>false
def zeroIs (P:Program) (t:TypeId) (is:List Ini):Bool:=
 match P.info? t with
 | some i=>
  match i.zero with
  | some z=>litsEq (is.map iniV) z.cells.toList
  | none=>false
 | none=>false
theorem overC_get:∀ (cs old:List C) (j k:Nat),(overC old j cs)[k]? = if j≤k∧k < j+cs.length∧k < old.length then cs[k - j]? else old[k]?
 | [],old,j,k=>by
  have : ¬ (j≤k∧k < j+([]:List C).length∧k < old.length):=by simp;omega
  simp only [this,if_false,overC]
 | c::cs,old,j,k=>by
  simp only [overC,overC_get cs (old.set j c) (j+1) k,List.length_set,List.length_cons,List.getElem?_set]
  by_cases h0:k=j
  ·subst h0
   by_cases hl:k < old.length
   ·have h1 : ¬ (k+1≤k∧k < k+1+cs.length∧k < old.length):=by omega
    have h2:k≤k∧k < k+(cs.length+1)∧k < old.length:=by omega
    rw [if_neg h1,if_pos h2]
    simp [hl]
   ·have h1 : ¬ (k+1≤k∧k < k+1+cs.length∧k < old.length):=by omega
    have h2 : ¬ (k≤k∧k < k+(cs.length+1)∧k < old.length):=by omega
    rw [if_neg h1,if_neg h2]
    simp [hl]
  ·have hj : ¬ j=k:=fun e=>h0 e.symm
   by_cases h1:j+1≤k∧k < j+1+cs.length∧k < old.length
   ·have h2:j≤k∧k < j+(cs.length+1)∧k < old.length:=by omega
    rw [if_pos h1,if_pos h2]
    have:k - j=(k - (j+1))+1:=by omega
    rw [this]
    simp
   ·have h2 : ¬ (j≤k∧k < j+(cs.length+1)∧k < old.length):=by omega
    rw [if_neg h1,if_neg h2]
    simp [hj]
section
variable {A:Nat→Prop} {pin:List (Nat×Value)} {w w' : World} {F:Nat→Prop} {O:Nat→Option Ow} {Go:Nat→Gh} {Gv:Nat→Option Nat} {st:St} {tm:Array Value}
theorem CsRel.over {cells:Array Value} {cs:List C} (h:CsRel w F Go Gv st cells.toList cs) {v:Value} {n:List C} (hv:CsRel w F Go Gv st v.cells.toList n) (off:Nat) :
  CsRel w F Go Gv st (v.cells.zipIdx.foldl (fun cs x=>cs.setIfInBounds (off+x.2) x.1) cells).toList (overC cs off n):=by
 obtain ⟨h1,h2⟩:=foldSetA off v.cells cells
 have hs:cells.size=cs.length:=by simpa using h.1
 have hn:v.cells.size=n.length:=by simpa using hv.1
 refine ⟨by rw [Array.length_toList,overC_length];exact h1.trans hs,fun k u c hu hc=>?_⟩
 have hu' : (v.cells.zipIdx.foldl (fun cs x=>cs.setIfInBounds (off+x.2) x.1) cells)[k]? = some u:=by simpa using hu
 rw [h2] at hu'
 rw [overC_get] at hc
 by_cases hk:off≤k∧k < off+n.length∧k < cs.length
 ·have hk' : off≤k∧k < off+v.cells.size∧k < cells.size:=by omega
  rw [if_pos hk'] at hu'
  rw [if_pos hk] at hc
  exact hv.2 _ u c (by simpa using hu') hc
 ·have hk' : ¬ (off≤k∧k < off+v.cells.size∧k < cells.size):=by omega
  rw [if_neg hk'] at hu'
  rw [if_neg hk] at hc
  exact h.2 _ u c (by simpa using hu') hc
theorem fill_bld (h:Rel A pin w F O Go Gv st tm) (ds:List Deferred) {w1:World} {F1:Nat→Prop} {Go1:Nat→Gh} {Gv1:Nat→Option Nat} {st1:St} (hext:Ext w w1 F F1 Go Go1 Gv Gv1 st st1) {pl:Nat→Option (Nat×Nat)} : ∀ (ys:List (Nat×Operand)) (xs:List (Nat×Nat×Opd)) {l:List (Nat×List C)} {cells:Array Value} {cs:List C},
  bldParts pl cells.size ys xs=true→cellsAll st xs=some l→CsRel w1 F1 Go1 Gv1 st1 cells.toList cs→
  ∃ cells',Instr.fill pl cells (ys.map fun y=>(y.1,(Act.mk tm ds).eval y.2))=some cells'∧CsRel w1 F1 Go1 Gv1 st1 cells'.toList (bldC cs l)
 | [],[],l,cells,cs,_,hl,hc=>by
  simp [cellsAll] at hl
  subst hl
  exact ⟨cells,rfl,hc⟩
 | [],_::_,_,_,_,hb,_,_ | _::_,[],_,_,_,hb,_,_=>by simp [bldParts] at hb
 | (i,y)::ys,(off,n,x)::xs,l,cells,cs,hb,hl,hc=>by
  simp only [bldParts,Bool.and_eq_true,decide_eq_true_eq] at hb
  obtain ⟨⟨⟨hb1,hb2⟩,hb3⟩,hb4⟩:=hb
  split at hb1
  ·rename_i o m hpl
   simp at hb1
   obtain ⟨rfl,rfl⟩:=hb1
   simp only [cellsAll] at hl
   split at hl
   ·rename_i a1 a l' e1 e2
    split at hl
    ·rename_i hcond
     simp at hl
     subst hl
     obtain ⟨s,hs,hsc⟩:=Option.bind_eq_some_iff.1 e1
     have hv:=cells_of_slot (h.get hb3 hs ds) hsc (not_undef_of_sto hcond.2)
     have hvs:((Act.mk tm ds).eval y).cells.size=m:=by
      have:=hv.1
      simp at this
      rw [this]
      exact hcond.1
     have hc1:=CsRel.over hc (hv.ext hext) o
     obtain ⟨cells',f1,f2⟩:=fill_bld h ds hext ys xs (cells:=((Act.mk tm ds).eval y).cells.zipIdx.foldl (fun cs x=>cs.setIfInBounds (o+x.2) x.1) cells) (by rw [(foldSetA o _ cells).1];exact hb4) e2 hc1
     refine ⟨cells',?_,f2⟩
     rw [List.map_cons,fill_cons hpl hvs hb2]
     exact f1
    ·simp at hl
   ·simp at hl
  ·simp at hb1
theorem sound_bld (h:Rel A pin w F O Go Gv st tm) (ds:List Deferred) {t:TypeId} {is:List Ini} {ys:Array (Nat×Operand)} {xs:List (Nat×Nat×Opd)} (hb:bldIs P t is ys.toList xs=true) (hi:is.all iniOk=true) {l:List (Nat×List C)} (hl:cellsAll st xs=some l) {d:Nat} (hd:∀ x,(d,x) ∉ pin) :
  ∃ v,(Instr.build t (ys.map fun (i,x)=>(i,(Act.mk tm ds).eval x))).run P w=.ok v w∧
   Good A pin w F ({ st with objs:=(iniC st.objs is).2 }.set d (.v true (bldC (iniC st.objs is).1 l))) (tm.setIfInBounds d v) w:=by
 unfold bldIs at hb
 split at hb
 ·rename_i z pl hpl
  simp at hb
  obtain ⟨O',Go',h1,h2,h3⟩:=h.iniC is hi
  have hz:=litsEq_eq hb.1
  rw [hz] at h3
  obtain ⟨cells,f1,f2⟩:=fill_bld h ds h2 ys.toList xs hb.2 hl h3
  have hrun:=run_build (P:=P) w t (ys.map fun (i,x)=>(i,(Act.mk tm ds).eval x)) cells (by
   rw [built_eq,hpl]
   simpa using f1)
  exact ⟨_,hrun,Good.same (h1.put ⟨cells,rfl,f2⟩ hd)⟩
 ·simp at hb
theorem newVar_good (h:Rel A pin w F O Go Gv st tm) {vs:Array Value} {cs:List C} (e:TypeId) (hcs:CsRel w F Go Gv st vs.toList cs) {d:Nat} (hd:∀ x,(d,x) ∉ pin) :
  Good A pin w F (st.pushV d cs) (tm.setIfInBounds d (.pointer (some ⟨w.heap.size,0,none⟩))) (w.alloc (.cells vs e)):=by
 obtain ⟨O',Gv',h1,h2⟩:=h.pushVar e hcs
 exact ⟨F,O',Go,Gv',h1.put (d:=d) (s:=.v false [.vptr st.vars.length 0]) ⟨_,rfl,.inl rfl,h2⟩ hd,Step.alloc A w _,fun _ h=>h,fun _ h=>.inl h⟩
theorem sound_box (h:Rel A pin w F O Go Gv st tm) (ds:List Deferred) {e:TypeId} {y:Opd} {y' : Operand} (hy:opdIs y y' = true) {a:Bool} {cs:List C} (hc:(st.get y).bind SV.cells=some (a,cs)) (hsto:cs.all C.sto=true) {d:Nat} (hd:∀ x,(d,x) ∉ pin) :
  ∃ v w',(Instr.box e ((Act.mk tm ds).eval y')).run P w=.ok v w'∧Good A pin w F (st.pushV d cs) (tm.setIfInBounds d v) w':=by
 obtain ⟨s,hs,hsc⟩:=Option.bind_eq_some_iff.1 hc
 have hv:=cells_of_slot (h.get hy hs ds) hsc (not_undef_of_sto hsto)
 refine ⟨_,_,?_,newVar_good h e hv hd⟩
 simp [Instr.box,newVar,newRow]
theorem sound_alloc (h:Rel A pin w F O Go Gv st tm) {e:TypeId} {is:List Ini} (hz:zeroIs P e is=true) (hi:is.all iniOk=true) {d:Nat} (hd:∀ x,(d,x) ∉ pin) :
  ∃ v w',(Instr.alloc e true (.tuple #[])).run P w=.ok v w'∧Good A pin w F ({ st with objs:=(iniC st.objs is).2 }.pushV d (iniC st.objs is).1) (tm.setIfInBounds d v) w':=by
 unfold zeroIs at hz
 split at hz
 ·rename_i i hi'
  split at hz
  ·rename_i z hz'
   obtain ⟨O',Go',h1,h2,h3⟩:=h.iniC is hi
   rw [litsEq_eq hz] at h3
   have hg:=newVar_good h1 e h3 hd
   refine ⟨_,_,?_,hg⟩
   simp [Instr.alloc,zeroValue,typeInfo,hi',hz',newVar,newRow]
  ·simp at hz
 ·simp at hz
theorem Rel.alk (h:Rel A pin w F O Go Gv st tm) {vs:Array Value} {cs:List C} (e:TypeId) {id:Nat} (hid:st.vars[id]? = some none) (hl:vs.size=cs.length) (hcs:∀ (k:Nat) (u:Value) (c:C),vs[k]? = some u→cs[k]? = some c→c=.lit u∧u.oneCell' = true) :
  ∃ O' Gv',Rel A pin (w.alloc (.cells vs e)) F O' Go Gv' ⟨st.slots.map (SV.map (deadV id)),st.objs,(st.vars.map (Option.map (List.map (deadV id)))).set id (some cs)⟩ tm∧
   VRel ⟨st.slots.map (SV.map (deadV id)),st.objs,(st.vars.map (Option.map (List.map (deadV id)))).set id (some cs)⟩ Gv' id 0 (.pointer (some ⟨w.heap.size,0,none⟩)):=by
 obtain ⟨hg,hFg,hA⟩:=h.free (Nat.le_refl _)
 have h:=h.alloc (.cells vs e)
 have hidl:id < st.vars.length:=(List.getElem?_eq_some_iff.1 hid).1
 generalize hst' : (⟨st.slots.map (SV.map (deadV id)),st.objs,(st.vars.map (Option.map (List.map (deadV id)))).set id (some cs)⟩:St)=st'
 have hvid:st'.var id=some cs:=by
  subst hst'
  simp only [var_eq,List.getElem?_set]
  simp [hidl]
 have hvne:∀ i,i≠id→st'.var i=(st.var i).map (List.map (deadV id)):=by
  intro i hi
  subst hst'
  simp only [var_eq]
  rw [List.getElem?_set_ne (Ne.symm hi),List.getElem?_map]
  cases st.vars[i]? with
  | none=>rfl
  | some y=>cases y <;> rfl
 have hvl:st'.vars.length=st.vars.length:=by subst hst';simp
 have hob:∀ i,st'.obj i=st.obj i:=by intro i;subst hst';rfl
 have hol:st'.objs.length=st.objs.length:=by subst hst';rfl
 have hV:∀ i j v,i≠id→VRel st Gv i j v→VRel st' (newGv Gv id w.heap.size) i j v:=by
  intro i j v hi hv
  refine ⟨by rw [hvl];exact hv.1,fun cs' hc=>?_⟩
  rw [hvne i hi] at hc
  obtain ⟨cs0,h1,_⟩:=Option.map_eq_some_iff.1 hc
  obtain ⟨g,h2,h3⟩:=hv.2 cs0 h1
  exact ⟨g,by simp [newGv,hi,h2],h3⟩
 have hC:∀ v c,CRel (w.alloc (.cells vs e)) F Go Gv st v c→CRel (w.alloc (.cells vs e)) F Go (newGv Gv id w.heap.size) st' v (deadV id c):=by
  intro v c hc
  cases c with
  | lit x=>exact hc
  | ro p es=>exact hc
  | ref i p off len=>
   simp only [deadV,CRel] at hc ⊢
   rw [hol,hob i]
   exact hc
  | ptr i p a b=>
   simp only [deadV,CRel] at hc ⊢
   rw [hol,hob i]
   exact hc
  | rptr p es=>exact hc
  | vptr i j=>
   simp only [deadV]
   split
   ·trivial
   ·rename_i hi
    exact hV i j v hi hc
  | clo f cap=>
   simp only [deadV]
   split
   ·trivial
   ·rename_i hi
    obtain ⟨vs',h1,h2,h3⟩:=hc
    refine ⟨vs',h1,h2,fun k u i h4 h5=>hV i 0 u ?_ (h3 k u i h4 h5)⟩
    intro e
    subst e
    exact hi (by simpa using List.mem_of_getElem? h5)
  | dead=>trivial
 have hne:∀ b x,O b=some x→b≠w.heap.size:=fun b x hx e=>by rw [e,hg] at hx;simp at hx
 refine ⟨newOV O id w.heap.size,newGv Gv id w.heap.size,⟨?_,?_,?_,?_,?_,?_,?_,?_,?_,?_,h.fS,h.aN,h.pinned⟩,?_⟩
 ·subst hst';simp [h.size]
 ·intro k v s h1 h2
  have:st'.slots=st.slots.map (SV.map (deadV id)):=by subst hst';rfl
  rw [this,List.getElem?_map] at h2
  obtain ⟨s0,h3,rfl⟩:=Option.map_eq_some_iff.1 h2
  exact SRel.map hC rfl (h.slots k v s0 h1 h3)
 ·intro i o ho
  rw [hob] at ho
  exact h.objs i o ho
 ·intro i p b hb
  obtain ⟨o,ho⟩:=h.objN i p b hb
  exact ⟨o,by rw [hob];exact ho⟩
 ·intro i cs' hcs'
  by_cases hi:i=id
  ·subst hi
   rw [hvid] at hcs'
   obtain rfl:=Option.some.inj hcs'
   refine ⟨w.heap.size,by simp [newGv],fun k c hk=>?_⟩
   have hk' : k < vs.size:=by rw [hl];exact (List.getElem?_eq_some_iff.1 hk).1
   obtain ⟨rfl,h1⟩:=hcs k vs[k] c (by simp [hk']) hk
   exact ⟨vs[k],(cell_alloc_new w vs e k).trans (by simp [hk']),frozen_alloc_new w vs e k,h1,rfl⟩
  ·rw [hvne i hi] at hcs'
   obtain ⟨cs0,h1,rfl⟩:=Option.map_eq_some_iff.1 hcs'
   obtain ⟨g,h2,h3⟩:=h.vars i cs0 h1
   refine ⟨g,by simp [newGv,hi,h2],fun k c hk=>?_⟩
   rw [List.getElem?_map] at hk
   obtain ⟨c0,hk0,rfl⟩:=Option.map_eq_some_iff.1 hk
   obtain ⟨u,a1,a2,a3,a4⟩:=h3 k c0 hk0
   exact ⟨u,a1,a2,a3,hC _ _ a4⟩
 ·intro i g hg'
  simp only [newGv] at hg'
  by_cases hi:i=id
  ·subst hi;exact ⟨cs,hvid⟩
  ·simp only [hi,if_false] at hg'
   obtain ⟨cs0,h1⟩:=h.varN i g hg'
   exact ⟨_,by rw [hvne i hi,h1];rfl⟩
 ·intro i p b hb
  have:=h.oO i p b hb
  simp [newOV,hne _ _ this,this]
 ·intro i g' hg'
  simp only [newGv] at hg'
  by_cases hi:i=id
  ·simp only [hi,if_true] at hg' ⊢
   simp at hg'
   simp [newOV,hg']
  ·simp only [hi,if_false] at hg'
   have:=h.oV i g' hg'
   simp [newOV,hne _ _ this,this]
 ·intro b hb
  have:b≠w.heap.size:=fun e=>hFg (e ▸ hb)
  simp [newOV,this,h.oF b hb]
 ·intro b x hx
  simp only [newOV] at hx
  by_cases hb:b=w.heap.size
  ·subst hb;exact ⟨hA,by simp⟩
  ·simp only [hb,if_false] at hx;exact h.oA b x hx
 ·refine ⟨by rw [hvl];exact hidl,fun cs' hc=>⟨w.heap.size,by simp [newGv],rfl⟩⟩
theorem sound_alk (h:Rel A pin w F O Go Gv st tm) {e:TypeId} {is:List Ini} (hz:zeroIs P e is=true) (hi:is.all Ini.con=true) {id:Nat} (hid:st.vars[id]? = some none) {d:Nat} (hd:∀ x,(d,x) ∉ pin) :
  ∃ v w',(Instr.alloc e true (.tuple #[])).run P w=.ok v w'∧Good A pin w F ⟨(st.slots.map (SV.map (deadV id))).set d (.v false [.vptr id 0]),st.objs,(st.vars.map (Option.map (List.map (deadV id)))).set id (some (is.map fun i=>.lit i.val))⟩ (tm.setIfInBounds d v) w':=by
 unfold zeroIs at hz
 split at hz
 ·rename_i i hi'
  split at hz
  ·rename_i z hz'
   have hval:is.map iniV=is.map Ini.val:=by
    apply List.map_congr_left
    intro x _
    cases x <;> rfl
   have hzc:=litsEq_eq hz
   rw [hval] at hzc
   have hsz:z.cells.size=(is.map fun i=>C.lit i.val).length:=by
    have:=congrArg List.length hzc
    simpa using this.symm
   obtain ⟨O',Gv',h1,h2⟩:=h.alk (vs:=z.cells) (cs:=is.map fun i=>C.lit i.val) e hid hsz (fun k u c hu hc=>by
    rw [List.getElem?_map] at hc
    obtain ⟨x,hx,rfl⟩:=Option.map_eq_some_iff.1 hc
    have hu' : z.cells.toList[k]? = some u:=by simpa using hu
    rw [←hzc,List.getElem?_map,hx] at hu'
    obtain rfl:=Option.some.inj hu'
    refine ⟨rfl,?_⟩
    have:=(List.all_eq_true.1 hi) x (List.mem_of_getElem? hx)
    cases x with
    | k v=>simp only [Ini.con] at this;simp only [Ini.val];cases v <;> simp_all [isLit,Value.oneCell']
    | o p=>simp [Ini.con] at this)
   refine ⟨_,_,?_,F,O',Go,Gv',h1.put (d:=d) (s:=.v false [.vptr id 0]) ⟨_,rfl,.inl rfl,h2⟩ hd,Step.alloc A w _,fun _ h=>h,fun _ h=>.inl h⟩
   simp [Instr.alloc,zeroValue,typeInfo,hi',hz',newVar,newRow]
  ·simp at hz
 ·simp at hz
theorem run_eqn {t e:TypeId} (ht:P.underlying t=some (.slice e)) (op:BinOp) (neg:Bool) (hop:op=if neg then .neq else .eql) (x y:Operand) (a:Option Addr) (n c:Nat) :
  (do eqGuard op t x y (.slice a n c) (.slice none 0 0);binOp op t (.slice a n c) (.slice none 0 0):Sem Value).run P w=.ok (.bool (a.isNone != neg)) w:=by
 have hg:(eqGuard op t x y (.slice a n c) (.slice none 0 0)).run P w=.ok () w:=by subst hop;cases neg <;> rfl
 rw [Sem.run_bind,hg,Result.andThen_ok]
 subst hop
 have he:=run_equal_slice_nil w t e a n c ht
 cases neg
 ·simp only [binOp]
  simp [he]
 ·simp only [binOp]
  simp [he]
theorem sound_eqn (h:Rel A pin w F O Go Gv st tm) (ds:List Deferred) {x:Opd} {x' : Operand} (hx:opdIs x x' = true) {b:Bool} (hc:(st.cell x).bind (nilC st)=some b):∃ a n c,(Act.mk tm ds).eval x'=.slice a n c∧a.isNone=b:=by
 obtain ⟨c,hc,hb⟩:=Option.bind_eq_some_iff.1 hc
 have hr:=(h.cell hx hc ds).1
 unfold nilC at hb
 split at hb
 ·simp at hb
  subst hb
  exact ⟨_,_,_,hr,rfl⟩
 ·rename_i p es
  split at hb
  ·simp at hb
  ·rename_i hne
   simp at hb
   subst hb
   simp only [CRel] at hr
   generalize hv:(Act.mk tm ds).eval x' = v0 at hr
   generalize htt:T.sl es=tt at hr
   generalize hq:OT.ro p=q at hr
   cases hr with
   | sc _=>simp at hq
   | hole _=>simp at hq
   | full _=>simp at hq
   | emp _=>simp at htt;subst htt;simp at hne
   | sl us _ _ _ _ _ _=>exact ⟨_,_,_,rfl,rfl⟩
 ·rename_i id p off len
  split at hb
  ·simp at hb
  ·rename_i hne
   simp only [Option.map_eq_some_iff] at hb
   obtain ⟨o,ho,rfl⟩:=hb
   have hr2:=hr.2 o ho
   cases hg:Go id p with
   | none=>
    simp only [hg] at hr2
    omega
   | some bk=>
    simp only [hg] at hr2
    rcases hr2 with ⟨rfl,e1,e2⟩|⟨hoff,a,c,e1,e2,e3,e4⟩
    ·exact ⟨_,_,_,e1,rfl⟩
    ·obtain ⟨ot',f1,f2⟩:=e4 (by omega)
     exact ⟨_,_,_,e1,by rw [f2];rfl⟩
 ·simp at hb
theorem run_beq {t:TypeId} (ht:underIs P t (fun d=>d matches .bool)=true) (op:BinOp) (neg:Bool) (hop:op=if neg then .neq else .eql) (x y:Operand) (a b:Bool) :
  (do eqGuard op t x y (.bool a) (.bool b);binOp op t (.bool a) (.bool b):Sem Value).run P w=.ok (.bool (if neg then !(a==b) else a==b)) w:=by
 obtain ⟨d,h1,h2⟩:=underIs_some ht
 cases d <;> simp at h2
 have hg:(eqGuard op t x y (.bool a) (.bool b)).run P w=.ok () w:=by subst hop;cases neg <;> rfl
 rw [Sem.run_bind,hg,Result.andThen_ok]
 subst hop
 cases neg
 ·simp [run_eql_bool w t a b h1]
 ·simp [run_neq_bool w t a b h1]
theorem run_mx (ts:Array TypeId) (t:TypeId) {a b r:Value} (h:vmax a b=some r):(Builtin.max_ ts t #[a,b]).run P w=.ok r w:=by
 unfold vmax at h
 split at h
 ·simp at h;subst h;exact run_max_int2 w ts t _ _ _ _
 ·simp at h
theorem run_mn (ts:Array TypeId) (t:TypeId) {a b r:Value} (h:vmin a b=some r):(Builtin.min_ ts t #[a,b]).run P w=.ok r w:=by
 unfold vmin at h
 split at h
 ·simp at h;subst h;exact run_min_int2 w ts t _ _ _ _
 ·simp at h
theorem capsOf_rel (h:Rel A pin w F O Go Gv st tm) (ds:List Deferred):∀ {xs:List Opd} {ys:List Operand} {l:List Nat},capsOf st xs=some l→opdsAre xs ys=true→
  ys.length=l.length∧∀ (k:Nat) (y:Operand) (id:Nat),ys[k]? = some y→l[k]? = some id→VRel st Gv id 0 ((Act.mk tm ds).eval y)
 | [],[],l,hl,_=>by simp [capsOf] at hl;subst hl;exact ⟨rfl,by simp⟩
 | [],_::_,_,_,ho | _::_,[],_,_,ho=>by simp [opdsAre] at ho
 | x::xs,y::ys,l,hl,ho=>by
  simp [opdsAre] at ho
  simp only [capsOf] at hl
  split at hl
  ·rename_i id r e1 e2
   simp at hl
   subst hl
   obtain ⟨h1,h2⟩:=capsOf_rel h ds e2 ho.2
   refine ⟨by simp [h1],fun k y' id' hy hid=>?_⟩
   cases k with
   | zero=>simp at hy hid;subst hy;subst hid;exact (h.cell ho.1 e1 ds).1
   | succ k=>exact h2 k y' id' (by simpa using hy) (by simpa using hid)
  ·simp at hl
theorem sound_mkf (h:Rel A pin w F O Go Gv st tm) (ds:List Deferred) {f:FuncId} {xs:List Opd} {ys:Array Operand} {l:List Nat} (hl:capsOf st xs=some l) (ho:opdsAre xs ys.toList=true) :
  SRel w F Go Gv st (.func (.func f) #[] (ys.map (Act.mk tm ds).eval)) (.v false [.clo f l]):=by
 obtain ⟨h1,h2⟩:=capsOf_rel h ds hl ho
 refine ⟨_,rfl,.inl rfl,_,rfl,by simpa using h1,fun k u id hu hid=>?_⟩
 simp only [Array.getElem?_map,Option.map_eq_some_iff] at hu
 obtain ⟨y,hy,rfl⟩:=hu
 exact h2 k y id (by simpa using hy) hid
end
end Go.Proofs.V

namespace Go.Proofs.V
open Go
section
variable {A:Nat→Prop} {pin:List (Nat×Value)} {w w' : World} {F F' : Nat→Prop} {O:Nat→Option Ow} {Go:Nat→Gh} {Gv:Nat→Option Nat} {st:St} {tm:Array Value}
theorem ref_one {st:St} {id off len:Nat} {p:Pth} {v:Value} {o:Ob} (ho:st.obj id=some o) (h:CRel w F Go Gv st v (.ref id p off len)):v.oneCell' = true:=by
 have hr:=h.2 o ho
 cases hg:Go id p with
 | none=>simp only [hg] at hr;rw [hr.1];rfl
 | some b=>
  simp only [hg] at hr
  rcases hr with ⟨_,e,_⟩|⟨_,a,c,e,_⟩ <;> (rw [e];rfl)
def frzO (O:Nat→Option Ow) (i:Nat) (b:Nat):Option Ow:=
 match O b with
 | some (.obj id p)=>if id=i then none else some (.obj id p)
 | x=>x
def frzG (Go:Nat→Gh) (i:Nat):Nat→Gh:=fun id=>if id=i then fun _=>none else Go id
def frzF (F:Nat→Prop) (Go:Nat→Gh) (i:Nat) (b:Nat):Prop:=F b∨∃ p bk,Go i p=some bk∧bk.g=b
def frzS (st:St) (i:Nat) (o:Ob):St:={ st.mapC (frzC i o) with objs:=st.objs.set i none }
theorem frzS_obj {st:St} {i:Nat} {o:Ob} (id:Nat):(frzS st i o).obj id=if id=i then none else st.obj id:=by
 simp only [obj_eq,frzS,List.getElem?_set]
 by_cases h:i=id
 ·subst h
  simp
 ·have : ¬ id=i:=fun e=>h e.symm
  simp [h,this]
theorem frzS_var {st:St} {i:Nat} {o:Ob} (id:Nat):(frzS st i o).var id=(st.var id).map (List.map (frzC i o)):=mapC_var st _ id
theorem CRel.frz (h:Rel A pin w F O Go Gv st tm) {i:Nat} {o:Ob} (ho:st.obj i=some o) {v:Value} {c:C} (hc:CRel w F Go Gv st v c):CRel w (frzF F Go i) (frzG Go i) Gv (frzS st i o) v (frzC i o c):=by
 have hF:∀ b,F b→frzF F Go i b:=fun b hb=>.inl hb
 have hsl:(frzS st i o).objs.length=st.objs.length:=by simp [frzS]
 have hvl:(frzS st i o).vars.length=st.vars.length:=by simp [frzS,St.mapC]
 have hV:∀ {id j v},VRel st Gv id j v→VRel (frzS st i o) Gv id j v:=by
  intro id j v hv
  refine ⟨by rw [hvl];exact hv.1,fun cs hcs=>?_⟩
  rw [frzS_var,Option.map_eq_some_iff] at hcs
  obtain ⟨cs',h1,_⟩:=hcs
  exact hv.2 cs' h1
 cases c with
 | lit x=>exact hc
 | ro p es=>exact hc.keep (fun b _=>Same.refl w b) hF
 | ref id p off len=>
  simp only [frzC]
  split
  ·rename_i hid
   subst hid
   split
   ·rename_i ot es hsub
    split
    ·rename_i hle
     have hl:lendT st (.ro (OT.lends ot)) (.ref id p off len)=some (.sl ((es.drop off).take len),[id]):=by
      simp [V.lendT,ho,hsub,hle.1,hle.2]
     exact (h.lendT hl hc hF (fun id' hid' p b hb=>by simp at hid';subst hid';exact .inr ⟨p,b,hb,rfl⟩) (ref_one ho hc)).1
    ·trivial
   ·trivial
  ·rename_i hid
   refine ⟨by rw [hsl];exact hc.1,fun o' ho'=>?_⟩
   rw [frzS_obj] at ho'
   simp only [hid,if_false] at ho'
   simp only [frzG,hid,if_false]
   exact hc.2 o' ho'
 | ptr id p a b=>
  refine ⟨by rw [hsl];exact hc.1,fun o' ho'=>?_⟩
  rw [frzS_obj] at ho'
  by_cases hid:id=i
  ·simp [hid] at ho'
  ·simp only [hid,if_false] at ho'
   simp only [frzG,hid,if_false]
   exact hc.2 o' ho'
 | rptr p cs=>
  obtain ⟨g,off,e1,e2,e3,e4⟩:=hc
  refine ⟨g,off,e1,hF _ e2,e3,fun k x q h1 h2=>?_⟩
  obtain ⟨u,hu,hr⟩:=e4 k x q h1 h2
  exact ⟨u,hu,hr.keep (fun b _=>Same.refl w b) hF⟩
 | vptr id j=>exact hV hc
 | clo f cap=>
  obtain ⟨vs,e1,e2,e3⟩:=hc
  exact ⟨vs,e1,e2,fun k u id h1 h2=>hV (e3 k u id h1 h2)⟩
 | dead=>trivial
theorem Rel.frz (h:Rel A pin w F O Go Gv st tm) {i:Nat} {o:Ob} (ho:st.obj i=some o):Rel A pin w (frzF F Go i) (frzO O i) (frzG Go i) Gv (frzS st i o) tm where
 size:=by simp [frzS,St.mapC,h.size]
 slots:=by
  intro k v s h1 h2
  simp only [frzS,St.mapC,List.getElem?_map,Option.map_eq_some_iff] at h2
  obtain ⟨s',h3,rfl⟩:=h2
  exact SRel.map (fun v c hc=>CRel.frz h ho hc) rfl (h.slots k v s' h1 h3)
 objs:=by
  intro id ob hob
  rw [frzS_obj] at hob
  split at hob
  ·simp at hob
  ·rename_i hid
   obtain ⟨v,hv⟩:=h.objs id ob hob
   refine ⟨v,hv.keep (fun b _=>Same.refl w b) (fun b hb=>.inl hb) (fun r=>by simp [frzG,hid]) (fun _ _ _=>Same.refl w _)⟩
 objN:=by
  intro id p b hb
  simp only [frzG] at hb
  split at hb
  ·simp at hb
  ·rename_i hid
   obtain ⟨o',ho'⟩:=h.objN id p b hb
   exact ⟨o',by rw [frzS_obj];simp [hid,ho']⟩
 vars:=by
  intro id cs hcs
  rw [frzS_var,Option.map_eq_some_iff] at hcs
  obtain ⟨cs',h1,rfl⟩:=hcs
  obtain ⟨g,hg,hk⟩:=h.vars id cs' h1
  refine ⟨g,hg,fun k c hc=>?_⟩
  simp only [List.getElem?_map,Option.map_eq_some_iff] at hc
  obtain ⟨c',h2,rfl⟩:=hc
  obtain ⟨u,a1,a2,a3,a4⟩:=hk k c' h2
  exact ⟨u,a1,a2,a3,CRel.frz h ho a4⟩
 varN:=by
  intro id g hg
  obtain ⟨cs,hcs⟩:=h.varN id g hg
  exact ⟨_,by rw [frzS_var,hcs];rfl⟩
 oO:=by
  intro id p b hb
  simp only [frzG] at hb
  split at hb
  ·simp at hb
  ·rename_i hid
   simp only [frzO,h.oO id p b hb,hid,if_false]
 oV:=by
  intro id g hg
  simp only [frzO,h.oV id g hg]
 oF:=by
  intro b hb
  rcases hb with hb | ⟨p,bk,h1,rfl⟩
  ·simp only [frzO,h.oF b hb]
  ·simp only [frzO,h.oO i p bk h1,if_true]
 oA:=by
  intro b x hx
  simp only [frzO] at hx
  split at hx
  ·rename_i id p hO
   exact h.oA b _ hO
  ·exact h.oA b _ hx
 fS:=by
  intro b hb
  rcases hb with hb | ⟨p,bk,h1,rfl⟩
  ·exact h.fS b hb
  ·exact (h.oA _ _ (h.oO i p bk h1)).2
 aN:=h.aN
 pinned:=h.pinned
theorem freeze_good (h:Rel A pin w F O Go Gv st tm) {k j:Nat} {st' : St} (hf:st.freeze k j=some st'):Good A pin w F st' tm w:=by
 unfold St.freeze at hf
 split at hf
 ·split at hf
  ·split at hf
   ·rename_i id _ _ _ _ o ho
    simp at hf
    subst hf
    refine ⟨_,_,_,_,h.frz ho,Step.refl A w,fun b hb=>.inl hb,fun b hb=>?_⟩
    rcases hb with hb | ⟨p,bk,h1,rfl⟩
    ·exact .inl hb
    ·exact .inr (h.oA _ _ (h.oO _ p bk h1)).1
   ·simp at hf
  ·simp at hf
 ·simp at hf
def isC (c:Nat):Pth→Bool
 | (_,j)::_=>j==c
 | []=>false
def fzF (F:Nat→Prop) (Go:Nat→Gh) (i c b:Nat):Prop:=F b∨∃ p bk,Go i p=some bk∧isC c p=true∧bk.g=b
def fzG (Go:Nat→Gh) (i c:Nat):Nat→Gh:=fun id=>if id=i then fun p=>if isC c p then none else Go i p else Go id
def fzO (O:Nat→Option Ow) (i c:Nat) (b:Nat):Option Ow:=
 match O b with
 | some (.obj id p)=>if id=i∧isC c p=true then none else some (.obj id p)
 | x=>x
def fzS (st:St) (i c:Nat) (o:Ob) (q:List OT):St:={ st.mapC (staleC i 0) with objs:=st.objs.set i (some ⟨o.ot.set c (.ro (OT.lends q)),o.es⟩) }
theorem fzS_obj {st:St} {i c:Nat} {o:Ob} {q:List OT} (ho:st.obj i=some o) (id:Nat):(fzS st i c o q).obj id=if id=i then some ⟨o.ot.set c (.ro (OT.lends q)),o.es⟩ else st.obj id:=by
 have hi:i < st.objs.length:=by
  simp only [obj_eq,Option.bind_eq_some_iff] at ho
  obtain ⟨x,h,_⟩:=ho
  exact (List.getElem?_eq_some_iff.1 h).1
 simp only [obj_eq,fzS,List.getElem?_set]
 by_cases h:i=id
 ·subst h
  simp [hi]
 ·have : ¬ id=i:=fun e=>h e.symm
  simp [h,this]
theorem fzS_var {st:St} {i c:Nat} {o:Ob} {q:List OT} (id:Nat):(fzS st i c o q).var id=(st.var id).map (List.map (staleC i 0)):=mapC_var st _ id
theorem CRel.fzi (h:Rel A pin w F O Go Gv st tm) {i c0:Nat} {o:Ob} {q:List OT} (ho:st.obj i=some o) {v:Value} {c:C} (hc:CRel w F Go Gv st v c):CRel w (fzF F Go i c0) (fzG Go i c0) Gv (fzS st i c0 o q) v (staleC i 0 c):=by
 have hF:∀ b,F b→fzF F Go i c0 b:=fun b hb=>.inl hb
 have hsl:(fzS st i c0 o q).objs.length=st.objs.length:=by simp [fzS]
 have hvl:(fzS st i c0 o q).vars.length=st.vars.length:=by simp [fzS,St.mapC]
 have hV:∀ {id j v},VRel st Gv id j v→VRel (fzS st i c0 o q) Gv id j v:=by
  intro id j v hv
  refine ⟨by rw [hvl];exact hv.1,fun cs hcs=>?_⟩
  rw [fzS_var,Option.map_eq_some_iff] at hcs
  obtain ⟨cs',h1,_⟩:=hcs
  exact hv.2 cs' h1
 cases c with
 | lit x=>exact hc
 | ro p es=>exact hc.keep (fun b _=>Same.refl w b) hF
 | ref id p off len=>
  simp only [staleC]
  split
  ·trivial
  ·rename_i hid
   refine ⟨by rw [hsl];exact hc.1,fun o' ho'=>?_⟩
   rw [fzS_obj ho] at ho'
   by_cases hii:id=i
   ·subst hii
    have hp:p=[]:=by
     cases p with
     | nil=>rfl
     | cons a b=>simp at hid
    subst hp
    simp only [if_true,Option.some.injEq] at ho'
    subst ho'
    have:=hc.2 o ho
    simp only [fzG,if_true,isC,Bool.false_eq_true,if_false]
    cases hg:Go id [] with
    | none=>simp only [hg] at this ⊢;exact this
    | some b=>
     simp only [hg] at this ⊢
     rcases this with h1 | ⟨h1,a,cc,h2,h3,h4,h5⟩
     ·exact .inl h1
     ·refine .inr ⟨h1,a,cc,h2,h3,h4,fun hl=>?_⟩
      obtain ⟨ot,h6,h7⟩:=h5 hl
      simp only [subOT,Option.some.injEq] at h6
      subst h6
      exact ⟨o.ot.set c0 (.ro (OT.lends q)),rfl,by rw [h7];simp⟩
   ·simp only [hii,if_false] at ho'
    simp only [fzG,hii,if_false]
    exact hc.2 o' ho'
 | ptr id p a b=>
  simp only [staleC]
  split
  ·trivial
  ·rename_i hid
   refine ⟨by rw [hsl];exact hc.1,fun o' ho'=>?_⟩
   rw [fzS_obj ho] at ho'
   by_cases hii:id=i
   ·subst hii
    have hp:p=[]:=by
     cases p with
     | nil=>rfl
     | cons a b=>simp at hid
    subst hp
    simp only [if_true,Option.some.injEq] at ho'
    subst ho'
    obtain ⟨bk,ot,h1,h2,h3⟩:=hc.2 o ho
    simp only [subOT,Option.some.injEq] at h2
    subst h2
    exact ⟨bk,o.ot.set c0 (.ro (OT.lends q)),by simp [fzG,isC,h1],rfl,by rw [h3];simp⟩
   ·simp only [hii,if_false] at ho'
    simp only [fzG,hii,if_false]
    exact hc.2 o' ho'
 | rptr p cs=>
  obtain ⟨g,off,e1,e2,e3,e4⟩:=hc
  refine ⟨g,off,e1,hF _ e2,e3,fun k x q h1 h2=>?_⟩
  obtain ⟨u,hu,hr⟩:=e4 k x q h1 h2
  exact ⟨u,hu,hr.keep (fun b _=>Same.refl w b) hF⟩
 | vptr id j=>exact hV hc
 | clo f cap=>
  obtain ⟨vs,e1,e2,e3⟩:=hc
  exact ⟨vs,e1,e2,fun k u id h1 h2=>hV (e3 k u id h1 h2)⟩
 | dead=>trivial
theorem Rel.fzi (h:Rel A pin w F O Go Gv st tm) {i c:Nat} {o:Ob} {q:List OT} (ho:st.obj i=some o) (hq:o.ot[c]? = some (.own q)):Rel A pin w (fzF F Go i c) (fzO O i c) (fzG Go i c) Gv (fzS st i c o q) tm where
 size:=by simp [fzS,St.mapC,h.size]
 slots:=by
  intro k v s h1 h2
  simp only [fzS,St.mapC,List.getElem?_map,Option.map_eq_some_iff] at h2
  obtain ⟨s',h3,rfl⟩:=h2
  exact SRel.map (fun v c hc=>CRel.fzi h ho hc) rfl (h.slots k v s' h1 h3)
 objs:=by
  intro id ob hob
  rw [fzS_obj ho] at hob
  split at hob
  ·rename_i hid
   subst hid
   obtain rfl:=Option.some.inj hob
   obtain ⟨v,hv⟩:=h.objs id o ho
   refine ⟨v,?_⟩
   have hF:∀ b,F b→fzF F Go id c b:=fun b hb=>.inl hb
   generalize hG:Go id=G at hv
   generalize hes:o.es=es at hv
   have hG' : fzG Go id c id=fun p=>if isC c p then none else G p:=by simp [fzG,hG]
   rw [hG']
   show Own w (fzF F Go id c) _ (.own (o.ot.set c (.ro (OT.lends q)))) v (.sl es)
   cases hv with
   | nil hG0=>exact .nil (by simp [isC,hG0])
   | sl us g1 g2 g3 g4 g5 g6 g7 g8=>
    refine .sl us (by simp [isC,g1]) g2 g3 (fun i row hr=>by rw [g4 i row hr];simp) (fun k hk=>g5 k (by simpa using hk)) (fun k hk=>g6 k (by simpa using hk)) (fun i j hi hj=>by simpa using g7 i j hi (by simpa using hj)) ?_
    intro i j row x q2 h1 h2 h3
    rw [List.getElem?_set] at h3
    by_cases hj:c=j
    ·subst hj
     have hlt:=(List.getElem?_eq_some_iff.1 hq).1
     simp only [if_true,hlt,Option.some.injEq] at h3
     subst h3
     have h5:=g8 i c row x (.own q) h1 h2 hq
     exact .ro (h5.lend hF fun r b hb=>.inr ⟨(i,c)::r,b,by rw [hG];exact hb,by simp [isC],rfl⟩)
    ·rw [if_neg hj] at h3
     have h5:=g8 i j row x q2 h1 h2 h3
     refine h5.keep (fun b _=>Same.refl w b) hF (fun r=>?_) (fun _ _ _=>Same.refl w _)
     have:isC c ((i,j)::r)=false:=by simp [isC,Ne.symm hj]
     simp [this]
  ·rename_i hid
   obtain ⟨v,hv⟩:=h.objs id ob hob
   refine ⟨v,hv.keep (fun b _=>Same.refl w b) (fun b hb=>.inl hb) (fun r=>by simp [fzG,hid]) (fun _ _ _=>Same.refl w _)⟩
 objN:=by
  intro id p b hb
  simp only [fzG] at hb
  rw [fzS_obj ho]
  split at hb
  ·rename_i hid
   exact ⟨_,by rw [if_pos hid]⟩
  ·rename_i hid
   obtain ⟨o',ho'⟩:=h.objN id p b hb
   exact ⟨o',by simp [hid,ho']⟩
 vars:=by
  intro id cs hcs
  rw [fzS_var,Option.map_eq_some_iff] at hcs
  obtain ⟨cs',h1,rfl⟩:=hcs
  obtain ⟨g,hg,hk⟩:=h.vars id cs' h1
  refine ⟨g,hg,fun k c hc=>?_⟩
  simp only [List.getElem?_map,Option.map_eq_some_iff] at hc
  obtain ⟨c',h2,rfl⟩:=hc
  obtain ⟨u,a1,a2,a3,a4⟩:=hk k c' h2
  exact ⟨u,a1,a2,a3,CRel.fzi h ho a4⟩
 varN:=by
  intro id g hg
  obtain ⟨cs,hcs⟩:=h.varN id g hg
  exact ⟨_,by rw [fzS_var,hcs];rfl⟩
 oO:=by
  intro id p b hb
  simp only [fzG] at hb
  split at hb
  ·rename_i hid
   subst hid
   dsimp only at hb
   split at hb
   ·simp at hb
   ·rename_i hp
    simp only [fzO,h.oO id p b hb,hp,and_false,if_false]
    simp
  ·rename_i hid
   simp only [fzO,h.oO id p b hb,hid,false_and,if_false]
 oV:=by
  intro id g hg
  simp only [fzO,h.oV id g hg]
 oF:=by
  intro b hb
  rcases hb with hb | ⟨p,bk,h1,h2,rfl⟩
  ·simp only [fzO,h.oF b hb]
  ·simp only [fzO,h.oO i p bk h1,h2,and_self,if_true]
 oA:=by
  intro b x hx
  simp only [fzO] at hx
  split at hx
  ·rename_i id p hO
   exact h.oA b _ hO
  ·exact h.oA b _ hx
 fS:=by
  intro b hb
  rcases hb with hb | ⟨p,bk,h1,h2,rfl⟩
  ·exact h.fS b hb
  ·exact (h.oA _ _ (h.oO i p bk h1)).2
 aN:=h.aN
 pinned:=h.pinned
theorem frzI_good (h:Rel A pin w F O Go Gv st tm) (id c:Nat):Good A pin w F (st.frzI id c) tm w:=by
 unfold St.frzI
 split
 ·rename_i o ho
  split
  ·rename_i q hq
   refine ⟨_,_,_,_,h.fzi ho hq,Step.refl A w,fun b hb=>.inl hb,fun b hb=>?_⟩
   rcases hb with hb | ⟨p,bk,h1,_,rfl⟩
   ·exact .inl hb
   ·exact .inr (h.oA _ _ (h.oO _ p bk h1)).1
  ·exact Good.same h
 ·exact Good.same h
theorem ref_own (h:Rel A pin w F O Go Gv st tm) {i:Nat} {o:Ob} (ho:st.obj i=some o) {p:Pth} {len:Nat} {v:Value} (hc:CRel w F Go Gv st v (.ref i p 0 len)) {ot:List OT} {es:List (List T)} (hs:subEs o.ot o.es p=some (ot,es)) (hl:len=es.length) :
  Own w F (fun r=>Go i (p++r)) (.own ot) v (.sl es):=by
 obtain ⟨v0,hv0⟩:=h.objs i o ho
 obtain ⟨v',hv'⟩:=hv0.at p hs
 have h1:=hc.2 o ho
 have e:v=v':=by
  generalize ht:T.sl es=t at hv'
  cases hv' with
  | nil hG=>
   simp only [List.append_nil] at hG
   simp only [hG] at h1
   exact h1.1
  | sl us hG _ _ _ _ _ _ _=>
   simp only [List.append_nil] at hG
   simp only [hG] at h1
   simp only [T.sl.injEq] at ht
   subst ht
   rcases h1 with ⟨_,h2,_⟩|⟨h2,_⟩
   ·rw [h2,hl]
   ·omega
 rw [e]
 exact hv'
def fzT (st:St) (i c:Nat) (o:Ob) (q:List OT):St:={ st.mapC (fzcC i c o) with objs:=st.objs.set i (some ⟨o.ot.set c (.ro (OT.lends q)),o.es⟩) }
theorem fzT_var {st:St} {i c:Nat} {o:Ob} {q:List OT} (id:Nat):(fzT st i c o q).var id=(st.var id).map (List.map (fzcC i c o)):=mapC_var st _ id
theorem fzT_ext {i c:Nat} {o:Ob} {q:List OT} {F1:Nat→Prop} {G1:Nat→Gh} {Gv:Nat→Option Nat} : Ext w w F1 F1 G1 G1 Gv Gv (fzS st i c o q) (fzT st i c o q):=by
 refine ⟨fun b _=>Same.refl w b,fun _ h=>h,by simp [fzS,fzT],by simp [fzS,fzT,St.mapC],fun id _ o' h=>⟨o',h,rfl,rfl⟩,fun id _ cs' h=>⟨?_,rfl⟩⟩
 rw [fzT_var,Option.map_eq_some_iff] at h
 obtain ⟨cs,h1,_⟩:=h
 exact ⟨_,by rw [fzS_var,h1];rfl⟩
theorem CRel.fzc (h:Rel A pin w F O Go Gv st tm) {i c0:Nat} {o:Ob} {q:List OT} (ho:st.obj i=some o) {v:Value} {c:C} (hc:CRel w F Go Gv st v c):CRel w (fzF F Go i c0) (fzG Go i c0) Gv (fzT st i c0 o q) v (fzcC i c0 o c):=by
 unfold fzcC
 split
 ·rename_i id r c' len
  split
  ·rename_i hid
   subst hid
   split
   ·rename_i hcc
    subst hcc
    split
    ·rename_i ot es hs
     split
     ·rename_i hl
      exact (ref_own h ho hc hs hl).lend (F':=fzF F Go id c') (fun b hb=>.inl hb) (fun r' b hb=>.inr ⟨_,b,hb,by simp [isC],rfl⟩)
     ·trivial
    ·trivial
   ·trivial
  ·rename_i hid
   have:=(CRel.fzi (c0:=c0) (q:=q) h ho hc).ext (fzT_ext (st:=st))
   simp only [staleC,hid,decide_false,Bool.false_and,Bool.false_eq_true,if_false] at this
   exact this
 ·exact (CRel.fzi h ho hc).ext fzT_ext
theorem Rel.fzc (h:Rel A pin w F O Go Gv st tm) {i c:Nat} {o:Ob} {q:List OT} (ho:st.obj i=some o) (hq:o.ot[c]? = some (.own q)):Rel A pin w (fzF F Go i c) (fzO O i c) (fzG Go i c) Gv (fzT st i c o q) tm:=by
 have h0:=h.fzi ho hq
 refine ⟨by simp [fzT,St.mapC,h.size],?_,fun id ob hob=>h0.objs id ob hob,fun id p b hb=>h0.objN id p b hb,?_,?_,h0.oO,h0.oV,h0.oF,h0.oA,h0.fS,h0.aN,h0.pinned⟩
 ·intro k v s h1 h2
  simp only [fzT,St.mapC,List.getElem?_map,Option.map_eq_some_iff] at h2
  obtain ⟨s',h3,rfl⟩:=h2
  exact SRel.map (fun v c hc=>CRel.fzc h ho hc) rfl (h.slots k v s' h1 h3)
 ·intro id cs hcs
  rw [fzT_var,Option.map_eq_some_iff] at hcs
  obtain ⟨cs',h1,rfl⟩:=hcs
  obtain ⟨g,hg,hk⟩:=h.vars id cs' h1
  refine ⟨g,hg,fun k c hc=>?_⟩
  simp only [List.getElem?_map,Option.map_eq_some_iff] at hc
  obtain ⟨c',h2,rfl⟩:=hc
  obtain ⟨u,a1,a2,a3,a4⟩:=hk k c' h2
  exact ⟨u,a1,a2,a3,CRel.fzc h ho a4⟩
 ·intro id g hg
  obtain ⟨cs,hcs⟩:=h.varN id g hg
  exact ⟨_,by rw [fzT_var,hcs];rfl⟩
theorem frzCo_good (h:Rel A pin w F O Go Gv st tm) {id c:Nat} {st' : St} (hf:st.frzCo id c=some st'):Good A pin w F st' tm w:=by
 unfold St.frzCo at hf
 split at hf
 ·rename_i o ho
  split at hf
  ·rename_i q hq
   obtain rfl:=Option.some.inj hf
   refine ⟨_,_,_,_,h.fzc ho hq,Step.refl A w,fun b hb=>.inl hb,fun b hb=>?_⟩
   rcases hb with hb | ⟨p,bk,h1,_,rfl⟩
   ·exact .inl hb
   ·exact .inr (h.oA _ _ (h.oO _ p bk h1)).1
  ·simp at hf
 ·simp at hf
theorem dead_cells {vs:List Value} {cs:List C} {j:Nat} (h:CsRel w F Go Gv st vs cs):CsRel w F Go Gv st vs (cs.set j .dead):=by
 refine ⟨by simp [h.1],fun k u x h1 h2=>?_⟩
 rw [List.getElem?_set] at h2
 split at h2
 ·split at h2
  ·rename_i hlt
   obtain rfl:=Option.some.inj h2
   have hk:k < cs.length:=by rw [←h.1];exact (List.getElem?_eq_some_iff.1 h1).1
   exact ⟨(h.2 k u cs[k] h1 (by simp [hk])).1,trivial⟩
  ·simp at h2
 ·exact h.2 k u x h1 h2
theorem dd_good (h:Rel A pin w F O Go Gv st tm) {k j:Nat} {agg:Bool} {cs:List C} (hk:st.slots[k]? = some (.v agg cs)) {c:C} (hj:cs[j]? = some c) (hc:c≠.lit undef):Good A pin w F { st with slots:=st.slots.set k (.v agg (cs.set j .dead)) } tm w:=by
 refine ⟨F,O,Go,Gv,⟨by simp [h.size],?_,h.objs,h.objN,h.vars,h.varN,h.oO,h.oV,h.oF,h.oA,h.fS,h.aN,h.pinned⟩,Step.refl A w,fun _ h=>h,fun _ h=>.inl h⟩
 intro k' v s h1 h2
 simp only [List.getElem?_set] at h2
 by_cases hkk:k=k'
 ·subst hkk
  have hlt:=(List.getElem?_eq_some_iff.1 hk).1
  simp [hlt] at h2
  subst h2
  have hr:=h.slots k v _ h1 hk
  cases agg with
  | true=>
   obtain ⟨vs,g1,g2⟩:=hr
   exact ⟨vs,g1,dead_cells g2⟩
  | false=>
   obtain ⟨c',g1,g2,g3⟩:=hr
   simp only at g1
   subst g1
   have hj0:j=0:=by
    have:=(List.getElem?_eq_some_iff.1 hj).1
    simp at this
    exact this
   subst hj0
   simp at hj
   subst hj
   refine ⟨.dead,rfl,.inl ?_,trivial⟩
   rcases g2 with g2 | ⟨_,g2⟩
   ·exact g2
   ·exact absurd g2 hc
 ·rw [if_neg hkk] at h2
  exact h.slots k' v s h1 h2
theorem nilRef (st:St) (p:List OT):CRel w F (newGo Go [] st.objs.length fun _=>none) Gv { st with objs:=st.objs++[some ⟨p,[]⟩] } (.slice none 0 0) (.ref st.objs.length [] 0 0):=⟨by simp,fun o _=>by simp [newGo]⟩
theorem nil_cells {st1:St} {vs:List Value} {cs:List C} {j:Nat} {c:C} (h:CsRel w F Go Gv st1 vs cs) (hj:cs[j]? = some (.lit (.slice none 0 0))) (hc:CRel w F Go Gv st1 (.slice none 0 0) c):CsRel w F Go Gv st1 vs (cs.set j c):=by
 refine ⟨by simp [h.1],fun k u x h1 h2=>?_⟩
 rw [List.getElem?_set] at h2
 by_cases hk:j=k
 ·subst hk
  have hlt:=(List.getElem?_eq_some_iff.1 hj).1
  simp [hlt] at h2
  subst h2
  obtain ⟨g1,g2⟩:=h.2 j u _ h1 hj
  simp only [CRel] at g2
  subst g2
  exact ⟨g1,hc⟩
 ·rw [if_neg hk] at h2
  exact h.2 k u x h1 h2
def tkG (Go:Nat→Gh) (i r c new:Nat):Nat→Gh:=fun id p=>if id=new then Go i ((r,c)::p) else if id=i∧p.head? = some (r,c) then none else Go id p
def tkO (O:Nat→Option Ow) (i r c new:Nat) (b:Nat):Option Ow:=
 match O b with
 | some (.obj id ((a,d)::p))=>if id=i∧a=r∧d=c then some (.obj new p) else some (.obj id ((a,d)::p))
 | x=>x
def tkS (f:C→C) (st:St) (i r c:Nat) (o:Ob) (q:List OT) (row:List T) (es:List (List T)):St:=
 { st.mapC f with objs:=st.objs.set i (some ⟨o.ot.set c (.hol q),o.es.set r (row.set c (.pt []))⟩)++[some ⟨q,es⟩] }
theorem tkS_obj {f:C→C} {st:St} {i r c:Nat} {o:Ob} {q:List OT} {row:List T} {es:List (List T)} (hi:i < st.objs.length) (id:Nat) :
  (tkS f st i r c o q row es).obj id=if id=st.objs.length then some ⟨q,es⟩ else if id=i then some ⟨o.ot.set c (.hol q),o.es.set r (row.set c (.pt []))⟩ else st.obj id:=by
 simp only [obj_eq,tkS,List.getElem?_append,List.length_set,List.getElem?_set]
 by_cases h1:id=st.objs.length
 ·subst h1;simp
 ·by_cases h2:id < st.objs.length
  ·by_cases h3:i=id
   ·subst h3;simp [h2,h1]
   ·simp [h2,h1,h3,Ne.symm h3]
  ·have h4 : ¬ id=i:=by omega
   have h5:id - st.objs.length≠0:=by omega
   simp [h2,h1,h4]
   rw [show id - st.objs.length=(id - st.objs.length - 1)+1 by omega]
   simp
theorem tkS_var {f:C→C} {st:St} {i r c:Nat} {o:Ob} {q:List OT} {row:List T} {es:List (List T)} (id:Nat):(tkS f st i r c o q row es).var id=(st.var id).map (List.map f):=mapC_var st _ id
theorem CRel.tk {f:C→C} {i r c:Nat} {o:Ob} {q:List OT} {row:List T} {es:List (List T)} (ho:st.obj i=some o) (hc:o.ot[c]? = some (.own q)) {v:Value} {k:C} (hk:CRel w F Go Gv st v k) :
  CRel w F (tkG Go i r c st.objs.length) Gv (tkS f st i r c o q row es) v (takeC i r c st.objs.length k):=by
 have hi:=obj_lt ho
 have hsl:(tkS f st i r c o q row es).objs.length=st.objs.length+1:=by simp [tkS]
 have hvl:(tkS f st i r c o q row es).vars.length=st.vars.length:=by simp [tkS,St.mapC]
 have hV:∀ {id j v},VRel st Gv id j v→VRel (tkS f st i r c o q row es) Gv id j v:=by
  intro id j v hv
  refine ⟨by rw [hvl];exact hv.1,fun cs hcs=>?_⟩
  rw [tkS_var,Option.map_eq_some_iff] at hcs
  obtain ⟨cs',h1,_⟩:=hcs
  exact hv.2 cs' h1
 have hother:∀ id (p:Pth) o',id < st.objs.length→(id=i→p=[])→(tkS f st i r c o q row es).obj id=some o'→∃ o1,st.obj id=some o1∧tkG Go i r c st.objs.length id p=Go id p∧(∀ ot,subOT o1.ot p=some ot→∃ ot',subOT o'.ot p=some ot'∧ot'.length=ot.length):=by
  intro id p o' hid hp ho'
  have hne:id≠st.objs.length:=by omega
  rw [tkS_obj hi] at ho'
  simp only [hne,if_false] at ho'
  by_cases h1:id=i
  ·subst h1
   obtain rfl:=hp rfl
   simp only [if_true,Option.some.injEq] at ho'
   subst ho'
   refine ⟨o,ho,by simp [tkG,hne],fun ot hot=>?_⟩
   simp [subOT] at hot ⊢
   rw [hot]
  ·simp only [h1,if_false] at ho'
   exact ⟨o',ho',by simp [tkG,hne,h1],fun ot hot=>⟨ot,hot,rfl⟩⟩
 cases k with
 | lit x=>exact hk
 | ro p es=>exact hk
 | ref id p off len=>
  have main:∀ (hp:id=i→p=[]),CRel w F (tkG Go i r c st.objs.length) Gv (tkS f st i r c o q row es) v (.ref id p off len):=by
   intro hp
   refine ⟨by rw [hsl];have:=hk.1;omega,fun o' ho'=>?_⟩
   obtain ⟨o1,h1,h2,h3⟩:=hother id p o' hk.1 hp ho'
   have hr:=hk.2 o1 h1
   rw [h2]
   cases hg:Go id p with
   | none=>simp only [hg] at hr ⊢;exact hr
   | some b=>
    simp only [hg] at hr ⊢
    rcases hr with hr | ⟨g1,a,cc,g2,g3,g4,g5⟩
    ·exact .inl hr
    ·refine .inr ⟨g1,a,cc,g2,g3,g4,fun hl=>?_⟩
     obtain ⟨ot,e1,e2⟩:=g5 hl
     obtain ⟨ot',e3,e4⟩:=h3 ot e1
     exact ⟨ot',e3,by rw [e4];exact e2⟩
  cases p with
  | nil=>exact main (fun _=>rfl)
  | cons x p=>
   obtain ⟨a,d⟩:=x
   simp only [takeC]
   by_cases h1:id=i
   ·simp only [h1,if_true]
    by_cases h2:a=r∧d=c
    ·obtain ⟨rfl,rfl⟩:=h2
     subst h1
     simp only [and_self,if_true]
     refine ⟨by rw [hsl];omega,fun o' ho'=>?_⟩
     rw [tkS_obj hi] at ho'
     simp only [if_true,Option.some.injEq] at ho'
     subst ho'
     have hr:=hk.2 o ho
     have hgg:tkG Go id a d st.objs.length st.objs.length p=Go id ((a,d)::p):=by simp [tkG]
     rw [hgg]
     cases hg:Go id ((a,d)::p) with
     | none=>simp only [hg] at hr ⊢;exact hr
     | some b=>
      simp only [hg] at hr ⊢
      rcases hr with hr | ⟨g1,a',cc,g2,g3,g4,g5⟩
      ·exact .inl hr
      ·refine .inr ⟨g1,a',cc,g2,g3,g4,fun hl=>?_⟩
       obtain ⟨ot,e1,e2⟩:=g5 hl
       simp only [subOT,hc] at e1
       exact ⟨ot,e1,e2⟩
    ·simp only [h2,if_false];trivial
   ·simp only [h1,if_false]
    exact main (fun e=>absurd e h1)
 | ptr id p x y=>
  have main:∀ (hp:id=i→p=[]),CRel w F (tkG Go i r c st.objs.length) Gv (tkS f st i r c o q row es) v (.ptr id p x y):=by
   intro hp
   refine ⟨by rw [hsl];have:=hk.1;omega,fun o' ho'=>?_⟩
   obtain ⟨o1,h1,h2,h3⟩:=hother id p o' hk.1 hp ho'
   obtain ⟨b,ot,e1,e2,e3⟩:=hk.2 o1 h1
   obtain ⟨ot',e4,e5⟩:=h3 ot e2
   exact ⟨b,ot',by rw [h2];exact e1,e4,by rw [e5];exact e3⟩
  cases p with
  | nil=>exact main (fun _=>rfl)
  | cons z p=>
   obtain ⟨a,d⟩:=z
   simp only [takeC]
   by_cases h1:id=i
   ·simp only [h1,if_true]
    by_cases h2:a=r∧d=c
    ·obtain ⟨rfl,rfl⟩:=h2
     subst h1
     simp only [and_self,if_true]
     refine ⟨by rw [hsl];omega,fun o' ho'=>?_⟩
     rw [tkS_obj hi] at ho'
     simp only [if_true,Option.some.injEq] at ho'
     subst ho'
     obtain ⟨b,ot,e1,e2,e3⟩:=hk.2 o ho
     simp only [subOT,hc] at e2
     exact ⟨b,ot,by simp [tkG,e1],e2,e3⟩
    ·simp only [h2,if_false];trivial
   ·simp only [h1,if_false]
    exact main (fun e=>absurd e h1)
 | rptr p cs=>exact hk
 | vptr id j=>exact hV hk
 | clo f cap=>
  obtain ⟨vs,e1,e2,e3⟩:=hk
  exact ⟨vs,e1,e2,fun k u id h1 h2=>hV (e3 k u id h1 h2)⟩
 | dead=>trivial
theorem CRel.tk0 {f:C→C} {i r c:Nat} {o:Ob} {q:List OT} {row:List T} {es:List (List T)} (ho:st.obj i=some o) (hc:o.ot[c]? = some (.own q)) {v:Value} {k:C} (hk:CRel w F Go Gv st v k) :
  CRel w F (tkG Go i r c st.objs.length) Gv (tkS f st i r c o q row es) v (staleC i 0 k):=by
 have h0:=CRel.tk (f:=f) (r:=r) (row:=row) (es:=es) ho hc hk
 cases k with
 | ref id p off len=>
  cases p with
  | nil=>simpa [staleC,takeC] using h0
  | cons x p=>
   obtain ⟨a,d⟩:=x
   by_cases h1:id=i
   ·simp [staleC,h1];trivial
   ·simpa [staleC,takeC,h1] using h0
 | ptr id p x y=>
  cases p with
  | nil=>simpa [staleC,takeC] using h0
  | cons z p=>
   obtain ⟨a,d⟩:=z
   by_cases h1:id=i
   ·simp [staleC,h1];trivial
   ·simpa [staleC,takeC,h1] using h0
 | _=>exact h0
theorem tkG_inj {i r c new:Nat} (hn:∀ p b,Go new p=some b→False) {id:Nat} {p:Pth} {b:Bk} (h:tkG Go i r c new id p=some b):(id=new∧Go i ((r,c)::p)=some b)∨(id≠new∧¬ (id=i∧p.head? = some (r,c))∧Go id p=some b):=by
 unfold tkG at h
 split at h
 ·exact .inl ⟨‹_›,h⟩
 ·split at h
  ·simp at h
  ·exact .inr ⟨‹_›,‹_›,h⟩
theorem Rel.tk (h:Rel A pin w F O Go Gv st tm) {i r c:Nat} {o:Ob} {q:List OT} {row:List T} {es:List (List T)} (ho:st.obj i=some o) (hc:o.ot[c]? = some (.own q)) (hr:o.es[r]? = some row) (hx:row[c]? = some (.sl es)) :
  Rel A pin w F (tkO O i r c st.objs.length) (tkG Go i r c st.objs.length) Gv (tkS (staleC i 0) st i r c o q row es) tm where
 size:=by simp [tkS,St.mapC,h.size]
 slots:=by
  intro k v s h1 h2
  simp only [tkS,St.mapC,List.getElem?_map,Option.map_eq_some_iff] at h2
  obtain ⟨s',h3,rfl⟩:=h2
  exact SRel.map (fun v k hk=>CRel.tk0 ho hc hk) rfl (h.slots k v s' h1 h3)
 objs:=by
  intro id ob hob
  have hi:=obj_lt ho
  rw [tkS_obj hi] at hob
  obtain ⟨v0,hv0⟩:=h.objs i o ho
  by_cases h1:id=st.objs.length
  ·subst h1
   simp only [if_true,Option.some.injEq] at hob
   subst hob
   generalize ht:T.sl o.es=t at hv0
   cases hv0 with
   | nil _=>simp at ht;rw [ht] at hr;simp at hr
   | @sl G pp g cap es1 us hG hcap hm hrow hcc hf hcell hsub=>
    simp at ht
    subst ht
    have:=hsub r c row _ _ hr hx hc
    refine ⟨us r c,?_⟩
    have e:tkG Go i r c st.objs.length st.objs.length=fun p=>Go i ((r,c)::p):=by funext p;simp [tkG]
    rw [e]
    exact this
  ·simp only [h1,if_false] at hob
   by_cases h2:id=i
   ·subst h2
    simp only [if_true,Option.some.injEq] at hob
    subst hob
    refine ⟨v0,?_⟩
    generalize ht:T.sl o.es=t at hv0
    cases hv0 with
    | nil _=>simp at ht;rw [ht] at hr;simp at hr
    | @sl G pp g cap es1 us hG hcap hm hrow hcc hf hcell hsub=>
     simp at ht
     subst ht
     have hl:(o.ot.set c (.hol q)).length=o.ot.length:=by simp
     have hrl:r < o.es.length:=(List.getElem?_eq_some_iff.1 hr).1
     have hcl:c < row.length:=(List.getElem?_eq_some_iff.1 hx).1
     have hlen:(o.es.set r (row.set c (T.pt []))).length=o.es.length:=by simp
     have:=Own.sl (w:=w) (F:=F) (G:=tkG Go id r c st.objs.length id) (p:=o.ot.set c (.hol q)) (g:=g) (cap:=cap) (es:=o.es.set r (row.set c (.pt []))) us
      (by simp [tkG,h1];exact hG) (by rw [hlen];exact hcap) hm ?_ (by rw [hl];exact hcc) (by rw [hl];exact hf) ?_ ?_
     ·rwa [hlen] at this
     ·intro a ro ha
      rw [hl]
      rw [List.getElem?_set] at ha
      split at ha
      ·rename_i e
       simp [hrl] at ha
       subst ha
       simpa using hrow r row hr
      ·exact hrow a ro ha
     ·intro a b ha hb
      rw [hl] at hb ⊢
      rw [hlen] at ha
      exact hcell a b ha hb
     ·intro a b ro x k ha hb hk
      by_cases hbc:b=c
      ·subst hbc
       have hk' : k=.hol q:=by
        rw [List.getElem?_set] at hk
        have:b < o.ot.length:=(List.getElem?_eq_some_iff.1 hc).1
        simp [this] at hk
        exact hk.symm
       subst hk'
       by_cases har:a=r
       ·subst har
        rw [List.getElem?_set] at ha
        simp [hrl] at ha
        subst ha
        rw [List.getElem?_set] at hb
        simp [hcl] at hb
        subst hb
        exact .hole (hsub a b row _ _ hr hx hc).one
       ·rw [List.getElem?_set,if_neg (Ne.symm har)] at ha
        refine .full ((hsub a b ro x _ ha hb hc).keep (fun b _=>Same.refl w b) (fun _ h=>h) (fun s=>?_) (fun _ _ _=>Same.refl w _))
        simp [tkG,h1,har]
      ·rw [List.getElem?_set,if_neg (Ne.symm hbc)] at hk
       have:∃ r',o.es[a]? = some r'∧r'[b]? = some x:=by
        rw [List.getElem?_set] at ha
        split at ha
        ·rename_i har
         subst har
         simp [hrl] at ha
         subst ha
         rw [List.getElem?_set,if_neg (Ne.symm hbc)] at hb
         exact ⟨row,hr,hb⟩
        ·exact ⟨ro,ha,hb⟩
       obtain ⟨r',e1,e2⟩:=this
       refine (hsub a b r' x k e1 e2 hk).keep (fun b _=>Same.refl w b) (fun _ h=>h) (fun s=>?_) (fun _ _ _=>Same.refl w _)
       simp [tkG,h1,hbc]
   ·simp only [h2,if_false] at hob
    obtain ⟨v,hv⟩:=h.objs id ob hob
    exact ⟨v,hv.keep (fun b _=>Same.refl w b) (fun _ h=>h) (fun s=>by simp [tkG,h1,h2]) (fun _ _ _=>Same.refl w _)⟩
 objN:=by
  intro id p b hb
  have hi:=obj_lt ho
  have hnew:∀ p b,Go st.objs.length p=some b→False:=fun p b hb=>by
   obtain ⟨o',ho'⟩:=h.objN _ p b hb
   have:=obj_lt ho'
   omega
  rw [tkS_obj hi]
  rcases tkG_inj hnew hb with ⟨rfl,_⟩|⟨h1,_,h3⟩
  ·exact ⟨_,by simp;rfl⟩
  ·obtain ⟨o',ho'⟩:=h.objN id p b h3
   by_cases h4:id=i
   ·exact ⟨_,by simp [h1,h4];rw [if_neg (by omega)]⟩
   ·exact ⟨o',by simp [h1,h4,ho']⟩
 vars:=by
  intro id cs hcs
  rw [tkS_var,Option.map_eq_some_iff] at hcs
  obtain ⟨cs',h1,rfl⟩:=hcs
  obtain ⟨g,hg,hk⟩:=h.vars id cs' h1
  refine ⟨g,hg,fun k x hx'=>?_⟩
  simp only [List.getElem?_map,Option.map_eq_some_iff] at hx'
  obtain ⟨c',h2,rfl⟩:=hx'
  obtain ⟨u,a1,a2,a3,a4⟩:=hk k c' h2
  exact ⟨u,a1,a2,a3,CRel.tk0 ho hc a4⟩
 varN:=by
  intro id g hg
  obtain ⟨cs,hcs⟩:=h.varN id g hg
  exact ⟨_,by rw [tkS_var,hcs];rfl⟩
 oO:=by
  intro id p b hb
  have hnew:∀ p b,Go st.objs.length p=some b→False:=fun p b hb=>by
   obtain ⟨o',ho'⟩:=h.objN _ p b hb
   have:=obj_lt ho'
   omega
  rcases tkG_inj hnew hb with ⟨rfl,h2⟩|⟨h1,h2,h3⟩
  ·simp [tkO,h.oO _ _ _ h2]
  ·have h4:=h.oO id p b h3
   unfold tkO
   rw [h4]
   cases p with
   | nil=>rfl
   | cons x p=>
    obtain ⟨a,d⟩:=x
    have : ¬ (id=i∧a=r∧d=c):=fun e=>h2 ⟨e.1,by simp [e.2.1,e.2.2]⟩
    simp only [this,if_false]
 oV:=by
  intro id g hg
  simp only [tkO,h.oV id g hg]
 oF:=by
  intro b hb
  simp only [tkO,h.oF b hb]
 oA:=by
  intro b x hx'
  unfold tkO at hx'
  split at hx'
  ·rename_i id a d p hO
   exact h.oA b _ hO
  ·exact h.oA b _ hx'
 fS:=h.fS
 aN:=h.aN
 pinned:=h.pinned
def clS (st:St) (i j:Nat) (o:Ob) (q:List OT):St:={ st with objs:=st.objs.set i (some ⟨o.ot.set j (.own q),o.es⟩) }
theorem clS_obj {st:St} {i j:Nat} {o:Ob} {q:List OT} (hi:i < st.objs.length) (id:Nat):(clS st i j o q).obj id=if id=i then some ⟨o.ot.set j (.own q),o.es⟩ else st.obj id:=by
 simp only [obj_eq,clS,List.getElem?_set]
 by_cases h:i=id
 ·subst h;simp [hi]
 ·simp [h,Ne.symm h]
theorem subOT_close {ot:List OT} {j:Nat} {q:List OT} (hj:ot[j]? = some (.hol q)):∀ (p:Pth) (r:List OT),subOT ot p=some r→∃ r',subOT (ot.set j (.own q)) p=some r'∧r'.length=r.length
 | [],r,h=>by simp [subOT] at h ⊢;rw [h]
 | (a,b)::p,r,h=>by
  by_cases hb:b=j
  ·subst hb
   simp [subOT,hj] at h
  ·refine ⟨r,?_,rfl⟩
   simp only [subOT] at h ⊢
   rw [List.getElem?_set,if_neg (Ne.symm hb)]
   exact h
theorem CRel.cl {i j:Nat} {o:Ob} {q:List OT} (ho:st.obj i=some o) (hj:o.ot[j]? = some (.hol q)) {v:Value} {k:C} (hk:CRel w F Go Gv st v k):CRel w F Go Gv (clS st i j o q) v k:=by
 have hi:=obj_lt ho
 have hsl:(clS st i j o q).objs.length=st.objs.length:=by simp [clS]
 have hV:∀ {id j' v},VRel st Gv id j' v→VRel (clS st i j o q) Gv id j' v:=fun hv=>⟨hv.1,fun cs hcs=>hv.2 cs hcs⟩
 have hother:∀ id (p:Pth) o',(clS st i j o q).obj id=some o'→∃ o1,st.obj id=some o1∧(∀ ot,subOT o1.ot p=some ot→∃ ot',subOT o'.ot p=some ot'∧ot'.length=ot.length):=by
  intro id p o' ho'
  rw [clS_obj hi] at ho'
  by_cases h1:id=i
  ·subst h1
   simp only [if_true,Option.some.injEq] at ho'
   subst ho'
   exact ⟨o,ho,fun ot hot=>subOT_close hj p ot hot⟩
  ·simp only [h1,if_false] at ho'
   exact ⟨o',ho',fun ot hot=>⟨ot,hot,rfl⟩⟩
 cases k with
 | lit x=>exact hk
 | ro p es=>exact hk
 | ref id p off len=>
  refine ⟨by rw [hsl];exact hk.1,fun o' ho'=>?_⟩
  obtain ⟨o1,h1,h3⟩:=hother id p o' ho'
  have hr:=hk.2 o1 h1
  cases hg:Go id p with
  | none=>simp only [hg] at hr ⊢;exact hr
  | some b=>
   simp only [hg] at hr ⊢
   rcases hr with hr | ⟨g1,a,cc,g2,g3,g4,g5⟩
   ·exact .inl hr
   ·refine .inr ⟨g1,a,cc,g2,g3,g4,fun hl=>?_⟩
    obtain ⟨ot,e1,e2⟩:=g5 hl
    obtain ⟨ot',e3,e4⟩:=h3 ot e1
    exact ⟨ot',e3,by rw [e4];exact e2⟩
 | ptr id p x y=>
  refine ⟨by rw [hsl];exact hk.1,fun o' ho'=>?_⟩
  obtain ⟨o1,h1,h3⟩:=hother id p o' ho'
  obtain ⟨b,ot,e1,e2,e3⟩:=hk.2 o1 h1
  obtain ⟨ot',e4,e5⟩:=h3 ot e2
  exact ⟨b,ot',e1,e4,by rw [e5];exact e3⟩
 | rptr p cs=>exact hk
 | vptr id j=>exact hV hk
 | clo f cap=>
  obtain ⟨vs,e1,e2,e3⟩:=hk
  exact ⟨vs,e1,e2,fun k u id h1 h2=>hV (e3 k u id h1 h2)⟩
 | dead=>trivial
theorem SRel.cl {i j:Nat} {o:Ob} {q:List OT} (ho:st.obj i=some o) (hj:o.ot[j]? = some (.hol q)) {v:Value} {s:SV} (hs:SRel w F Go Gv st v s):SRel w F Go Gv (clS st i j o q) v s:=by
 have:=SRel.map (f:=fun c=>c) (st':=clS st i j o q) (w':=w) (F':=F) (Go':=Go) (Gv':=Gv) (fun v c hc=>CRel.cl ho hj hc) rfl hs
 have e:SV.map (fun c=>c) s=s:=by cases s <;> simp [SV.map]
 rwa [e] at this
theorem Rel.cl (h:Rel A pin w F O Go Gv st tm) {i j:Nat} {o:Ob} {q:List OT} (ho:st.obj i=some o) (hj:o.ot[j]? = some (.hol q)) (hn:noPt j o.es=true):Rel A pin w F O Go Gv (clS st i j o q) tm where
 size:=h.size
 slots:=fun k v s h1 h2=>SRel.cl ho hj (h.slots k v s h1 h2)
 objs:=by
  intro id ob hob
  rw [clS_obj (obj_lt ho)] at hob
  by_cases h2:id=i
  ·subst h2
   simp only [if_true,Option.some.injEq] at hob
   subst hob
   obtain ⟨v0,hv0⟩:=h.objs id o ho
   refine ⟨v0,?_⟩
   generalize ht:T.sl o.es=t at hv0
   cases hv0 with
   | nil hG=>simp at ht;simp only [ht];exact .nil hG
   | @sl G pp g cap es1 us hG hcap hm hrow hcc hf hcell hsub=>
    simp at ht
    subst ht
    have hl:(o.ot.set j (.own q)).length=o.ot.length:=by simp
    refine Own.sl us hG hcap hm (fun a ro ha=>by rw [hl];exact hrow a ro ha) (by rw [hl];exact hcc) (by rw [hl];exact hf) (fun a b ha hb=>by rw [hl] at hb ⊢;exact hcell a b ha hb) ?_
    intro a b ro x k ha hb hk
    by_cases hbj:b=j
    ·subst hbj
     have hk' : k=.own q:=by
      rw [List.getElem?_set] at hk
      have:b < o.ot.length:=(List.getElem?_eq_some_iff.1 hj).1
      simp [this] at hk
      exact hk.symm
     subst hk'
     have h3:=hsub a b ro x _ ha hb hj
     cases h3 with
     | hole _=>
      have h4:=List.all_eq_true.1 hn ro (List.mem_of_getElem? ha)
      rw [hb] at h4
      simp at h4
     | full h3=>exact h3
    ·rw [List.getElem?_set,if_neg (Ne.symm hbj)] at hk
     exact hsub a b ro x k ha hb hk
  ·simp only [h2,if_false] at hob
   exact h.objs id ob hob
 objN:=by
  intro id p b hb
  obtain ⟨o',ho'⟩:=h.objN id p b hb
  rw [clS_obj (obj_lt ho)]
  by_cases h4:id=i
  ·exact ⟨_,by simp [h4];rfl⟩
  ·exact ⟨o',by simp [h4,ho']⟩
 vars:=by
  intro id cs hcs
  obtain ⟨g,hg,hk⟩:=h.vars id cs hcs
  exact ⟨g,hg,fun k x hx'=>let ⟨u,a1,a2,a3,a4⟩:=hk k x hx';⟨u,a1,a2,a3,CRel.cl ho hj a4⟩⟩
 varN:=h.varN
 oO:=h.oO
 oV:=h.oV
 oF:=h.oF
 oA:=h.oA
 fS:=h.fS
 aN:=h.aN
 pinned:=h.pinned
theorem close_good (h:Rel A pin w F O Go Gv st tm) {i j:Nat} {st' : St} (hf:st.close i j=some st'):Rel A pin w F O Go Gv st' tm:=by
 unfold St.close at hf
 split at hf
 ·rename_i o ho
  split at hf
  ·rename_i q hj
   split at hf
   ·rename_i hn
    simp only [Option.some.injEq] at hf
    subst hf
    exact h.cl ho hj hn
   ·simp at hf
  ·simp only [Option.some.injEq] at hf;subst hf;exact h
 ·simp only [Option.some.injEq] at hf;subst hf;exact h
theorem closeAt_good (h:Rel A pin w F O Go Gv st tm) {c:Option C} {st' : St} (hf:closeAt c st=some st'):Rel A pin w F O Go Gv st' tm:=by
 unfold closeAt at hf
 split at hf
 ·exact close_good h hf
 ·simp only [Option.some.injEq] at hf;subst hf;exact h
theorem ref_cells {st1:St} {vs:List Value} {cs:List C} {j:Nat} {c:C} (h:CsRel w F Go Gv st1 vs cs) (hc:∀ u,vs[j]? = some u→u.oneCell' = true∧CRel w F Go Gv st1 u c):CsRel w F Go Gv st1 vs (cs.set j c):=by
 refine ⟨by simp [h.1],fun k u x h1 h2=>?_⟩
 rw [List.getElem?_set] at h2
 by_cases hk:j=k
 ·subst hk
  simp at h2
  obtain ⟨_,rfl⟩:=h2
  exact hc u h1
 ·rw [if_neg hk] at h2
  exact h.2 k u x h1 h2
theorem take_good (h:Rel A pin w F O Go Gv st tm) {k j:Nat} {st' : St} (hf:st.take k j=some st'):Good A pin w F st' tm w:=by
 unfold St.take at hf
 split at hf
 ·rename_i agg cs hk
  split at hf
  ·rename_i id r c off len hj
   split at hf
   ·rename_i o ho
    split at hf
    ·rename_i q row hc hr
     split at hf
     ·rename_i es hx
      simp only [Option.some.injEq] at hf
      subst hf
      have h1:=h.tk ho hc hr hx
      refine ⟨F,_,_,Gv,⟨by simp [h.size],?_,h1.objs,h1.objN,h1.vars,h1.varN,h1.oO,h1.oV,h1.oF,h1.oA,h1.fS,h1.aN,h1.pinned⟩,Step.refl A w,fun _ h=>h,fun _ h=>.inl h⟩
      intro k' v s e1 e2
      rw [List.getElem?_set] at e2
      by_cases hkk:k=k'
      ·subst hkk
       have hlt:=(List.getElem?_eq_some_iff.1 hk).1
       simp [hlt] at e2
       subst e2
       have hr0:=h.slots k v _ e1 hk
       have hr1:=h1.slots k v (.v agg (cs.map (staleC id 0))) e1 (by simp [tkS,St.mapC,hk,SV.map])
       have hnew:∀ u,CRel w F Go Gv st u (.ref id [(r,c)] off len)→u.oneCell' = true∧CRel w F (tkG Go id r c st.objs.length) Gv (tkS (staleC id 0) st id r c o q row es) u (.ref st.objs.length [] off len):=by
        intro u hu
        have:=CRel.tk (f:=staleC id 0) (r:=r) (row:=row) (es:=es) ho hc hu
        simp only [takeC,and_self,if_true] at this
        exact ⟨ref_one ho hu,this⟩
       cases agg with
       | true=>
        obtain ⟨vs,g1,g2⟩:=hr1
        obtain ⟨vs0,g3,g4⟩:=hr0
        have:vs=vs0:=by
         have:=g1.symm.trans g3
         simpa using this
        subst this
        exact ⟨vs,g1,ref_cells (st1:=tkS (staleC id 0) st id r c o q row es) g2 (fun u hu=>hnew u (g4.2 j u _ hu hj).2)⟩
       | false=>
        obtain ⟨c0,g1,g2,g3⟩:=hr0
        simp only at g1
        subst g1
        have hj0:j=0:=by
         cases j with
         | zero=>rfl
         | succ j=>simp at hj
        subst hj0
        simp at hj
        subst hj
        exact ⟨_,rfl,.inl (hnew v g3).1,(hnew v g3).2⟩
      ·rw [if_neg hkk] at e2
       exact h1.slots k' v s e1 e2
     ·simp at hf
    ·simp at hf
   ·simp at hf
  ·simp only [Option.some.injEq] at hf;subst hf;exact Good.same h
  ·simp at hf
 ·simp at hf
theorem pre_good (h:Rel A pin w F O Go Gv st tm) {x:Pre} {st' : St} (hf:preOne st x=some st'):Good A pin w F st' tm w:=by
 cases x with
 | fz k j=>
  simp only [preOne] at hf
  split at hf
  ·split at hf
   ·exact freeze_good h hf
   ·simp only [Option.some.injEq] at hf;subst hf;exact Good.same h
   ·simp at hf
  ·simp at hf
 | fzv k j=>
  simp only [preOne] at hf
  split at hf
  ·split at hf
   ·rename_i i _ _ _ _
    obtain ⟨ob,ho,rfl⟩:=Option.map_eq_some_iff.1 hf
    refine ⟨_,_,_,_,h.frz ho,Step.refl A w,fun b hb=>.inl hb,fun b hb=>?_⟩
    rcases hb with hb | ⟨p,bk,h1,rfl⟩
    ·exact .inl hb
    ·exact .inr (h.oA _ _ (h.oO _ p bk h1)).1
   ·simp only [Option.some.injEq] at hf;subst hf;exact Good.same h
   ·simp at hf
  ·simp at hf
 | nl k j p=>
  simp only [preOne] at hf
  split at hf
  ·rename_i agg cs hk
   split at hf
   ·rename_i hj
    simp only [Option.some.injEq] at hf
    subst hf
    have h1:=h.newNil p
    refine ⟨F,_,_,Gv,⟨?_,?_,h1.objs,h1.objN,h1.vars,h1.varN,h1.oO,h1.oV,h1.oF,h1.oA,h1.fS,h1.aN,h1.pinned⟩,Step.refl A w,fun _ h=>h,fun _ h=>.inl h⟩
    ·simp [h.size]
    ·intro k' v s e1 e2
     simp only [List.getElem?_set] at e2
     by_cases hkk:k=k'
     ·subst hkk
      have hlt:=(List.getElem?_eq_some_iff.1 hk).1
      simp [hlt] at e2
      subst e2
      have hr:=h1.slots k v _ e1 hk
      cases agg with
      | true=>
       obtain ⟨vs,g1,g2⟩:=hr
       exact ⟨vs,g1,nil_cells (st1:={ st with objs:=st.objs++[some ⟨p,[]⟩] }) g2 hj (nilRef st p)⟩
      | false=>
       obtain ⟨c,g1,g2,g3⟩:=hr
       simp only at g1
       subst g1
       have hj0:j=0:=by
        have:=(List.getElem?_eq_some_iff.1 hj).1
        simp at this
        exact this
       subst hj0
       simp at hj
       subst hj
       simp only [CRel] at g3
       subst g3
       exact ⟨_,rfl,.inl rfl,nilRef (w:=w) (F:=F) (Go:=Go) (Gv:=Gv) st p⟩
     ·rw [if_neg hkk] at e2
      exact h1.slots k' v s e1 e2
   ·simp only [Option.some.injEq] at hf;subst hf;exact Good.same h
   ·simp at hf
  ·simp at hf
 | nlv k j p=>
  simp only [preOne] at hf
  split at hf
  ·rename_i id hk
   split at hf
   ·rename_i cs hcs
    split at hf
    ·rename_i hj
     simp only [Option.some.injEq] at hf
     subst hf
     have h1:=h.newNil p
     have hvar:∀ i cs',St.var { slots:=st.slots,vars:=st.vars.set id (some (cs.set j (.ref st.objs.length [] 0 0))),objs:=st.objs++[some ⟨p,[]⟩] } i=some cs'→(i=id∧cs' = cs.set j (.ref st.objs.length [] 0 0))∨(i≠id∧st.var i=some cs'):=by
      intro i cs' hi
      simp only [var_eq,List.getElem?_set] at hi
      by_cases e:id=i
      ·subst e
       have hlt:id < st.vars.length:=by
        simp only [var_eq] at hcs
        rcases Nat.lt_or_ge id st.vars.length with hl | hl
        ·exact hl
        ·rw [List.getElem?_eq_none hl] at hcs;simp at hcs
       simp [hlt] at hi
       exact .inl ⟨rfl,hi.symm⟩
      ·rw [if_neg e] at hi
       exact .inr ⟨fun e'=>e e'.symm,by simpa only [var_eq] using hi⟩
     have hvar2:∀ i cs',st.var i=some cs'→∃ cs'',St.var { slots:=st.slots,vars:=st.vars.set id (some (cs.set j (.ref st.objs.length [] 0 0))),objs:=st.objs++[some ⟨p,[]⟩] } i=some cs'':=by
      intro i cs' hi
      simp only [var_eq] at hi ⊢
      rw [List.getElem?_set]
      by_cases e:id=i
      ·subst e
       have hlt:id < st.vars.length:=by
        rcases Nat.lt_or_ge id st.vars.length with hl | hl
        ·exact hl
        ·rw [List.getElem?_eq_none hl] at hi;simp at hi
       simp [hlt]
      ·rw [if_neg e]
       exact ⟨cs',hi⟩
     have hext:Ext w w F F (newGo Go [] st.objs.length fun _=>none) (newGo Go [] st.objs.length fun _=>none) Gv Gv { st with objs:=st.objs++[some ⟨p,[]⟩] } { slots:=st.slots,vars:=st.vars.set id (some (cs.set j (.ref st.objs.length [] 0 0))),objs:=st.objs++[some ⟨p,[]⟩] }:=by
      refine ⟨fun b _=>Same.refl w b,fun _ h=>h,by simp,by simp,fun i _ o' ho'=>⟨o',ho',rfl,rfl⟩,fun i _ cs' hi=>⟨(hvar i cs' hi).elim (fun h=>⟨cs,by rw [h.1];exact hcs⟩) (fun h=>⟨cs',h.2⟩),rfl⟩⟩
     refine ⟨F,_,_,Gv,⟨h1.size,?_,h1.objs,h1.objN,?_,?_,h1.oO,h1.oV,h1.oF,h1.oA,h1.fS,h1.aN,h1.pinned⟩,Step.refl A w,fun _ h=>h,fun _ h=>.inl h⟩
     ·intro k' v s e1 e2
      exact SRel.ext hext (h1.slots k' v s e1 e2)
     ·intro i cs' hi
      rcases hvar i cs' hi with ⟨rfl,rfl⟩|⟨hne,hi'⟩
      ·obtain ⟨g,hg,hcells⟩:=h1.vars i cs hcs
       refine ⟨g,hg,fun k' c hc=>?_⟩
       rw [List.getElem?_set] at hc
       by_cases hjk:j=k'
       ·subst hjk
        have hlt:=(List.getElem?_eq_some_iff.1 hj).1
        simp [hlt] at hc
        subst hc
        obtain ⟨u,u1,u2,u3,u4⟩:=hcells j _ hj
        simp only [CRel] at u4
        subst u4
        exact ⟨_,u1,u2,u3,CRel.ext hext (nilRef st p)⟩
       ·rw [if_neg hjk] at hc
        obtain ⟨u,u1,u2,u3,u4⟩:=hcells k' c hc
        exact ⟨u,u1,u2,u3,CRel.ext hext u4⟩
      ·obtain ⟨g,hg,hcells⟩:=h1.vars i cs' hi'
       exact ⟨g,hg,fun k' c hc=>let ⟨u,u1,u2,u3,u4⟩:=hcells k' c hc;⟨u,u1,u2,u3,CRel.ext hext u4⟩⟩
     ·intro i g hg
      obtain ⟨cs',hi⟩:=h1.varN i g hg
      exact hvar2 i cs' hi
    ·simp only [Option.some.injEq] at hf;subst hf;exact Good.same h
    ·simp at hf
   ·simp at hf
  ·simp at hf
 | tk k j=>exact take_good h hf
 | fzi k j c=>
  simp only [preOne] at hf
  split at hf
  ·split at hf
   ·obtain rfl:=Option.some.inj hf;exact frzI_good h _ c
   ·obtain rfl:=Option.some.inj hf;exact Good.same h
  ·obtain rfl:=Option.some.inj hf;exact Good.same h
 | fziv k j c=>
  simp only [preOne] at hf
  split at hf
  ·split at hf
   ·obtain rfl:=Option.some.inj hf;exact frzI_good h _ c
   ·obtain rfl:=Option.some.inj hf;exact Good.same h
  ·obtain rfl:=Option.some.inj hf;exact Good.same h
 | fzc k j c=>
  simp only [preOne] at hf
  split at hf
  ·split at hf
   ·split at hf
    ·exact frzCo_good h hf
    ·obtain rfl:=Option.some.inj hf;exact Good.same h
   ·obtain rfl:=Option.some.inj hf;exact Good.same h
  ·obtain rfl:=Option.some.inj hf;exact Good.same h
 | dd k j=>
  simp only [preOne] at hf
  split at hf
  ·rename_i agg cs hk
   split at hf
   ·rename_i hj;obtain rfl:=Option.some.inj hf;exact dd_good h hk hj (by simp)
   ·rename_i hj;obtain rfl:=Option.some.inj hf;exact dd_good h hk hj (by simp)
   ·obtain rfl:=Option.some.inj hf;exact Good.same h
   ·simp at hf
  ·simp at hf
 | pado n=>
  simp only [preOne,Option.some.injEq] at hf
  subst hf
  have hv:∀ id,St.obj { st with objs:=st.objs++List.replicate n none } id=st.obj id:=by
   intro id
   simp only [obj_eq,List.getElem?_append]
   split
   ·rfl
   ·rename_i hlt
    rw [List.getElem?_eq_none (by omega:st.objs.length≤id),List.getElem?_replicate]
    split <;> rfl
  have hext:Ext w w F F Go Go Gv Gv st { st with objs:=st.objs++List.replicate n none }:=by
   refine ⟨fun b _=>Same.refl w b,fun _ h=>h,by simp,Nat.le_refl _,fun id _ o' h=>?_,fun id _ cs' hcs'=>⟨⟨cs',hcs'⟩,rfl⟩⟩
   rw [hv] at h
   exact ⟨o',h,rfl,rfl⟩
  refine ⟨F,O,Go,Gv,⟨h.size,fun k v s h1 h2=>(h.slots k v s h1 h2).ext hext,?_,?_,?_,h.varN,h.oO,h.oV,h.oF,h.oA,h.fS,h.aN,h.pinned⟩,Step.refl A w,fun _ h=>h,fun _ h=>.inl h⟩
  ·intro id o ho
   rw [hv] at ho
   exact h.objs id o ho
  ·intro id p b hb
   obtain ⟨o,ho⟩:=h.objN id p b hb
   exact ⟨o,by rw [hv];exact ho⟩
  ·intro id cs' hcs'
   obtain ⟨g,h1,h2⟩:=h.vars id cs' hcs'
   exact ⟨g,h1,fun k c hk=>let ⟨u,a1,a2,a3,a4⟩:=h2 k c hk;⟨u,a1,a2,a3,a4.ext hext⟩⟩
 | pad n=>
  simp only [preOne,Option.some.injEq] at hf
  subst hf
  have hv:∀ id,St.var { st with vars:=st.vars++List.replicate n none } id=st.var id:=by
   intro id
   simp only [var_eq,List.getElem?_append]
   split
   ·rfl
   ·rename_i hlt
    rw [List.getElem?_eq_none (by omega:st.vars.length≤id),List.getElem?_replicate]
    split <;> rfl
  have hext:Ext w w F F Go Go Gv Gv st { st with vars:=st.vars++List.replicate n none }:=by
   refine ⟨fun b _=>Same.refl w b,fun _ h=>h,Nat.le_refl _,by simp,fun id _ o' h=>⟨o',h,rfl,rfl⟩,fun id _ cs' hcs'=>?_⟩
   rw [hv] at hcs'
   exact ⟨⟨cs',hcs'⟩,rfl⟩
  refine ⟨F,O,Go,Gv,⟨h.size,fun k v s h1 h2=>(h.slots k v s h1 h2).ext hext,h.objs,h.objN,?_,?_,h.oO,h.oV,h.oF,h.oA,h.fS,h.aN,h.pinned⟩,Step.refl A w,fun _ h=>h,fun _ h=>.inl h⟩
  ·intro id cs' hcs'
   rw [hv] at hcs'
   obtain ⟨g,h1,h2⟩:=h.vars id cs' hcs'
   exact ⟨g,h1,fun k c hk=>let ⟨u,a1,a2,a3,a4⟩:=h2 k c hk;⟨u,a1,a2,a3,a4.ext hext⟩⟩
  ·intro id g hg
   obtain ⟨cs',h1⟩:=h.varN id g hg
   exact ⟨cs',by rw [hv];exact h1⟩
theorem preAll_good:∀ (l:List Pre) {F:Nat→Prop} {O:Nat→Option Ow} {Go:Nat→Gh} {Gv:Nat→Option Nat} {st st' : St},Rel A pin w F O Go Gv st tm→preAll st l=some st'→Good A pin w F st' tm w
 | [],F,O,Go,Gv,st,st',h,hf=>by simp [preAll] at hf;subst hf;exact Good.same h
 | x::l,F,O,Go,Gv,st,st',h,hf=>by
  simp only [preAll] at hf
  split at hf
  ·rename_i st1 h1
   exact (pre_good h h1).trans fun F1 O1 Go1 Gv1 hr=>preAll_good l hr hf
  ·simp at hf
theorem uniq_nodup:∀ (l:List Nat),(uniq l).Nodup
 | []=>List.nodup_nil
 | y::l=>by
  simp only [uniq,List.nodup_cons,List.mem_filter]
  refine ⟨by simp,(uniq_nodup l).filter _⟩
def renG (Go:Nat→Gh) (om:List Nat) (n:Nat):Gh:=
 match om[n]? with
 | some id=>Go id
 | none=>fun _=>none
def renV (Gv:Nat→Option Nat) (vm:List Nat) (n:Nat):Option Nat:=(vm[n]?).bind Gv
def renO (O:Nat→Option Ow) (om vm:List Nat) (b:Nat):Option Ow:=
 match O b with
 | some (.obj id p)=>if id ∈ om then some (.obj (om.idxOf id) p) else none
 | some (.var id)=>if id ∈ vm then some (.var (vm.idxOf id)) else none
 | none=>none
theorem idx_get {l:List Nat} {x:Nat} (h:x ∈ l):l[l.idxOf x]? = some x:=by
 have hl:=List.idxOf_lt_length_iff.2 h
 rw [List.getElem?_eq_getElem hl,List.getElem_idxOf]
theorem ren_obj (sl:List SV) (om vm:List Nat) (n:Nat):(st.ren sl om vm).obj n=(om[n]?).bind st.obj:=by
 simp only [obj_eq,St.ren,List.getElem?_map]
 cases om[n]? with
 | none=>rfl
 | some id=>simp [obj_eq]
theorem ren_var (sl:List SV) (om vm:List Nat) (n:Nat):(st.ren sl om vm).var n=((vm[n]?).bind st.var).map (List.map (renC om vm)):=by
 simp only [var_eq,St.ren,List.getElem?_map]
 cases vm[n]? with
 | none=>rfl
 | some id=>simp only [Option.map_some,Option.bind_some,←var_eq]
theorem CRel.ren (sl:List SV) (om vm:List Nat) {v:Value} {c:C} (hc:CRel w F Go Gv st v c):CRel w F (renG Go om) (renV Gv vm) (st.ren sl om vm) v (renC om vm c):=by
 have hsl:(st.ren sl om vm).objs.length=om.length:=by simp [St.ren]
 have hvl:(st.ren sl om vm).vars.length=vm.length:=by simp [St.ren]
 have hV:∀ {id j v},id ∈ vm→VRel st Gv id j v→VRel (st.ren sl om vm) (renV Gv vm) (vm.idxOf id) j v:=by
  intro id j v hid hv
  refine ⟨by rw [hvl];exact List.idxOf_lt_length_iff.2 hid,fun cs hcs=>?_⟩
  rw [ren_var,idx_get hid,Option.map_eq_some_iff] at hcs
  obtain ⟨cs',h1,_⟩:=hcs
  obtain ⟨g,h2,h3⟩:=hv.2 cs' h1
  exact ⟨g,by simp [renV,idx_get hid,h2],h3⟩
 cases c with
 | lit x=>exact hc
 | ro p es=>exact hc
 | ref id p off len=>
  simp only [renC]
  split
  ·rename_i hid
   have hid' : id ∈ om:=by simpa using hid
   refine ⟨by rw [hsl];exact List.idxOf_lt_length_iff.2 hid',fun o ho=>?_⟩
   rw [ren_obj,idx_get hid'] at ho
   simp only [renG,idx_get hid']
   exact hc.2 o ho
  ·trivial
 | ptr id p a b=>
  simp only [renC]
  split
  ·rename_i hid
   have hid' : id ∈ om:=by simpa using hid
   refine ⟨by rw [hsl];exact List.idxOf_lt_length_iff.2 hid',fun o ho=>?_⟩
   rw [ren_obj,idx_get hid'] at ho
   simp only [renG,idx_get hid']
   exact hc.2 o ho
  ·trivial
 | rptr p cs=>exact hc
 | vptr id j=>
  simp only [renC]
  split
  ·rename_i hid
   exact hV (by simpa using hid) hc
  ·trivial
 | clo f cap=>
  simp only [renC]
  split
  ·rename_i hid
   obtain ⟨vs,e1,e2,e3⟩:=hc
   refine ⟨vs,e1,by simp [e2],fun k u id h1 h2=>?_⟩
   simp only [List.getElem?_map,Option.map_eq_some_iff] at h2
   obtain ⟨id',h3,rfl⟩:=h2
   simp only [List.all_eq_true] at hid
   have:=hid id' (List.mem_of_getElem? h3)
   exact hV (by simpa using this) (e3 k u id' h1 h3)
  ·trivial
 | dead=>trivial
theorem Rel.ren (h:Rel A pin w F O Go Gv st tm) {sl:List SV} (hlen:sl.length=st.slots.length) (hsl:∀ (k:Nat) (s:SV),sl[k]? = some s→s=.any∨st.slots[k]? = some s) {om vm:List Nat} (hon:om.Nodup) (hvn:vm.Nodup) :
  Rel A pin w F (renO O om vm) (renG Go om) (renV Gv vm) (st.ren sl om vm) tm where
 size:=by simp [St.ren,h.size,hlen]
 slots:=by
  intro k v s h1 h2
  simp only [St.ren,List.getElem?_map,Option.map_eq_some_iff] at h2
  obtain ⟨s',h3,rfl⟩:=h2
  rcases hsl k s' h3 with rfl | h4
  ·trivial
  ·exact SRel.map (fun v c hc=>CRel.ren sl om vm hc) rfl (h.slots k v s' h1 h4)
 objs:=by
  intro n ob hob
  rw [ren_obj,Option.bind_eq_some_iff] at hob
  obtain ⟨id,h1,h2⟩:=hob
  obtain ⟨v,hv⟩:=h.objs id ob h2
  exact ⟨v,hv.keep (fun b _=>Same.refl w b) (fun b hb=>hb) (fun r=>by simp [renG,h1]) (fun _ _ _=>Same.refl w _)⟩
 objN:=by
  intro n p b hb
  cases h1:om[n]? with
  | none=>simp [renG,h1] at hb
  | some id=>
   simp only [renG,h1] at hb
   obtain ⟨o',ho'⟩:=h.objN id p b hb
   exact ⟨o',by rw [ren_obj,h1];exact ho'⟩
 vars:=by
  intro n cs hcs
  rw [ren_var,Option.map_eq_some_iff] at hcs
  obtain ⟨cs',h1,rfl⟩:=hcs
  rw [Option.bind_eq_some_iff] at h1
  obtain ⟨id,h1,h2⟩:=h1
  obtain ⟨g,hg,hk⟩:=h.vars id cs' h2
  refine ⟨g,by simp [renV,h1,hg],fun k c hc=>?_⟩
  simp only [List.getElem?_map,Option.map_eq_some_iff] at hc
  obtain ⟨c',h3,rfl⟩:=hc
  obtain ⟨u,a1,a2,a3,a4⟩:=hk k c' h3
  exact ⟨u,a1,a2,a3,CRel.ren sl om vm a4⟩
 varN:=by
  intro n g hg
  simp only [renV,Option.bind_eq_some_iff] at hg
  obtain ⟨id,h1,h2⟩:=hg
  obtain ⟨cs,hcs⟩:=h.varN id g h2
  exact ⟨cs.map (renC om vm),by rw [ren_var,h1];simp [hcs]⟩
 oO:=by
  intro n p b hb
  cases h1:om[n]? with
  | none=>simp [renG,h1] at hb
  | some id=>
   simp only [renG,h1] at hb
   have hn:n < om.length:=(List.getElem?_eq_some_iff.1 h1).1
   have hid:om[n]=id:=(List.getElem?_eq_some_iff.1 h1).2
   have hm:id ∈ om:=by rw [←hid];exact List.getElem_mem hn
   have:om.idxOf id=n:=by rw [←hid];exact hon.idxOf_getElem n hn
   simp only [renO,h.oO id p b hb,hm,if_true,this]
 oV:=by
  intro n g hg
  simp only [renV,Option.bind_eq_some_iff] at hg
  obtain ⟨id,h1,h2⟩:=hg
  have hn:n < vm.length:=(List.getElem?_eq_some_iff.1 h1).1
  have hid:vm[n]=id:=(List.getElem?_eq_some_iff.1 h1).2
  have hm:id ∈ vm:=by rw [←hid];exact List.getElem_mem hn
  have:vm.idxOf id=n:=by rw [←hid];exact hvn.idxOf_getElem n hn
  simp only [renO,h.oV id g h2,hm,if_true,this]
 oF:=by
  intro b hb
  simp only [renO,h.oF b hb]
 oA:=by
  intro b x hx
  simp only [renO] at hx
  split at hx
  ·rename_i id p hO
   exact h.oA b _ hO
  ·rename_i id hO
   exact h.oA b _ hO
  ·simp at hx
 fS:=h.fS
 aN:=h.aN
 pinned:=h.pinned
theorem sweep_good (h:Rel A pin w F O Go Gv st tm) (keep:List Nat):Good A pin w F (st.sweep keep) tm w:=by
 refine Good.same (h.ren ?_ ?_ (uniq_nodup _) (uniq_nodup _))
 ·simp
 ·intro k s hs
  simp only [List.getElem?_map,Option.map_eq_some_iff] at hs
  obtain ⟨⟨x,n⟩,h1,rfl⟩:=hs
  rw [List.getElem?_zipIdx] at h1
  simp only [Option.map_eq_some_iff] at h1
  obtain ⟨y,h2,h3⟩:=h1
  simp at h3
  obtain ⟨rfl,rfl⟩:=h3
  simp only
  split
  ·exact .inr h2
  ·exact .inl rfl
end
end Go.Proofs.V

namespace Go.Proofs.V
open Go
variable {P:Program}
section
variable {A:Nat→Prop} {pin:List (Nat×Value)} {w w' : World} {F:Nat→Prop} {O:Nat→Option Ow} {Go:Nat→Gh} {Gv:Nat→Option Nat} {st:St} {tm:Array Value}
theorem Own.sub1 (hF:∀ b,F b→Same w w' b) {G:Gh} {ot0 p:List OT} {es0 es:List (List T)} {v:Value} {r c:Nat} (h:Own w F G (.own ot0) v (.sl es0)) (h1:ot0[c]? = some (.own p)) (h2:(es0[r]?).bind (·[c]?)=some (.sl es))
  (hs:∀ q b,G q=some b→¬ [(r,c)] <+: q→Same w w' b.g) (hx:∀ v',Own w F (fun rr=>G ((r,c)::rr)) (.own p) v' (.sl es)→Own w' F (fun rr=>G ((r,c)::rr)) (.own p) v' (.sl es)):Own w' F G (.own ot0) v (.sl es0):=by
 cases h with
 | nil _=>simp at h2
 | sl us hG hcap hm hrow hc hf hcell hsub=>
  have h0:=hs [] _ hG (by simp)
  refine .sl us hG hcap hm hrow (fun k hk=>let ⟨u,hu⟩:=hc k hk;⟨u,(h0 k).1.trans hu⟩) (fun k hk=>((h0 k).2 (hc k hk)).trans (hf k hk)) (fun i j hi hj=>(h0 _).1.trans (hcell i j hi hj)) ?_
  intro i j row x q e1 e2 e3
  have hij:=hsub i j row x q e1 e2 e3
  by_cases hr:i=r∧j=c
  ·obtain ⟨rfl,rfl⟩:=hr
   rw [h1] at e3
   obtain rfl:=Option.some.inj e3
   simp only [e1,Option.bind_some] at h2
   rw [e2] at h2
   obtain rfl:=Option.some.inj h2
   exact hx _ hij
  ·refine hij.keep hF (fun _ h=>h) (fun _=>rfl) (fun rr b hb=>hs _ b hb ?_)
   rintro ⟨t,ht⟩
   simp only [List.singleton_append,List.cons.injEq,Prod.mk.injEq] at ht
   exact hr ⟨ht.1.1.symm,ht.1.2.symm⟩
theorem Own.toRd {G:Gh} {q:OT} {u:Value} {x:T} (h:Own w F G q u x) (hq:q=.sc∨∃ q',q=.ro q'):Rd w F q u x:=by
 rcases hq with rfl | ⟨q',rfl⟩
 ·cases h with
  | sc h=>exact .sc h
 ·cases h with
  | ro h=>exact h
theorem newRo (h:Rel A pin w F O Go Gv st tm) {p:List OT} {all:List (List T)} {e:TypeId} {cells:Array Value} (us:Nat→Nat→Value) {cap:Nat} (hcap:all.length≤cap) (hm:cap≤maxLen)
  (hrow:∀ (i:Nat) (row:List T),all[i]? = some row→row.length=p.length) (hcell:∀ i j,i < all.length→j < p.length→cells[i*p.length+j]? = some (us i j))
  (hsub:∀ (i j:Nat) (row:List T) (x:T) (q:OT),all[i]? = some row→row[j]? = some x→p[j]? = some q→Rd w F q (us i j) x) {d:Nat} (hd:∀ x,(d,x) ∉ pin) :
  Good A pin w F (st.set d (.v false [.ro p all])) (tm.setIfInBounds d (.slice (some ⟨w.heap.size,0,none⟩) all.length cap)) (w.drew.alloc (.cells cells e)):=by
 have hfree:=h.free (Nat.le_refl w.heap.size)
 have hsame:∀ b,F b→Same w (w.drew.alloc (.cells cells e)) b:=fun b hb=>(Same.drew w b).trans (Same.alloc (w:=w.drew) _ (h.fS b hb))
 have hR:=((h.drew).alloc (.cells cells e)).addF (g:=w.heap.size) hfree.1 (by
  have:w.drew.heap.size=w.heap.size:=rfl
  simp [this])
 have hcl:∀ o,(w.drew.alloc (.cells cells e)).cell? ⟨w.heap.size,o,none⟩=cells[o]?:=fun o=>cell_alloc_new w.drew cells e o
 have hrd:Rd (w.drew.alloc (.cells cells e)) (fun b=>F b∨b=w.heap.size) (.ro p) (.slice (some ⟨w.heap.size,0,none⟩) all.length cap) (.sl all):=
  .sl us (.inr rfl) hcap hm hrow (fun i j hi hj=>by rw [hcl,Nat.zero_add];exact hcell i j hi hj) (fun i j row x q h1 h2 h3=>(hsub i j row x q h1 h2 h3).keep hsame (fun _ h=>.inl h))
 have:=hR.put (d:=d) (s:=.v false [.ro p all]) (v:=.slice (some ⟨w.heap.size,0,none⟩) all.length cap) ⟨_,rfl,.inl rfl,hrd⟩ hd
 exact ⟨_,O,Go,Gv,this,(Step.drew A w).trans (Step.alloc A w.drew _),fun b hb=>.inl hb,fun b hb=>by
  rcases hb with hb | rfl
  ·exact .inl hb
  ·exact .inr hfree.2.2⟩
theorem Rel.behind (h:Rel A pin w F O Go Gv st tm) {id r c:Nat} {o:Ob} {p:List OT} {es:List (List T)} (ho:st.obj id=some o) (h1:o.ot[c]? = some (.own p)) (h2:(o.es[r]?).bind (·[c]?)=some (.sl es))
  {g cap k0:Nat} {vs:List Value} (hG:Go id [(r,c)]=some ⟨g,cap⟩) (hk0:es.length*p.length≤k0) (hk1:k0+vs.length≤cap*p.length) (hsc:∀ (j:Nat) (q:OT),p[j]? = some q→q=.sc∨∃ q',q=.ro q') :
  Rel A pin (w.setCells g k0 vs) F O Go Gv st tm:=by
 have hOg:=h.oO _ _ _ hG
 simp only at hOg
 have hA:=(h.oA _ _ hOg).1
 have hstep:=Step.setCells (A:=A) hA vs k0 w
 have hsame:∀ b,b≠g→Same w (w.setCells g k0 vs) b:=fun b hb=>Same.setCells g hb _ _ _
 have hF:∀ b,F b→Same w (w.setCells g k0 vs) b:=fun b hb=>hsame b (fun e=>by subst e;have:=h.oF _ hb;rw [hOg] at this;simp at this)
 have hext:Ext w (w.setCells g k0 vs) F F Go Go Gv Gv st st:=⟨hF,fun _ h=>h,Nat.le_refl _,Nat.le_refl _,fun id _ o' h=>⟨o',h,rfl,rfl⟩,fun id _ cs h=>⟨⟨cs,h⟩,rfl⟩⟩
 refine ⟨h.size,fun k v s h1 h2=>(h.slots k v s h1 h2).ext hext,?_,h.objN,?_,h.varN,h.oO,h.oV,h.oF,fun b x hx=>⟨(h.oA b x hx).1,Nat.lt_of_lt_of_le (h.oA b x hx).2 hstep.size⟩,
  fun b hb=>Nat.lt_of_lt_of_le (h.fS b hb) hstep.size,fun b hb=>h.aN b (Nat.le_trans hstep.size hb),h.pinned⟩
 ·intro id' o' ho'
  obtain ⟨v,hv⟩:=h.objs id' o' ho'
  by_cases hid:id' = id
  ·subst hid
   rw [ho] at ho'
   obtain rfl:=Option.some.inj ho'
   refine ⟨v,hv.sub1 hF h1 h2 (fun q b hb hn=>hsame _ fun e=>hn ?_) fun v' hx=>?_⟩
   ·have:=(h.inj hb hG e).2
    rw [this]
    exact List.prefix_refl _
   ·generalize ht:T.sl es=t at hx
    cases hx with
    | nil hG0=>change Go id' [(r,c)]=none at hG0;rw [hG] at hG0;simp at hG0
    | sl us hG0 hcap hm hrow hcc hf hcell hsub=>
     simp only [T.sl.injEq] at ht
     subst ht
     change Go id' [(r,c)]=_ at hG0
     rw [hG] at hG0
     simp only [Option.some.injEq,Bk.mk.injEq] at hG0
     obtain ⟨rfl,rfl⟩:=hG0
     have hc1:∀ k,k < vs.length→(w.cell? ⟨g,k0+k,none⟩).isSome=true:=by
      intro k hk
      obtain ⟨u,hu⟩:=hcc (k0+k) (by omega)
      rw [hu];rfl
     refine .sl us hG hcap hm hrow (fun k hk=>?_) (fun k hk=>by rw [World.frozen?_setCells];exact hf k hk) (fun i j hi hj=>?_) (fun i j row x q e1 e2 e3=>?_)
     ·by_cases hin:k < k0∨k0+vs.length≤k
      ·rw [World.cell?_setCells_out g _ _ w _ (fun _ _=>hin)];exact hcc k hk
      ·have h3:k - k0 < vs.length:=by omega
       have:=World.cell?_setCells_in g vs k0 w hc1 (k - k0) h3
       rw [show k0+(k - k0)=k by omega] at this
       exact ⟨_,this⟩
     ·have:i*p.length+j < es.length*p.length:=idx_lt hi hj
      rw [World.cell?_setCells_out g _ _ w _ (fun _ _=>.inl (by simp only;omega))]
      exact hcell i j hi hj
     ·exact ((hsub i j row x q e1 e2 e3).toRd (hsc j q e3)).keep hF (fun _ h=>h) |>.own (fun p' e=>by rcases hsc j q e3 with e' | ⟨_,e'⟩ <;> rw [e] at e' <;> simp at e') _
  ·exact ⟨v,hv.keep hF (fun _ h=>h) (fun _=>rfl) (fun q b hb=>hsame _ fun e=>hid (h.inj hb hG e).1)⟩
 ·intro id' cs hcs
  obtain ⟨g',e1,e2⟩:=h.vars id' cs hcs
  refine ⟨g',e1,fun k x hk=>?_⟩
  obtain ⟨u,h3,h4,h5,h6⟩:=e2 k x hk
  have hs:=hsame g' (fun e=>by have:=h.oV _ _ e1;rw [e,hOg] at this;simp at this)
  exact ⟨u,(hs _).1.trans h3,((hs _).2 ⟨u,h3⟩).trans h4,h5,h6.ext hext⟩
theorem sound_appr (h:Rel A pin w F O Go Gv st tm) (ds:List Deferred) {t tx ty e e' : TypeId} {p:List OT} {zero:List Value} {lim:Nat} (ht:P.underlying t=some (.slice e)) (hx:P.underlying tx=some (.slice e')) (he:elemIs P e zero lim=true) (hz:zero.length=p.length)
  {x y:Opd} {x' y' : Operand} (hxx:opdIs x x' = true) (hyy:opdIs y y' = true) {d:Nat} {st' : St} (hv:vappr st d x y p lim=some st') (hd:∀ x,(d,x) ∉ pin) :
  ∃ v w',(Builtin.append_ #[t,tx] ty #[(Act.mk tm ds).eval x',(Act.mk tm ds).eval y']).run P w=.ok v w'∧Good A pin w F st' (tm.setIfInBounds d v) w':=by
 obtain ⟨i,z,h3,h4,h5,h6,h7,h8,h9⟩:=elemIs_some he
 have hsz:i.size=p.length:=by rw [h6,hz]
 have hp0:0 < p.length:=by rw [←hz];exact h7
 unfold vappr at hv
 split at hv
 ·rename_i id r c len cy hcx hcy
  have hrx:=(h.cell hxx hcx ds).1
  have hry:=(h.cell hyy hcy ds).1
  generalize (Act.mk tm ds).eval x' = vx at hrx ⊢
  generalize (Act.mk tm ds).eval y' = yv at hry ⊢
  split at hv
  ·rename_i rows o hrows ho
   obtain ⟨⟨uv,hsrc,hrow,hsub⟩,_⟩:=h.srcs (P:=P) hp0 hrows hry hx
   split at hv
   ·rename_i ot es hs
    split at hv
    ·rename_i hcond
     simp only [Bool.and_eq_true,decide_eq_true_eq] at hcond
     obtain ⟨⟨hb1,hb2⟩,hl,hlim⟩:=hcond
     obtain rfl:=OT.beqs_eq _ _ hb1
     have hlend:OT.lends p=p:=(OT.beqs_eq _ _ hb2).symm
     have hscr:∀ (j:Nat) (q:OT),p[j]? = some q→q=.sc∨∃ q',q=.ro q':=fun j q hq=>sc_ro_of_lends hb2 hq
     have hown:=ref_own h ho hrx hs hl
     obtain ⟨hq,hes⟩:o.ot[c]? = some (.own p)∧(o.es[r]?).bind (·[c]?)=some (.sl es):=by
      simp only [subEs] at hs
      split at hs
      ·rename_i a b
       simp only [Option.some.injEq,Prod.mk.injEq] at hs
       obtain ⟨rfl,rfl⟩:=hs
       exact ⟨a,b⟩
      ·simp at hs
     have hst:st' = (fzT st id c o p).set d (.v false [.ro p (es++rows)]):=by
      simp only [St.frzCo,ho,hq,Option.map_some,Option.some.injEq] at hv
      rw [←hv]
      rfl
     subst hst
     have hnew:∀ (i j:Nat) (row:List T) (x:T) (q:OT),rows[i]? = some row→row[j]? = some x→p[j]? = some q→Rd w F q (uv i j) x:=fun i j row x q e1 e2 e3=>(hsub i j row x q e1 e2 e3).toRd (hscr j q e3)
     have hF1:∀ b,F b→fzF F Go id c b:=fun b hb=>.inl hb
     have hfz:=h.fzc ho hq
     have hback:∀ b,fzF F Go id c b→F b∨A b:=fun b hb=>by
      rcases hb with hb | ⟨pp,bk,e1,_,rfl⟩
      ·exact .inl hb
      ·exact .inr (h.oA _ _ (h.oO _ pp bk e1)).1
     rw [←hsz] at hsrc
     have hbytes:(len+rows.length)*i.bytes≤140737488355328:=by
      have:(len+rows.length)*i.bytes≤lim*i.bytes:=Nat.mul_le_mul_right _ hlim
      omega
     have grow:∀ (olds:List Value) (us0:Nat→Nat→Value),olds.length=es.length*p.length→(∀ i j,i < es.length→j < p.length→olds[i*p.length+j]? = some (us0 i j))→
       (∀ (i:Nat) (row:List T),es[i]? = some row→row.length=p.length)→
       (∀ (i j:Nat) (row:List T) (x:T) (q:OT),es[i]? = some row→row[j]? = some x→p[j]? = some q→Rd w F q (us0 i j) x)→∀ ncap,len+rows.length≤ncap→ncap≤maxLen→∀ rest:Array Value,
       Good A pin w F ((fzT st id c o p).set d (.v false [.ro p (es++rows)])) (tm.setIfInBounds d (.slice (some ⟨w.heap.size,0,none⟩) (len+rows.length) ncap)) (w.drew.alloc (.cells ((olds++flatV rows.length p.length uv).toArray++rest) e)):=by
      intro olds us0 ho1 ho2 ho3 ho4 ncap hn1 hn2 rest
      have hlen1:(olds++flatV rows.length p.length uv).length=(es.length+rows.length)*p.length:=by rw [List.length_append,ho1,flatV_length,Nat.add_mul]
      obtain ⟨F',O',Go',Gv',g1,g2,g3,g4⟩:=newRo hfz (p:=p) (all:=es++rows) (e:=e) (cells:=(olds++flatV rows.length p.length uv).toArray++rest) (fun i j=>if i < es.length then us0 i j else uv (i - es.length) j) (cap:=ncap) (by simp;omega) hn2
       (fun i row hr=>by
        rw [append_get] at hr
        split at hr
        ·exact ho3 i row hr
        ·exact hrow _ row hr)
       (fun i j hi hj=>by
        simp only [List.length_append] at hi
        rw [arr_get (by rw [hlen1];exact idx_lt hi hj),append_get,ho1]
        by_cases hil:i < es.length
        ·simp only [idx_lt hil hj,hil,if_true]
         exact ho2 i j hil hj
        ·have h1 : ¬ i*p.length+j < es.length*p.length:=by
          have:es.length*p.length≤i*p.length:=Nat.mul_le_mul_right _ (by omega)
          omega
         simp only [h1,hil,if_false]
         have h2:i*p.length+j - es.length*p.length=(i - es.length)*p.length+j:=by
          have:es.length*p.length≤i*p.length:=Nat.mul_le_mul_right _ (by omega)
          rw [Nat.sub_mul]
          omega
         rw [h2]
         exact flatV_get (by omega) hj)
       (fun i j row x q e1 e2 e3=>by
        rw [append_get] at e1
        split at e1
        ·rename_i hil
         simp only [hil,if_true]
         exact (ho4 i j row x q e1 e2 e3).keep (fun b _=>Same.refl w b) hF1
        ·rename_i hil
         simp only [hil,if_false]
         exact (hnew _ j row x q e1 e2 e3).keep (fun b _=>Same.refl w b) hF1) hd
      have e4:(es++rows).length=len+rows.length:=by rw [List.length_append,hl]
      rw [e4] at g1
      exact ⟨F',O',Go',Gv',g1,g2,fun b hb=>g3 b (hF1 b hb),fun b hb=>(g4 b hb).elim (hback b) .inr⟩
     generalize htt:T.sl es=tt at hown
     cases hown with
     | nil hG0=>
      simp only [T.sl.injEq] at htt
      subst htt
      simp only [List.length_nil] at hl
      subst hl
      by_cases h0:rows.length=0
      ·have hr:rows=[]:=List.eq_nil_of_length_eq_zero h0
       subst hr
       refine ⟨_,_,run_append_nothing w t tx ty e i ht h3 none 0 0 (Nat.le_refl _) yv (by simpa [flatV] using hsrc),?_⟩
       have:=hfz.put (d:=d) (s:=.v false [.ro p []]) (v:=.slice none 0 0) ⟨_,rfl,.inl rfl,.emp (by simp)⟩ hd
       exact ⟨_,_,_,_,this,Step.refl A w,hF1,hback⟩
      ·have hg:=run_append_grow_src w t tx ty e i z ht h3 h4 none 0 0 [] (by simp [Builtin.firstCells]) yv rows.length _ hsrc (by omega) (by omega) (growslice_fits (by omega) (by omega))
       refine ⟨_,_,hg,?_⟩
       have:=grow [] (fun _ _=>undef) (by simp) (by simp) (by simp) (by simp) (grownCap w (0+rows.length) 0 e) (grownCap_ge w (0+rows.length) 0 e) (grownCap_le_maxLen w (0+rows.length) 0 e (by simp only [maxLen];omega)) (Builtin.zeroCells z.cells (grownCap w (0+rows.length) 0 e - (0+rows.length)))
       simpa [hsz] using this
     | @sl G p' g cap es' us hG hcap hm hrow0 hcc hf hcell0 hsubs=>
      simp only [T.sl.injEq] at htt
      subst htt
      subst hl
      change Go id [(r,c)]=_ at hG
      have hG':=hG
      by_cases hroom:es.length+rows.length≤cap
      ·have hin:∀ k,k < (flatV rows.length p.length uv).length→0+es.length*p.length+k < cap*p.length:=by
        intro k hk
        rw [flatV_length] at hk
        have:(es.length+rows.length)*p.length≤cap*p.length:=Nat.mul_le_mul_right _ hroom
        rw [Nat.add_mul] at this
        omega
       have hc1:∀ k,k < (flatV rows.length p.length uv).length→(w.cell? ⟨g,0+es.length*p.length+k,none⟩).isSome=true:=by
        intro k hk
        obtain ⟨u,hu⟩:=hcc _ (hin k hk)
        rw [hu];rfl
       have hf1:∀ k,k < (flatV rows.length p.length uv).length→w.frozen? ⟨g,0+es.length*p.length+k,none⟩=false:=fun k hk=>hf _ (hin k hk)
       have hrun:=run_append_room_src w t tx ty e i ht h3 g 0 es.length cap yv rows.length _ hsrc hroom (by rw [hsz];exact hc1) (by rw [hsz];exact hf1)
       refine ⟨_,_,hrun,?_⟩
       rw [hsz]
       have hOg:=h.oO _ _ _ hG'
       simp only at hOg
       have hA:=(h.oA _ _ hOg).1
       have hFs:∀ b,F b→Same w (w.setCells g (0+es.length*p.length) (flatV rows.length p.length uv)) b:=fun b hb=>Same.setCells g (fun e=>by subst e;have:=h.oF _ hb;rw [hOg] at this;simp at this) _ _ _
       have hR:=(h.behind ho hq hes hG' (k0:=0+es.length*p.length) (vs:=flatV rows.length p.length uv) (by omega) (by
        rw [flatV_length]
        have:(es.length+rows.length)*p.length≤cap*p.length:=Nat.mul_le_mul_right _ hroom
        rw [Nat.add_mul] at this
        omega) hscr).fzc ho hq
       have hrd:Rd (w.setCells g (0+es.length*p.length) (flatV rows.length p.length uv)) (fzF F Go id c) (.ro p) (.slice (some ⟨g,0,none⟩) (es++rows).length cap) (.sl (es++rows)):=by
        refine .sl (fun i j=>if i < es.length then us i j else uv (i - es.length) j) (.inr ⟨[(r,c)],⟨g,cap⟩,hG',by simp [isC],rfl⟩) (by simp;omega) hm (fun i row hr=>?_) (fun i j hi hj=>?_) (fun i j row x q e1 e2 e3=>?_)
        ·rw [append_get] at hr
         split at hr
         ·exact hrow0 i row hr
         ·exact hrow _ row hr
        ·simp only [List.length_append] at hi
         by_cases hil:i < es.length
         ·simp only [hil,if_true]
          rw [World.cell?_setCells_out g _ _ w _ (fun _ _=>.inl (by have:=idx_lt hil hj;simp only;omega)),Nat.zero_add]
          exact hcell0 i j hil hj
         ·simp only [hil,if_false]
          have h2:0+i*p.length+j=0+es.length*p.length+((i - es.length)*p.length+j):=by
           have:es.length*p.length≤i*p.length:=Nat.mul_le_mul_right _ (by omega)
           rw [Nat.sub_mul]
           omega
          have hk:=flatV_get (us:=uv) (show i - es.length < rows.length by omega) hj
          have hkl:=(List.getElem?_eq_some_iff.1 hk).1
          rw [h2,World.cell?_setCells_in g (flatV rows.length p.length uv) (0+es.length*p.length) w hc1 _ hkl,←List.getElem?_eq_getElem hkl]
          exact hk
        ·rw [append_get] at e1
         split at e1
         ·rename_i hil
          simp only [hil,if_true]
          exact ((hsubs i j row x q e1 e2 e3).toRd (hscr j q e3)).keep hFs hF1
         ·rename_i hil
          simp only [hil,if_false]
          exact (hnew _ j row x q e1 e2 e3).keep hFs hF1
       have:=hR.put (d:=d) (s:=.v false [.ro p (es++rows)]) (v:=.slice (some ⟨g,0,none⟩) (es++rows).length cap) ⟨_,rfl,.inl rfl,hrd⟩ hd
       rw [List.length_append] at this
       exact ⟨_,_,_,_,this,Step.setCells hA _ _ w,hF1,hback⟩
      ·have hold:(Builtin.firstCells i.size es.length (.slice (some ⟨g,0,none⟩) es.length cap)).run P w.drew=.ok (flatV es.length p.length us).toArray w.drew:=by
        refine run_firstCells_some (P:=P) w.drew i.size es.length ⟨g,0,none⟩ es.length cap _ (by rw [flatV_length,hsz]) (fun k u hk=>?_)
        obtain ⟨a,b,ha,hb,rfl,rfl⟩:=flatV_some hk
        rw [addr_add,Nat.zero_add]
        exact hcell0 a b (by omega) hb
       have hg:=run_append_grow_src w t tx ty e i z ht h3 h4 (some ⟨g,0,none⟩) es.length cap _ hold yv rows.length _ hsrc (by omega) (by omega) (growslice_fits (by omega) hbytes)
       refine ⟨_,_,hg,?_⟩
       have:=grow (flatV es.length p.length us) us (flatV_length _ _ _) (fun a b ha hb=>flatV_get ha hb) hrow0 (fun i j row x q e1 e2 e3=>(hsubs i j row x q e1 e2 e3).toRd (hscr j q e3)) (grownCap w (es.length+rows.length) cap e) (grownCap_ge w _ cap e) (grownCap_le_maxLen w _ cap e (by simp only [maxLen];omega)) (Builtin.zeroCells z.cells (grownCap w (es.length+rows.length) cap e - (es.length+rows.length)))
       rw [hsz]
       exact this
    ·simp at hv
   ·simp at hv
  ·simp at hv
 ·simp at hv
end
end Go.Proofs.V
