import Derived.Test.YtejakgejjjncbaaFnRoomyV1
import Derived.Laws.StructEq
import Derived.Orders
import Derived.ChangeArms
import Derived.OpenShut
import Derived.Deep.Slices
import Derived.DataReads
import Derived.Below
import Derived.WideShapes
set_option linter.unusedSimpArgs false
set_option linter.unusedVariables false
namespace Go.Proofs.V
open Go
variable {P:Program}
def elemOk (P:Program) (e:TypeId) (n:Nat):Bool:=
 match P.info? e with
 | some i=>
  match i.zero with
  | some z=>z.cells.size==n&&elemIs P e z.cells.toList 0
  | none=>false
 | none=>false
theorem elemOk_some {e:TypeId} {n:Nat} (h:elemOk P e n=true):∃ zero,elemIs P e zero 0=true∧zero.length=n:=by
 unfold elemOk at h
 split at h
 ·split at h
  ·rename_i z _
   simp at h
   exact ⟨z.cells.toList,h.2,by simpa using h.1⟩
  ·simp at h
 ·simp at h
def elemLim (P:Program) (e:TypeId) (n lim:Nat):Bool:=
 match P.info? e with
 | some i=>
  match i.zero with
  | some z=>z.cells.size==n&&elemIs P e z.cells.toList lim
  | none=>false
 | none=>false
theorem elemLim_some {e:TypeId} {n lim:Nat} (h:elemLim P e n lim=true):∃ zero,elemIs P e zero lim=true∧zero.length=n:=by
 unfold elemLim at h
 split at h
 ·split at h
  ·rename_i z _
   simp at h
   exact ⟨z.cells.toList,h.2,by simpa using h.1⟩
  ·simp at h
 ·simp at h
def byteSlice (P:Program) (t:TypeId):Bool:=sliceIs P t fun e=>underIs P e fun d=>match d with | .int .u8=>true | _=>false
def EK.desc:EK→TypeDesc→Bool
 | .b,d=>(d matches .bool)
 | .i,d=>(d matches .int _)
 | .s,d=>(d matches .string)
def flatFs (P:Program):List EK→List Field→Nat→Bool
 | [],[],_=>true
 | k :: ks, f :: fs, i => f.name != "_" && f.offset == i && sizeIs P f.type 1 && underIs P f.type (fun d => isAggD d == false) && underIs P f.type k.desc && flatFs P ks fs (i + 1)
 | _,_,_=>false
def flatIs (P:Program) (ks:List EK) (t:TypeId):Bool:=underIs P t (fun d=>match d with | .struct fs=>flatFs P ks fs.toList 0 | _=>false) && !P.stoodInHeld t && !P.eqGuardType P.depth t
theorem veqK_run {P:Program} {w:World} (d:Nat) {k:EK} {t:TypeId} (ht:underIs P t k.desc=true) {a b:Value} {r:Bool} (h:veqK k a b=some r):(Op.equalIn (d+1) t a b).run P w=.ok r w:=by
 obtain ⟨ds,h1,h2⟩:=underIs_some ht
 unfold veqK at h
 split at h
 ·split at h
  ·rename_i e
   subst e
   simp at h
   subst h
   cases ds <;> simp [EK.desc] at h2
   exact run_equalIn_int w d t _ _ _ _ h1
  ·simp at h
 ·simp at h
  subst h
  cases ds <;> simp [EK.desc] at h2
  exact run_equalIn_bool' w d t _ _ h1
 ·simp at h
  subst h
  cases ds <;> simp [EK.desc] at h2
  exact run_equalIn_string w d t _ _ h1
 ·simp at h
theorem eqFields_run {P:Program} {w:World} {F:Nat→Prop} {Go:Nat→Gh} {Gv:Nat→Option Nat} {st:St} (d:Nat) {xs ys:Array Value} {a b:List C} (ha:CsRel w F Go Gv st xs.toList a) (hb:CsRel w F Go Gv st ys.toList b) :
  ∀ (ks:List EK) (fs:List Field) (i:Nat) {r:Bool},flatFs P ks fs i=true→eqCells ks (a.drop i) (b.drop i)=some r→(Op.eqFields (d+1) xs ys fs).run P w=.ok r w
 | [],[],i,r,_,h=>by
  unfold eqCells at h
  split at h <;> simp_all [Op.eqFields]
 | [],_::_,i,r,h,_=>by simp [flatFs] at h
 | _::_,[],i,r,h,_=>by simp [flatFs] at h
 | k::ks,f::fs,i,r,h,he=>by
  simp only [flatFs,Bool.and_eq_true,bne_iff_ne,beq_iff_eq] at h
  obtain ⟨⟨⟨⟨⟨h1,rfl⟩,h3⟩,h4⟩,h5⟩,h6⟩:=h
  have hda:∀ (l:List C) (i:Nat) (x:C) (y:List C),l.drop i=x::y→l[i]? = some x∧l.drop (i+1)=y:=by
   intro l i x y e
   have hi:i < l.length:=by
    rcases Nat.lt_or_ge i l.length with h | h
    ·exact h
    ·rw [List.drop_of_length_le h] at e;simp at e
   have e' : l[i]::l.drop (i+1)=x::y:=by rw [←List.drop_eq_getElem_cons hi];exact e
   injection e' with e1 e2
   exact ⟨by rw [List.getElem?_eq_getElem hi,e1],e2⟩
  match ea:a.drop f.offset,eb:b.drop f.offset with
  | .lit u::x,.lit v::y=>
   rw [ea,eb] at he
   simp only [eqCells] at he
   split at he
   ·rename_i r1 s1 e1 e2
    simp at he
    subst he
    obtain ⟨ga,gx⟩:=hda _ _ _ _ ea
    obtain ⟨gb,gy⟩:=hda _ _ _ _ eb
    subst gx;subst gy
    have la:f.offset < xs.size:=by have:=ha.1;have:=(List.getElem?_eq_some_iff.1 ga).1;simp at *;omega
    have lb:f.offset < ys.size:=by have:=hb.1;have:=(List.getElem?_eq_some_iff.1 gb).1;simp at *;omega
    have va:xs.getD f.offset undef=u:=by
     have:=(ha.2 f.offset xs[f.offset] _ (by simp [la]) ga).2
     simp only [CRel] at this
     simp [la,this]
    have vb:ys.getD f.offset undef=v:=by
     have:=(hb.2 f.offset ys[f.offset] _ (by simp [lb]) gb).2
     simp only [CRel] at this
     simp [lb,this]
    have p1:=run_part (w:=w) h3 (agg:=false) h4 (.inr rfl) (vs:=xs) (off:=f.offset) (by omega)
    have p2:=run_part (w:=w) h3 (agg:=false) h4 (.inr rfl) (vs:=ys) (off:=f.offset) (by omega)
    simp only [Bool.false_eq_true,if_false,va,vb] at p1 p2
    simp only [Op.eqFields,h1,ne_eq,not_false_eq_true,if_true,Sem.run_bind,p1,p2,Result.andThen_ok,veqK_run d h5 e1,Sem.run_ite]
    cases r1 with
    | false=>simp
    | true=>
     simp
     exact eqFields_run d ha hb ks fs (f.offset+1) h6 e2
   ·simp at he
  | [],_=>rw [ea] at he;simp [eqCells] at he
  | _::_,[]=>rw [ea,eb] at he;simp [eqCells] at he
  | .ro _ _::_,_::_=>rw [ea,eb] at he;simp [eqCells] at he
  | .ref _ _ _ _::_,_::_=>rw [ea,eb] at he;simp [eqCells] at he
  | .ptr _ _ _ _::_,_::_=>rw [ea,eb] at he;simp [eqCells] at he
  | .rptr _ _::_,_::_=>rw [ea,eb] at he;simp [eqCells] at he
  | .vptr _ _::_,_::_=>rw [ea,eb] at he;simp [eqCells] at he
  | .clo _ _::_,_::_=>rw [ea,eb] at he;simp [eqCells] at he
  | .dead::_,_::_=>rw [ea,eb] at he;simp [eqCells] at he
  | .lit _::_,.ro _ _::_=>rw [ea,eb] at he;simp [eqCells] at he
  | .lit _::_,.ref _ _ _ _::_=>rw [ea,eb] at he;simp [eqCells] at he
  | .lit _::_,.ptr _ _ _ _::_=>rw [ea,eb] at he;simp [eqCells] at he
  | .lit _::_,.rptr _ _::_=>rw [ea,eb] at he;simp [eqCells] at he
  | .lit _::_,.vptr _ _::_=>rw [ea,eb] at he;simp [eqCells] at he
  | .lit _::_,.clo _ _::_=>rw [ea,eb] at he;simp [eqCells] at he
  | .lit _::_,.dead::_=>rw [ea,eb] at he;simp [eqCells] at he
theorem run_ceq {P:Program} {w:World} {F:Nat→Prop} {Go:Nat→Gh} {Gv:Nat→Option Nat} {st:St} {t:TypeId} {ks:List EK} (ht:flatIs P ks t=true) (op:BinOp) (neg:Bool) (hop:op=if neg then .neq else .eql) (x y:Operand) {xs ys:Array Value} {a b:List C} (ha:CsRel w F Go Gv st xs.toList a) (hb:CsRel w F Go Gv st ys.toList b) {r:Bool} (h:eqCells ks a b=some r) :
  (do eqGuard op t x y (.agg xs) (.agg ys);binOp op t (.agg xs) (.agg ys):Sem Value).run P w=.ok (.bool (if neg then !r else r)) w:=by
 simp only [flatIs,Bool.and_eq_true,Bool.not_eq_true'] at ht
 obtain ⟨⟨h1,h2⟩,h3⟩:=ht
 obtain ⟨d,e1,e2⟩:=underIs_some h1
 cases d <;> simp at e2
 rename_i fs
 have hf:P.fieldsOf t=fs:=by simp [Program.fieldsOf,e1]
 have hu:P.underlying t=some (.struct (P.fieldsOf t)):=by rw [hf];exact e1
 have hr:(Op.equalIn 10000 t (.agg xs) (.agg ys)).run P w=.ok r w:=by
  rw [run_equalIn_struct w 9999 t xs ys hu h2,hf]
  exact eqFields_run 9998 ha hb ks fs.toList 0 e2 (by simpa using h)
 rw [Sem.run_bind,run_eqGuard_agg w op t x y xs ys h3,Result.andThen_ok]
 subst hop
 cases neg
 ·simp [run_eql_struct,hr]
 ·simp [run_neq_struct,hr]
def opIs (P:Program):VOp→Op→Bool
 | .mv _ x,op=>match op with
  | .move y=>opdIs x y
  | .assign y=>opdIs x y
  | _=>false
 | .nil _ _,op=>match op with
  | .move (.const v)=>litEq (.slice none 0 0) v
  | .assign (.const v)=>litEq (.slice none 0 0) v
  | _=>false
 | .pick _ c a b,op=>match op with
  | .pick c' a' b'=>opdIs c c' && opdIs a a' && opdIs b b'
  | _=>false
 | .bin _ k x y,op=>match op with
  | .binOp k' _ x' y' _=>k==k' && opdIs x x' && opdIs y y'
  | _=>false
 | .un _ k x,op=>match op with
  | .unOp k' _ x'=>k==k' && opdIs x x'
  | _=>false
 | .beq _ neg x y,op=>match op with
  | .binOp k t x' y' _=>k==(if neg then .neq else .eql)&&underIs P t (fun d=>d matches .bool)&&opdIs x x' && opdIs y y'
  | _=>false
 | .ceq _ ks neg x y,op=>match op with
  | .binOp k t x' y' _=>k==(if neg then .neq else .eql)&&flatIs P ks t&&opdIs x x' && opdIs y y'
  | _=>false
 | .conv _ k x,op=>match op with
  | .convert s d x'=>underIs P s (fun d=>d matches .int _)&&underIs P d (fun d=>match d with | .int k'=>k==k' | _=>false)&&opdIs x x'
  | _=>false
 | .gix _ r len i n,op=>match op with
  | .indexAddr t x i'=>(match x with | .global g=>g==r | _=>false)&&opdIs i i' && underIs P t (fun d=>match d with | .array l e=>l==len&&sizeIs P e n | _=>false)
  | _=>false
 | .cvf _ c x,op=>match op with
  | .convert s d x'=>opdIs x x' && (match c with
   | .i2f k=>underIs P s (fun d=>d matches .int _)&&underIs P d (fun d=>match d with | .float k'=>k==k' | _=>false)
   | .f2i k=>underIs P s (fun d=>d matches .float _)&&underIs P d (fun d=>match d with | .int k'=>k==k' | _=>false)
   | .f2f k=>underIs P s (fun d=>d matches .float _)&&underIs P d (fun d=>match d with | .float k'=>k==k' | _=>false))
  | _=>false
 | .len _ x,op=>match op with
  | .call ⟨.builtin b,⟨[x']⟩,⟨[t]⟩⟩=>b==.len&&opdIs x x' && underIs P t (fun d=>d matches .slice _)
  | _=>false
 | .slen _ x,op=>match op with
  | .call ⟨.builtin b,⟨[x']⟩,⟨[t]⟩⟩=>b==.len&&opdIs x x' && underIs P t (fun d=>d matches .string)
  | _=>false
 | .idx _ x i,op=>match op with
  | .index t x' i'=>opdIs x x' && opdIs i i' && underIs P t (fun d=>d matches .string)
  | _=>false
 | .sstr _ x lo hi,op=>match op with
  | .slice t x' lo' hi' none=>opdIs x x' && optIs lo lo' && optIs hi hi' && underIs P t (fun d=>d matches .string)
  | _=>false
 | .iadr _ x i n,op=>match op with
  | .indexAddr t x' i'=>opdIs x x' && opdIs i i' && sliceIs P t (fun e=>sizeIs P e n)
  | _=>false
 | .fadr _ x off,op=>match op with
  | .fieldAddr t x' f=>opdIs x x' && fieldIs P t f off (sizePos P)
  | .indexAddr t x' i'=>opdIs x x' && arrIs P t i' off
  | _=>false
 | .fadv _ x off,op=>match op with
  | .fieldAddr t x' f=>opdIs x x' && fieldIs P t f off (sizePos P)
  | .indexAddr t x' i'=>opdIs x x' && arrIs P t i' off
  | _=>false
 | .nckv _ x,op=>match op with
  | .nilCheck x'=>opdIs x x'
  | _=>false
 | .ld _ x n agg,op=>match op with
  | .load t x'=>opdIs x x' && sizeIs P t n&&underIs P t (fun d=>isAggD d==agg)
  | _=>false
 | .ldv _ x n agg,op=>match op with
  | .load t x'=>opdIs x x' && sizeIs P t n&&underIs P t (fun d=>isAggD d==agg)
  | _=>false
 | .ldo _ x n agg,op=>match op with
  | .load t x'=>opdIs x x' && sizeIs P t n&&underIs P t (fun d=>isAggD d==agg)
  | _=>false
 | .ldr _ x n agg,op=>match op with
  | .load t x'=>opdIs x x' && sizeIs P t n&&underIs P t (fun d=>isAggD d==agg)
  | _=>false
 | .ldk _ x _ n agg,op=>match op with
  | .load t x'=>opdIs x x' && sizeIs P t n&&underIs P t (fun d=>isAggD d==agg)
  | _=>false
 | .fadk _ x _ off,op=>match op with
  | .fieldAddr t x' f=>opdIs x x' && fieldIs P t f off (sizePos P)
  | .indexAddr t x' i'=>opdIs x x' && arrIs P t i' off
  | _=>false
 | .alk _ is _,op=>match op with
  | .alloc e=>zeroIs P e is
  | _=>false
 | .stk x y _ n,op=>match op with
  | .store t x' y'=>opdIs x x' && opdIs y y' && sizeIs P t n&&decide (n≠0)
  | _=>false
 | .st x y n,op=>match op with
  | .store t x' y'=>opdIs x x' && opdIs y y' && sizeIs P t n&&decide (n≠0)
  | _=>false
 | .nck _ x,op=>match op with
  | .nilCheck x'=>opdIs x x'
  | _=>false
 | .box _ y,op=>match op with
  | .box _ y'=>opdIs y y'
  | _=>false
 | .alloc _ is,op=>match op with
  | .alloc e=>zeroIs P e is
  | _=>false
 | .bld _ is ps,op=>match op with
  | .build t parts=>bldIs P t is parts.toList ps
  | _=>false
 | .fld _ x off n agg,op=>match op with
  | .field t x' f=>opdIs x x' && fieldIs P t f off (fun ft=>sizeIs P ft n&&underIs P ft (fun d=>isAggD d==agg))
  | _=>false
 | .lits _ p rows,op=>match op with
  | .buildSlice t len parts=>len==rows.length&&sliceIs P t (fun e=>elemOk P e p.length)&&partsAre parts.toList rows&&decide (rows.length*p.length≤16777216)
  | _=>false
 | .litr _ vs,op=>match op with
  | .buildSlice t len parts=>len==vs.length&&sliceIs P t (fun e=>elemOk P e 1)&&partsAre parts.toList (vs.map .k)&&decide (vs.length≤16777216)
  | _=>false
 | .mkk _ n p zero lim _,op=>match op with
  | .makeSlice t l c=>opdIs n l&&opdIs n c&&sliceIs P t (fun e=>elemIs P e zero lim)&&zeroOk p zero
  | _=>false
 | .lenr _ x,op=>match op with
  | .call ⟨.builtin b,⟨[x']⟩,⟨[t]⟩⟩=>b==.len&&opdIs x x' && underIs P t (fun d=>d matches .slice _)
  | _=>false
 | .mk _ n p zero lim,op=>match op with
  | .makeSlice t l c=>opdIs n l&&opdIs n c&&sliceIs P t (fun e=>elemIs P e zero lim)&&zeroOk p zero
  | _=>false
 | .app _ x y p lim,op=>match op with
  | .call ⟨.builtin b,⟨[x',y']⟩,⟨[t,tx]⟩⟩=>b==.append&&opdIs x x' && opdIs y y' && sliceIs P t (fun e=>elemLim P e p.length lim)&&sliceIs P tx (fun _=>true)
  | _=>false
 | .appr _ x y p lim,op=>match op with
  | .call ⟨.builtin b,⟨[x',y']⟩,⟨[t,tx]⟩⟩=>b==.append&&opdIs x x' && opdIs y y' && sliceIs P t (fun e=>elemLim P e p.length lim)&&sliceIs P tx (fun _=>true)
  | _=>false
 | .apps _ x y lim,op=>match op with
  | .call ⟨.builtin b,⟨[x',y']⟩,⟨[t,tx]⟩⟩=>b==.append&&opdIs x x' && opdIs y y' && sliceIs P t (fun e=>elemLim P e 1 lim)&&underIs P tx (fun d=>d matches .string)
  | _=>false
 | .slc _ x lo hi n,op=>match op with
  | .slice t x' lo' hi' none=>opdIs x x' && optIs lo lo' && optIs hi hi' && sliceIs P t (fun e=>sizeIs P e n)
  | _=>false
 | .eqn _ neg x,op=>match op with
  | .binOp k t x' (.const v) _=>k==(if neg then .neq else .eql)&&litEq (.slice none 0 0) v&&opdIs x x' && sliceIs P t (fun _=>true)
  | _=>false
 | .b2s _ x,op=>match op with
  | .convert s d x'=>opdIs x x' && byteSlice P s&&underIs P d (fun d=>d matches .string)
  | _=>false
 | .s2b _ x,op=>match op with
  | .convert s d x'=>opdIs x x' && underIs P s (fun d=>d matches .string)&&byteSlice P d
  | _=>false
 | .cvb _ x,op=>match op with
  | .convert s d x'=>opdIs x x' && s==d&&byteSlice P s
  | _=>false
 | .cpy _ x y,op=>match op with
  | .call ⟨.builtin b,⟨[x',y']⟩,⟨[t,tx]⟩⟩=>b==.copy&&opdIs x x' && opdIs y y' && sliceIs P t (fun e=>sizeIs P e 1)&&sliceIs P tx (fun _=>true)
  | _=>false
 | .mkf _ f caps,op=>match op with
  | .makeFunc (.func f') ⟨[]⟩ caps'=>f==f' && opdsAre caps caps'.toList
  | _=>false
 | .call _ f xs,op=>match op with
  | .call ⟨.value (.func f'),args,_⟩=>f==f' && opdsAre xs args.toList
  | _=>false
 | .callc _ x xs,op=>match op with
  | .call ⟨.value x',args,_⟩=>opdIs x x' && opdsAre xs args.toList
  | _=>false
 | .ext _ x i,op=>match op with
  | .extract x' i'=>opdIs x x' && i==i'
  | _=>false
 | .mx _ x y,op=>match op with
  | .call ⟨.builtin b,⟨[x',y']⟩,_⟩=>b==.max&&opdIs x x' && opdIs y y'
  | _=>false
 | .mn _ x y,op=>match op with
  | .call ⟨.builtin b,⟨[x',y']⟩,_⟩=>b==.min&&opdIs x x' && opdIs y y'
  | _=>false
def VOp.isCall:VOp→Bool
 | .call _ _ _ | .callc _ _ _ | .gix _ _ _ _ _=>true
 | _=>false
def VOp.isSt:VOp→Bool
 | .st _ _ _=>true
 | .stk _ _ _ _=>true
 | _=>false
section
variable {A:Nat→Prop} {pin:List (Nat×Value)} {w w' : World} {F:Nat→Prop} {O:Nat→Option Ow} {Go:Nat→Gh} {Gv:Nat→Option Nat} {st st' : St} {tm:Array Value}
theorem Good.of_set (h:Rel A pin w F O Go Gv st tm) {d:Nat} {v:Value} {s:SV} (hs:SRel w F Go Gv st v s) (hd:∀ x,(d,x) ∉ pin) {m:Sem Next} (hm:m.run P w=.ok (.value v) w) :
  ∃ val w',m.run P w=.ok (.value val) w'∧Good A pin w F (st.set d s) (tm.setIfInBounds d val) w':=⟨v,w,hm,Good.set h hs hd⟩
theorem run_next {m:Sem Value} {v:Value} {w' : World} (h:m.run P w=.ok v w'):(do pure (Next.value (←m)):Sem Next).run P w=.ok (.value v) w':=by
 rw [Sem.run_bind,h];rfl
theorem vbin_lit {k:BinOp} {a b r:Value} (h:vbin k a b=some r):isLit r=true:=by
 unfold vbin at h
 split at h
 ·split at h
  ·split at h <;> simp at h;subst h;rfl
  ·split at h <;> simp at h;subst h;rfl
  ·split at h
   ·split at h
    ·simp at h;subst h;rfl
    ·simp at h;subst h;rfl
    ·simp at h;subst h;rfl
    ·split at h <;> simp at h;subst h;rfl
    ·split at h <;> simp at h;subst h;rfl
    ·simp only [Option.map_eq_some_iff] at h;obtain ⟨_,_,rfl⟩:=h;rfl
    ·simp only [Option.map_eq_some_iff] at h;obtain ⟨_,_,rfl⟩:=h;rfl
    ·simp only [Option.map_eq_some_iff] at h;obtain ⟨_,_,rfl⟩:=h;rfl
    ·simp only [Option.map_eq_some_iff] at h;obtain ⟨_,_,rfl⟩:=h;rfl
    ·simp only [Option.map_eq_some_iff] at h;obtain ⟨_,_,rfl⟩:=h;rfl
   ·simp at h
 ·split at h
  ·split at h <;> simp at h;subst h;rfl
  ·simp at h;subst h;rfl
  ·simp at h;subst h;rfl
  ·simp at h
 ·split at h
  ·simp only [Option.map_eq_some_iff] at h;obtain ⟨_,_,rfl⟩:=h;rfl
  ·simp at h
 ·simp at h
theorem vun_lit {k:UnOp} {a r:Value} (h:vun k a=some r):isLit r=true:=by
 unfold vun at h
 split at h
 ·split at h <;> simp at h <;> (subst h;rfl)
 ·split at h <;> simp at h;subst h;rfl
 ·simp at h
theorem fadvC_le {st:St} {off:Nat} {c c' : C} (h:fadvC st off c=some c'):fadrC st off c=some c':=by
 cases c <;> first | exact h | simp [fadvC] at h
theorem nckvC_le {st:St} {c c' : C} (h:nckvC st c=some c'):nckC st c=some c':=by
 cases c <;> first | exact h | simp [nckvC] at h
theorem sound_op (hfr:∀ b,A b→FrOk w b) (h:Rel A pin w F O Go Gv st tm) (ds:List Deferred) {tbl:FuncId→Option VF} {run:FuncId→List Arg→Option FRes} {v:VOp} {o:Oper} (hc:opIs P v o.op=true) (hv:vop tbl run st v=some st') (hn:v.isCall=false)
  (hd:v.isSt=false→∀ x,(v.dst,x) ∉ pin) :
  (v.isSt=false→∃ val w',(execOp (Act.mk tm ds).eval o).run P w=.ok (.value val) w'∧Good A pin w F st' (tm.setIfInBounds v.dst val) w')∧
  (v.isSt=true→∃ w',(execOp (Act.mk tm ds).eval o).run P w=.ok .skip w'∧Good A pin w F st' tm w'):=by
 cases v with
 | st x y n=>
  refine ⟨by simp [VOp.isSt],fun _=>?_⟩
  simp only [opIs] at hc
  split at hc
  ·rename_i t x' y' heq
   simp only [Bool.and_eq_true,decide_eq_true_eq] at hc
   obtain ⟨⟨⟨h1,h2⟩,h3⟩,h4⟩:=hc
   simp only [vop,Option.bind_eq_some_iff] at hv
   obtain ⟨st1,⟨s,hs,hv⟩,hcl⟩:=hv
   obtain ⟨w',hr,F1,O1,Go1,Gv1,hr1,hrest⟩:=sound_store (P:=P) h h1 h2 h4 h3 hs hv ds
   refine ⟨w',?_,F1,O1,Go1,Gv1,closeAt_good hr1 hcl,hrest⟩
   simp only [execOp,heq]
   rw [Sem.run_bind,hr];rfl
  ·simp at hc
 | stk x y id n=>
  refine ⟨by simp [VOp.isSt],fun _=>?_⟩
  simp only [opIs] at hc
  split at hc
  ·rename_i t x' y' heq
   simp only [Bool.and_eq_true,decide_eq_true_eq] at hc
   obtain ⟨⟨⟨h1,h2⟩,h3⟩,h4⟩:=hc
   simp only [vop] at hv
   split at hv
   ·rename_i i j ag cs old hcx hcy hcv
    split at hv
    ·rename_i hcond
     simp only [Bool.and_eq_true,decide_eq_true_eq] at hcond
     obtain ⟨⟨⟨rfl,hl⟩,hj⟩,hsto⟩:=hcond
     obtain ⟨s,hs,hsc⟩:=Option.bind_eq_some_iff.1 hcy
     have hvs:vstore st x n s=some st':=by
      unfold vstore
      rw [hcx,hsc]
      simp only [hcv]
      rw [if_pos ⟨hl,hj,hsto⟩]
      exact hv
     obtain ⟨w',hr,hg⟩:=sound_store (P:=P) h h1 h2 h4 h3 hs hvs ds
     refine ⟨w',?_,hg⟩
     simp only [execOp,heq]
     rw [Sem.run_bind,hr];rfl
    ·simp at hv
   ·simp at hv
  ·simp at hc
 | ldr d x n agg=>
  refine ⟨fun _=>?_,by simp [VOp.isSt]⟩
  have hd:=hd rfl
  simp only [VOp.dst] at hd
  simp only [opIs] at hc
  split at hc
  ·rename_i t x' heq
   simp only [Bool.and_eq_true,decide_eq_true_eq,beq_iff_eq] at hc
   obtain ⟨⟨h1,h2⟩,h3⟩:=hc
   simp only [vop] at hv
   split at hv
   ·rename_i p cs hcx
    split at hv
    ·rename_i h4
     simp only [Bool.and_eq_true,Bool.or_eq_true,decide_eq_true_eq] at h4
     have hv' : vload st d x n agg=some st':=by
      unfold vload
      rw [hcx]
      simp only
      rw [if_pos h4.2]
      exact hv
     obtain ⟨v,hr,hrel⟩:=sound_load (P:=P) h h1 hv' h2 h3 h4.1 hd ds
     exact ⟨v,w,by simp only [execOp,heq];exact run_next hr,Good.same hrel⟩
    ·simp at hv
   ·simp at hv
  ·simp at hc
 | ldk d x id n agg=>
  refine ⟨fun _=>?_,by simp [VOp.isSt]⟩
  have hd2:=hd rfl
  simp only [VOp.dst] at hd2
  simp only [opIs] at hc
  split at hc
  ·rename_i t x' heq
   simp only [Bool.and_eq_true,decide_eq_true_eq,beq_iff_eq] at hc
   obtain ⟨⟨h1,h2⟩,h3⟩:=hc
   simp only [vop] at hv
   split at hv
   ·rename_i i j cs hcx hcv
    split at hv
    ·rename_i h4
     simp only [Bool.and_eq_true,Bool.or_eq_true,decide_eq_true_eq] at h4
     obtain ⟨⟨rfl,h4⟩,h5⟩:=h4
     have hv' : vload st d x n agg=some st':=by
      unfold vload
      rw [hcx]
      simp only [hcv]
      rw [if_pos h5]
      exact hv
     obtain ⟨v,hr,hrel⟩:=sound_load (P:=P) h h1 hv' h2 h3 h4 hd2 ds
     exact ⟨v,w,by simp only [execOp,heq];exact run_next hr,Good.same hrel⟩
    ·simp at hv
   ·simp at hv
  ·simp at hc
 | fadk d x id off=>
  refine ⟨fun _=>?_,by simp [VOp.isSt]⟩
  have hd2:=hd rfl
  simp only [VOp.dst] at hd2
  simp only [opIs] at hc
  simp only [vop] at hv
  split at hv
  ·rename_i i j cs hcx hcv
   split at hv
   ·rename_i hi
    obtain rfl:=Option.some.inj hv
    subst hi
    have hf:fadrC st off (.vptr i j)=some (.vptr i (j+off)):=by simp [fadrC,hcv]
    split at hc
    ·rename_i t x' f heq
     simp only [Bool.and_eq_true,decide_eq_true_eq,beq_iff_eq] at hc
     obtain ⟨v,hr,hs⟩:=sound_fadr (P:=P) h ds hc.2 hc.1 hcx hf
     exact Good.of_set h hs hd2 (by simp only [execOp,heq];exact run_next hr)
    ·rename_i t x' i' heq
     simp only [Bool.and_eq_true,decide_eq_true_eq,beq_iff_eq] at hc
     obtain ⟨v,hr,hs⟩:=sound_fadr' (P:=P) (I:=fun v=>Instr.indexAt t v ((Act.mk tm ds).eval i')) h ds (fun g o=>run_aadr hc.2 tm ds g o) hc.1 hcx hf
     exact Good.of_set h hs hd2 (by simp only [execOp,heq];exact run_next hr)
    ·simp at hc
   ·simp at hv
  ·simp at hv
 | alk d is id=>
  refine ⟨fun _=>?_,by simp [VOp.isSt]⟩
  have hd:=hd rfl
  simp only [VOp.dst] at hd
  simp only [opIs] at hc
  split at hc
  ·rename_i e heq
   simp only [vop] at hv
   split at hv
   ·rename_i hi
    split at hv
    ·rename_i hid
     simp only [Option.some.injEq] at hv
     subst hv
     obtain ⟨v,w',hr,hg⟩:=sound_alk (P:=P) h hc hi hid hd
     exact ⟨v,w',by simp only [execOp,heq];exact run_next hr,hg⟩
    ·simp at hv
   ·simp at hv
  ·simp at hc
 | call _ _ _=>simp [VOp.isCall] at hn
 | callc _ _ _=>simp [VOp.isCall] at hn
 | gix _ _ _ _ _=>simp [VOp.isCall] at hn
 | mv d x=>
  refine ⟨fun _=>?_,by simp [VOp.isSt]⟩
  have hd:=hd rfl
  simp only [VOp.dst] at hd
  simp only [opIs] at hc
  simp only [vop,Option.map_eq_some_iff] at hv
  obtain ⟨s,hs,rfl⟩:=hv
  split at hc
  ·rename_i y heq
   exact Good.of_set h (h.get hc hs ds) hd (by simp only [execOp,heq,Sem.run_pure])
  ·rename_i y heq
   exact Good.of_set h (h.get hc hs ds) hd (by simp only [execOp,heq,Sem.run_pure])
  ·simp at hc
 | nil d p=>
  refine ⟨fun _=>?_,by simp [VOp.isSt]⟩
  have hd:=hd rfl
  simp only [VOp.dst] at hd
  simp only [opIs] at hc
  simp only [vop,Option.some.injEq] at hv
  subst hv
  have key:∀ v,litEq (.slice none 0 0) v=true→(execOp (Act.mk tm ds).eval o).run P w=.ok (.value v) w→∃ val w',(execOp (Act.mk tm ds).eval o).run P w=.ok (.value val) w'∧Good A pin w F (st.push d ⟨p,[]⟩) (tm.setIfInBounds d val) w':=by
   intro v hl hr
   have:=litEq_eq hl
   subst this
   refine ⟨_,_,hr,F,_,_,Gv,(h.newNil p).put (d:=d) (s:=.v false [.ref st.objs.length [] 0 0]) ⟨_,rfl,.inl rfl,by simp,fun o _=>by simp [newGo]⟩ hd,Step.refl A w,fun _ h=>h,fun _ h=>.inl h⟩
  split at hc
  ·rename_i v heq
   exact key v hc (by simp only [execOp,heq,Sem.run_pure];rfl)
  ·rename_i v heq
   exact key v hc (by simp only [execOp,heq,Sem.run_pure];rfl)
  ·simp at hc
 | pick d c a b=>
  refine ⟨fun _=>?_,by simp [VOp.isSt]⟩
  have hd:=hd rfl
  simp only [VOp.dst] at hd
  simp only [opIs] at hc
  split at hc
  ·rename_i c' a' b' heq
   simp only [Bool.and_eq_true,decide_eq_true_eq,beq_iff_eq] at hc
   obtain ⟨⟨h1,h2⟩,h3⟩:=hc
   simp only [vop] at hv
   split at hv
   ·rename_i hb
    simp only [Option.map_eq_some_iff] at hv
    obtain ⟨s,hs,rfl⟩:=hv
    exact Good.of_set h (h.get h2 hs ds) hd (by simp [execOp,heq,h.val h1 hb ds,asBool])
   ·rename_i hb
    simp only [Option.map_eq_some_iff] at hv
    obtain ⟨s,hs,rfl⟩:=hv
    exact Good.of_set h (h.get h3 hs ds) hd (by simp [execOp,heq,h.val h1 hb ds,asBool])
   ·simp at hv
  ·simp at hc
 | bin d k x y=>
  refine ⟨fun _=>?_,by simp [VOp.isSt]⟩
  have hd:=hd rfl
  simp only [VOp.dst] at hd
  simp only [opIs] at hc
  split at hc
  ·rename_i k' t x' y' t' heq
   simp only [Bool.and_eq_true,decide_eq_true_eq,beq_iff_eq] at hc
   obtain ⟨⟨rfl,h2⟩,h3⟩:=hc
   simp only [vop] at hv
   split at hv
   ·rename_i a b ha hb
    simp only [Option.map_eq_some_iff] at hv
    obtain ⟨r,hr,rfl⟩:=hv
    refine Good.of_set h (litRel (vbin_lit hr)) hd ?_
    simp only [execOp,heq]
    rw [h.val h2 ha ds,h.val h3 hb ds]
    exact run_next (run_bin hr)
   ·simp at hv
  ·simp at hc
 | un d k x=>
  refine ⟨fun _=>?_,by simp [VOp.isSt]⟩
  have hd:=hd rfl
  simp only [VOp.dst] at hd
  simp only [opIs] at hc
  split at hc
  ·rename_i k' t x' heq
   simp only [Bool.and_eq_true,decide_eq_true_eq,beq_iff_eq] at hc
   obtain ⟨rfl,h2⟩:=hc
   simp only [vop] at hv
   split at hv
   ·rename_i a ha
    simp only [Option.map_eq_some_iff] at hv
    obtain ⟨r,hr,rfl⟩:=hv
    refine Good.of_set h (litRel (vun_lit hr)) hd ?_
    simp only [execOp,heq]
    rw [h.val h2 ha ds]
    exact run_next (run_un hr)
   ·simp at hv
  ·simp at hc
 | beq d neg x y=>
  refine ⟨fun _=>?_,by simp [VOp.isSt]⟩
  have hd:=hd rfl
  simp only [VOp.dst] at hd
  simp only [opIs] at hc
  split at hc
  ·rename_i k t x' y' t' heq
   simp only [Bool.and_eq_true,decide_eq_true_eq,beq_iff_eq] at hc
   obtain ⟨⟨⟨h1,h2⟩,h3⟩,h4⟩:=hc
   simp only [vop] at hv
   split at hv
   ·rename_i a b ha hb
    simp only [Option.some.injEq] at hv
    subst hv
    refine Good.of_set h (litRel rfl) hd ?_
    simp only [execOp,heq]
    rw [h.val h3 ha ds,h.val h4 hb ds]
    exact run_next (run_beq h2 k neg h1 _ _ a b)
   ·simp at hv
  ·simp at hc
 | ceq d ks neg x y=>
  refine ⟨fun _=>?_,by simp [VOp.isSt]⟩
  have hd:=hd rfl
  simp only [VOp.dst] at hd
  simp only [opIs] at hc
  split at hc
  ·rename_i k t x' y' t' heq
   simp only [Bool.and_eq_true,decide_eq_true_eq,beq_iff_eq] at hc
   obtain ⟨⟨⟨h1,h2⟩,h3⟩,h4⟩:=hc
   simp only [vop] at hv
   split at hv
   ·rename_i a b ha hb
    simp only [Option.map_eq_some_iff] at hv
    obtain ⟨r,hr,rfl⟩:=hv
    have gx:∀ {z:Opd} {z' : Operand} (_:opdIs z z' = true) {cs:List C},(st.get z).bind SV.cells=some (true,cs)→∃ vs:Array Value,(Act.mk tm ds).eval z'=.agg vs∧CsRel w F Go Gv st vs.toList cs:=by
     intro z z' hz cs hcs
     obtain ⟨s,hs,hsc⟩:=Option.bind_eq_some_iff.1 hcs
     cases s with
     | v a cs'=>
      simp [SV.cells] at hsc
      obtain ⟨rfl,rfl⟩:=hsc
      exact h.get hz hs ds
     | tup ss=>simp [SV.cells] at hsc
     | ifc _ _=>simp [SV.cells] at hsc
     | any=>simp [SV.cells] at hsc
    obtain ⟨xs,ex,rx⟩:=gx h3 ha
    obtain ⟨ys,ey,ry⟩:=gx h4 hb
    refine Good.of_set h (litRel rfl) hd ?_
    simp only [execOp,heq]
    rw [ex,ey]
    exact run_next (run_ceq h2 k neg h1 _ _ rx ry hr)
   ·simp at hv
  ·simp at hc
 | cpy d x y=>
  refine ⟨fun _=>?_,by simp [VOp.isSt]⟩
  have hd:=hd rfl
  simp only [VOp.dst] at hd
  simp only [opIs] at hc
  split at hc
  ·rename_i b x' y' t tx heq
   simp only [Bool.and_eq_true,decide_eq_true_eq,beq_iff_eq] at hc
   obtain ⟨⟨⟨⟨rfl,h1⟩,h2⟩,h3⟩,h4⟩:=hc
   obtain ⟨e,he1,he2⟩:=sliceIs_some h3
   obtain ⟨e',hx1,_⟩:=sliceIs_some h4
   simp only [vop] at hv
   obtain ⟨v,w',hrun,hg⟩:=sound_copy (P:=P) h ds (ty:=o.type) he1 hx1 he2 h1 h2 hv hd
   refine ⟨v,w',?_,hg⟩
   simp [execOp,heq,resolve,invoke,builtin,hrun]
  ·simp at hc
 | conv d k x=>
  refine ⟨fun _=>?_,by simp [VOp.isSt]⟩
  have hd:=hd rfl
  simp only [VOp.dst] at hd
  simp only [opIs] at hc
  split at hc
  ·rename_i s t x' heq
   simp only [Bool.and_eq_true,decide_eq_true_eq,beq_iff_eq] at hc
   obtain ⟨⟨h1,h2⟩,h3⟩:=hc
   simp only [vop] at hv
   split at hv
   ·rename_i a ha
    simp only [Option.map_eq_some_iff] at hv
    obtain ⟨r,hr,rfl⟩:=hv
    have hl:isLit r=true:=by
     unfold vconv at hr
     split at hr
     ·simp at hr;subst hr;rfl
     ·simp at hr
    refine Good.of_set h (litRel hl) hd ?_
    simp only [execOp,heq]
    rw [h.val h3 ha ds]
    exact run_next (run_conv h1 h2 hr)
   ·simp at hv
  ·simp at hc
 | cvf d c x=>
  refine ⟨fun _=>?_,by simp [VOp.isSt]⟩
  have hd:=hd rfl
  simp only [VOp.dst] at hd
  simp only [opIs] at hc
  split at hc
  ·rename_i s t x' heq
   rw [Bool.and_eq_true] at hc
   obtain ⟨h3,h2⟩:=hc
   simp only [vop] at hv
   split at hv
   ·rename_i a ha
    simp only [Option.map_eq_some_iff] at hv
    obtain ⟨r,hr,rfl⟩:=hv
    have hl:isLit r=true:=by
     unfold vcvf at hr
     split at hr
     ·simp at hr;subst hr;rfl
     ·simp only [Option.map_eq_some_iff] at hr;obtain ⟨_,_,rfl⟩:=hr;rfl
     ·split at hr <;> simp at hr;subst hr;rfl
     ·simp at hr
    refine Good.of_set h (litRel hl) hd ?_
    simp only [execOp,heq]
    rw [h.val h3 ha ds]
    exact run_next (run_cvf h2 hr)
   ·simp at hv
  ·simp at hc
 | mx d x y=>
  refine ⟨fun _=>?_,by simp [VOp.isSt]⟩
  have hd:=hd rfl
  simp only [VOp.dst] at hd
  simp only [opIs] at hc
  split at hc
  ·rename_i b x' y' ts heq
   simp only [Bool.and_eq_true,decide_eq_true_eq,beq_iff_eq] at hc
   obtain ⟨⟨rfl,h2⟩,h3⟩:=hc
   simp only [vop] at hv
   split at hv
   ·rename_i a b ha hb
    simp only [Option.map_eq_some_iff] at hv
    obtain ⟨r,hr,rfl⟩:=hv
    have hl:isLit r=true:=by
     unfold vmax at hr
     split at hr
     ·simp at hr;subst hr;rfl
     ·simp at hr
    refine Good.of_set h (litRel hl) hd ?_
    simp only [execOp,heq,resolve,Sem.run_bind,Sem.run_pure,Result.andThen_ok,invoke,builtin]
    have:=run_mx (P:=P) (w:=w) ts o.type hr
    simp [h.val h2 ha ds,h.val h3 hb ds,this]
   ·simp at hv
  ·simp at hc
 | mn d x y=>
  refine ⟨fun _=>?_,by simp [VOp.isSt]⟩
  have hd:=hd rfl
  simp only [VOp.dst] at hd
  simp only [opIs] at hc
  split at hc
  ·rename_i b x' y' ts heq
   simp only [Bool.and_eq_true,decide_eq_true_eq,beq_iff_eq] at hc
   obtain ⟨⟨rfl,h2⟩,h3⟩:=hc
   simp only [vop] at hv
   split at hv
   ·rename_i a b ha hb
    simp only [Option.map_eq_some_iff] at hv
    obtain ⟨r,hr,rfl⟩:=hv
    have hl:isLit r=true:=by
     unfold vmin at hr
     split at hr
     ·simp at hr;subst hr;rfl
     ·simp at hr
    refine Good.of_set h (litRel hl) hd ?_
    simp only [execOp,heq,resolve,Sem.run_bind,Sem.run_pure,Result.andThen_ok,invoke,builtin]
    have:=run_mn (P:=P) (w:=w) ts o.type hr
    simp [h.val h2 ha ds,h.val h3 hb ds,this]
   ·simp at hv
  ·simp at hc
 | slen d x=>
  refine ⟨fun _=>?_,by simp [VOp.isSt]⟩
  have hd:=hd rfl
  simp only [VOp.dst] at hd
  simp only [opIs] at hc
  split at hc
  ·rename_i b x' t heq
   simp only [Bool.and_eq_true,decide_eq_true_eq,beq_iff_eq] at hc
   obtain ⟨⟨rfl,h2⟩,h3⟩:=hc
   simp only [vop] at hv
   split at hv
   ·rename_i s hs
    simp only [Option.some.injEq] at hv
    subst hv
    refine Good.of_set h (litRel rfl) hd ?_
    have:=run_len (P:=P) (w:=w) (t:=t) (ty:=o.type) (x:=.string s) (n:=s.size) (.inl ⟨s,rfl,rfl,h3⟩)
    simp [execOp,heq,resolve,invoke,builtin,h.val h2 hs ds,this]
   ·simp at hv
  ·simp at hc
 | lenr d x=>
  refine ⟨fun _=>?_,by simp [VOp.isSt]⟩
  have hd:=hd rfl
  simp only [VOp.dst] at hd
  simp only [opIs] at hc
  split at hc
  ·rename_i b x' t heq
   simp only [Bool.and_eq_true,decide_eq_true_eq,beq_iff_eq] at hc
   obtain ⟨⟨rfl,h2⟩,h3⟩:=hc
   have key:∀ a n c,(Act.mk tm ds).eval x'=.slice a n c→st' = st.set d (litS (.int .i64 n))→∃ val w',(execOp (Act.mk tm ds).eval o).run P w=.ok (.value val) w'∧Good A pin w F st' (tm.setIfInBounds d val) w':=by
    rintro a n c e rfl
    refine Good.of_set h (litRel rfl) hd ?_
    have:=run_len (P:=P) (w:=w) (t:=t) (ty:=o.type) (x:=.slice a n c) (n:=n) (.inr ⟨a,c,rfl,h3⟩)
    simp [execOp,heq,resolve,invoke,builtin,e,this]
   simp only [vop] at hv
   split at hv
   ·rename_i hs
    simp only [Option.some.injEq] at hv
    exact key _ 0 _ (h.cell h2 hs ds).1 hv.symm
   ·rename_i p es hs
    simp only [Option.some.injEq] at hv
    have hr:=(h.cell h2 hs ds).1
    simp only [CRel] at hr
    generalize hv0:(Act.mk tm ds).eval x' = v0 at hr
    generalize htt:T.sl es=tt at hr
    generalize hq:OT.ro p=q at hr
    cases hr with
    | sc _=>simp at hq
    | hole _=>simp at hq
    | full _=>simp at hq
    | emp _=>simp at htt;subst htt;exact key _ _ _ hv0 hv.symm
    | sl us _ _ _ _ _ _=>simp at htt;subst htt;exact key _ _ _ hv0 hv.symm
   ·simp at hv
  ·simp at hc
 | len d x=>
  refine ⟨fun _=>?_,by simp [VOp.isSt]⟩
  have hd:=hd rfl
  simp only [VOp.dst] at hd
  simp only [opIs] at hc
  split at hc
  ·rename_i b x' t heq
   simp only [Bool.and_eq_true,decide_eq_true_eq,beq_iff_eq] at hc
   obtain ⟨⟨rfl,h2⟩,h3⟩:=hc
   have key:∀ a n c,(Act.mk tm ds).eval x'=.slice a n c→st' = st.set d (litS (.int .i64 n))→∃ val w',(execOp (Act.mk tm ds).eval o).run P w=.ok (.value val) w'∧Good A pin w F st' (tm.setIfInBounds d val) w':=by
    rintro a n c e rfl
    refine Good.of_set h (litRel rfl) hd ?_
    have:=run_len (P:=P) (w:=w) (t:=t) (ty:=o.type) (x:=.slice a n c) (n:=n) (.inr ⟨a,c,rfl,h3⟩)
    simp [execOp,heq,resolve,invoke,builtin,e,this]
   simp only [vop] at hv
   split at hv
   ·rename_i hs
    simp only [Option.some.injEq] at hv
    exact key _ 0 _ (h.cell h2 hs ds).1 hv.symm
   ·rename_i p es hs
    simp only [Option.some.injEq] at hv
    have hr:=(h.cell h2 hs ds).1
    simp only [CRel] at hr
    generalize hv0:(Act.mk tm ds).eval x' = v0 at hr
    generalize htt:T.sl es=tt at hr
    generalize hq:OT.ro p=q at hr
    cases hr with
    | sc _=>simp at hq
    | hole _=>simp at hq
    | full _=>simp at hq
    | emp _=>simp at htt;subst htt;exact key _ _ _ hv0 hv.symm
    | sl us _ _ _ _ _ _=>simp at htt;subst htt;exact key _ _ _ hv0 hv.symm
   ·rename_i id p off len hs
    simp only [Option.map_eq_some_iff] at hv
    obtain ⟨ob,hob,hv⟩:=hv
    have hr:=(h.cell h2 hs ds).1.2 ob hob
    cases hg:Go id p with
    | none=>
     simp only [hg] at hr
     rw [hr.2.2] at hv
     exact key _ 0 _ hr.1 hv.symm
    | some bk=>
     simp only [hg] at hr
     rcases hr with ⟨_,e1,_⟩|⟨_,a,c,e1,_⟩
     ·exact key _ _ _ e1 hv.symm
     ·exact key _ _ _ e1 hv.symm
   ·simp at hv
  ·simp at hc
 | idx d x i=>
  refine ⟨fun _=>?_,by simp [VOp.isSt]⟩
  have hd:=hd rfl
  simp only [VOp.dst] at hd
  simp only [opIs] at hc
  split at hc
  ·rename_i t x' i' heq
   simp only [Bool.and_eq_true,decide_eq_true_eq,beq_iff_eq] at hc
   obtain ⟨⟨h1,h2⟩,h3⟩:=hc
   simp only [vop] at hv
   split at hv
   ·rename_i a b ha hb
    simp only [Option.map_eq_some_iff] at hv
    obtain ⟨r,hr,rfl⟩:=hv
    have hl:isLit r=true:=by
     unfold vidx at hr
     split at hr
     ·split at hr
      ·simp only [Option.map_eq_some_iff] at hr
       obtain ⟨_,_,rfl⟩:=hr
       rfl
      ·simp at hr
     ·simp at hr
    refine Good.of_set h (litRel hl) hd ?_
    simp only [execOp,heq]
    rw [h.val h1 ha ds,h.val h2 hb ds]
    exact run_next (run_idx h3 hr)
   ·simp at hv
  ·simp at hc
 | sstr d x lo hi=>
  refine ⟨fun _=>?_,by simp [VOp.isSt]⟩
  have hd:=hd rfl
  simp only [VOp.dst] at hd
  simp only [opIs] at hc
  split at hc
  ·rename_i t x' lo' hi' heq
   simp only [Bool.and_eq_true,decide_eq_true_eq,beq_iff_eq] at hc
   obtain ⟨⟨⟨h1,h2⟩,h3⟩,h4⟩:=hc
   simp only [vop] at hv
   split at hv
   ·rename_i s hs
    simp only [Option.map_eq_some_iff] at hv
    obtain ⟨⟨l,hh⟩,hb,rfl⟩:=hv
    refine Good.of_set h (litRel rfl) hd ?_
    simp only [execOp,heq]
    rw [h.val h1 hs ds]
    exact run_next (run_sliceS h4 h ds h2 h3 hb)
   ·simp at hv
  ·simp at hc
 | iadr d x i n=>
  refine ⟨fun _=>?_,by simp [VOp.isSt]⟩
  have hd:=hd rfl
  simp only [VOp.dst] at hd
  simp only [opIs] at hc
  split at hc
  ·rename_i t x' i' heq
   simp only [Bool.and_eq_true,decide_eq_true_eq,beq_iff_eq] at hc
   obtain ⟨⟨h1,h2⟩,h3⟩:=hc
   simp only [vop] at hv
   split at hv
   ·rename_i c k hcx hk
    simp only [Option.map_eq_some_iff] at hv
    obtain ⟨c',hc',rfl⟩:=hv
    obtain ⟨v,hr,hs⟩:=sound_iadr (P:=P) h ds h3 h1 h2 hcx hk hc'
    exact Good.of_set h hs hd (by simp only [execOp,heq];exact run_next hr)
   ·simp at hv
  ·simp at hc
 | fadr d x off=>
  refine ⟨fun _=>?_,by simp [VOp.isSt]⟩
  have hd:=hd rfl
  simp only [VOp.dst] at hd
  simp only [opIs] at hc
  split at hc
  ·rename_i t x' f heq
   simp only [Bool.and_eq_true,decide_eq_true_eq,beq_iff_eq] at hc
   simp only [vop,Option.map_eq_some_iff,Option.bind_eq_some_iff] at hv
   obtain ⟨c',⟨c,hcx,hc'⟩,rfl⟩:=hv
   obtain ⟨v,hr,hs⟩:=sound_fadr (P:=P) h ds hc.2 hc.1 hcx hc'
   exact Good.of_set h hs hd (by simp only [execOp,heq];exact run_next hr)
  ·rename_i t x' i' heq
   simp only [Bool.and_eq_true,decide_eq_true_eq,beq_iff_eq] at hc
   simp only [vop,Option.map_eq_some_iff,Option.bind_eq_some_iff] at hv
   obtain ⟨c',⟨c,hcx,hc'⟩,rfl⟩:=hv
   obtain ⟨v,hr,hs⟩:=sound_fadr' (P:=P) (I:=fun v=>Instr.indexAt t v ((Act.mk tm ds).eval i')) h ds (fun g o=>run_aadr hc.2 tm ds g o) hc.1 hcx hc'
   exact Good.of_set h hs hd (by simp only [execOp,heq];exact run_next hr)
  ·simp at hc
 | ld d x n agg=>
  refine ⟨fun _=>?_,by simp [VOp.isSt]⟩
  have hd:=hd rfl
  simp only [VOp.dst] at hd
  simp only [opIs] at hc
  split at hc
  ·rename_i t x' heq
   simp only [Bool.and_eq_true,decide_eq_true_eq,beq_iff_eq] at hc
   obtain ⟨⟨h1,h2⟩,h3⟩:=hc
   simp only [vop] at hv
   split at hv
   ·rename_i h4
    simp only [Bool.or_eq_true,decide_eq_true_eq] at h4
    obtain ⟨v,hr,hrel⟩:=sound_load (P:=P) h h1 hv h2 h3 h4 hd ds
    exact ⟨v,w,by simp only [execOp,heq];exact run_next hr,Good.same hrel⟩
   ·simp at hv
  ·simp at hc
 | ldo d x n agg=>
  refine ⟨fun _=>?_,by simp [VOp.isSt]⟩
  have hd:=hd rfl
  simp only [VOp.dst] at hd
  simp only [opIs] at hc
  split at hc
  ·rename_i t x' heq
   simp only [Bool.and_eq_true,decide_eq_true_eq,beq_iff_eq] at hc
   obtain ⟨⟨h1,h2⟩,h3⟩:=hc
   simp only [vop] at hv
   split at hv
   ·split at hv
    ·rename_i h4
     simp only [Bool.or_eq_true,decide_eq_true_eq] at h4
     obtain ⟨v,hr,hrel⟩:=sound_load (P:=P) h h1 hv h2 h3 h4 hd ds
     exact ⟨v,w,by simp only [execOp,heq];exact run_next hr,Good.same hrel⟩
    ·simp at hv
   ·simp at hv
  ·simp at hc
 | ldv d x n agg=>
  refine ⟨fun _=>?_,by simp [VOp.isSt]⟩
  have hd:=hd rfl
  simp only [VOp.dst] at hd
  simp only [opIs] at hc
  split at hc
  ·rename_i t x' heq
   simp only [Bool.and_eq_true,decide_eq_true_eq,beq_iff_eq] at hc
   obtain ⟨⟨h1,h2⟩,h3⟩:=hc
   simp only [vop] at hv
   split at hv
   case h_3=>simp at hv
   all_goals
    split at hv
    ·rename_i h4
     simp only [Bool.or_eq_true,decide_eq_true_eq] at h4
     obtain ⟨v,hr,hrel⟩:=sound_load (P:=P) h h1 hv h2 h3 h4 hd ds
     exact ⟨v,w,by simp only [execOp,heq];exact run_next hr,Good.same hrel⟩
    ·simp at hv
  ·simp at hc
 | nck d x=>
  refine ⟨fun _=>?_,by simp [VOp.isSt]⟩
  have hd:=hd rfl
  simp only [VOp.dst] at hd
  simp only [opIs] at hc
  split at hc
  ·rename_i x' heq
   simp only [vop,Option.map_eq_some_iff,Option.bind_eq_some_iff] at hv
   obtain ⟨c',⟨c,hcx,hc'⟩,rfl⟩:=hv
   obtain ⟨h1,h2⟩:=sound_nck h ds hc hcx hc'
   refine Good.of_set h h2 hd ?_
   simp only [execOp,heq]
   rcases h1 with ⟨a,e⟩|⟨f,vs,e⟩ <;> (rw [e];rfl)
  ·simp at hc
 | fadv d x off=>
  refine ⟨fun _=>?_,by simp [VOp.isSt]⟩
  have hd:=hd rfl
  simp only [VOp.dst] at hd
  simp only [opIs] at hc
  split at hc
  ·rename_i t x' f heq
   simp only [Bool.and_eq_true,decide_eq_true_eq,beq_iff_eq] at hc
   simp only [vop,Option.map_eq_some_iff,Option.bind_eq_some_iff] at hv
   obtain ⟨c',⟨c,hcx,hc'⟩,rfl⟩:=hv
   obtain ⟨v,hr,hs⟩:=sound_fadr (P:=P) h ds hc.2 hc.1 hcx (fadvC_le hc')
   exact Good.of_set h hs hd (by simp only [execOp,heq];exact run_next hr)
  ·rename_i t x' i' heq
   simp only [Bool.and_eq_true,decide_eq_true_eq,beq_iff_eq] at hc
   simp only [vop,Option.map_eq_some_iff,Option.bind_eq_some_iff] at hv
   obtain ⟨c',⟨c,hcx,hc'⟩,rfl⟩:=hv
   obtain ⟨v,hr,hs⟩:=sound_fadr' (P:=P) (I:=fun v=>Instr.indexAt t v ((Act.mk tm ds).eval i')) h ds (fun g o=>run_aadr hc.2 tm ds g o) hc.1 hcx (fadvC_le hc')
   exact Good.of_set h hs hd (by simp only [execOp,heq];exact run_next hr)
  ·simp at hc
 | nckv d x=>
  refine ⟨fun _=>?_,by simp [VOp.isSt]⟩
  have hd:=hd rfl
  simp only [VOp.dst] at hd
  simp only [opIs] at hc
  split at hc
  ·rename_i x' heq
   simp only [vop,Option.map_eq_some_iff,Option.bind_eq_some_iff] at hv
   obtain ⟨c',⟨c,hcx,hc'⟩,rfl⟩:=hv
   obtain ⟨h1,h2⟩:=sound_nck h ds hc hcx (nckvC_le hc')
   refine Good.of_set h h2 hd ?_
   simp only [execOp,heq]
   rcases h1 with ⟨a,e⟩|⟨f,vs,e⟩ <;> (rw [e];rfl)
  ·simp at hc
 | box d y=>
  refine ⟨fun _=>?_,by simp [VOp.isSt]⟩
  have hd:=hd rfl
  simp only [VOp.dst] at hd
  simp only [opIs] at hc
  split at hc
  ·rename_i e y' heq
   simp only [vop] at hv
   split at hv
   ·rename_i a cs hcs
    split at hv
    ·rename_i hsto
     simp only [Option.some.injEq] at hv
     subst hv
     obtain ⟨v,w',hr,hg⟩:=sound_box (P:=P) h ds (e:=e) hc hcs hsto hd
     exact ⟨v,w',by simp only [execOp,heq];exact run_next hr,hg⟩
    ·simp at hv
   ·simp at hv
  ·simp at hc
 | alloc d is=>
  refine ⟨fun _=>?_,by simp [VOp.isSt]⟩
  have hd:=hd rfl
  simp only [VOp.dst] at hd
  simp only [opIs] at hc
  split at hc
  ·rename_i e heq
   simp only [vop] at hv
   split at hv
   ·rename_i hi
    simp only [Option.some.injEq] at hv
    subst hv
    obtain ⟨v,w',hr,hg⟩:=sound_alloc (P:=P) h hc hi hd
    exact ⟨v,w',by simp only [execOp,heq];exact run_next hr,hg⟩
   ·simp at hv
  ·simp at hc
 | bld d is ps=>
  refine ⟨fun _=>?_,by simp [VOp.isSt]⟩
  have hd:=hd rfl
  simp only [VOp.dst] at hd
  simp only [opIs] at hc
  split at hc
  ·rename_i t parts heq
   simp only [vop] at hv
   split at hv
   ·rename_i l hl
    split at hv
    ·rename_i hi
     simp only [Option.some.injEq] at hv
     subst hv
     obtain ⟨v,hr,hg⟩:=sound_bld (P:=P) h ds hc hi hl hd
     exact ⟨v,w,by simp only [execOp,heq];exact run_next hr,hg⟩
    ·simp at hv
   ·simp at hv
  ·simp at hc
 | fld d x off n agg=>
  refine ⟨fun _=>?_,by simp [VOp.isSt]⟩
  have hd:=hd rfl
  simp only [VOp.dst] at hd
  simp only [opIs] at hc
  split at hc
  ·rename_i t x' f heq
   simp only [Bool.and_eq_true,decide_eq_true_eq,beq_iff_eq] at hc
   simp only [vop] at hv
   split at hv
   ·rename_i cs hcs
    split at hv
    ·rename_i hl
     simp only [Option.some.injEq] at hv
     subst hv
     obtain ⟨v,hr,hs⟩:=sound_fld (P:=P) h ds hc.2 hc.1 hcs hl.1 hl.2
     exact Good.of_set h hs hd (by simp only [execOp,heq];exact run_next hr)
    ·simp at hv
   ·simp at hv
  ·simp at hc
 | lits d p rows=>
  refine ⟨fun _=>?_,by simp [VOp.isSt]⟩
  have hd:=hd rfl
  simp only [VOp.dst] at hd
  simp only [opIs] at hc
  split at hc
  ·rename_i t len parts heq
   simp only [Bool.and_eq_true,decide_eq_true_eq,beq_iff_eq] at hc
   obtain ⟨⟨⟨rfl,h2⟩,h3⟩,h4⟩:=hc
   obtain ⟨e,he1,he2⟩:=sliceIs_some h2
   obtain ⟨zero,hz1,hz2⟩:=elemOk_some he2
   simp only [vop] at hv
   split at hv
   ·rename_i es us hr
    split at hv
    ·rename_i hdist
     simp only [Option.some.injEq] at hv
     subst hv
     obtain ⟨v,w',hrun,hg⟩:=sound_lits (P:=P) h ds (t:=t) (zero:=zero) (lim:=0) (by simp [sliceIs,underIs,he1,hz1]) hz2 h3 h4 hr hdist hd
     exact ⟨v,w',by simp only [execOp,heq];exact run_next hrun,hg⟩
    ·simp at hv
   ·simp at hv
  ·simp at hc
 | litr d vs=>
  refine ⟨fun _=>?_,by simp [VOp.isSt]⟩
  have hd:=hd rfl
  simp only [VOp.dst] at hd
  simp only [opIs] at hc
  split at hc
  ·rename_i t len parts heq
   simp only [Bool.and_eq_true,decide_eq_true_eq,beq_iff_eq] at hc
   obtain ⟨⟨⟨rfl,h2⟩,h3⟩,h4⟩:=hc
   obtain ⟨e,he1,he2⟩:=sliceIs_some h2
   obtain ⟨zero,hz1,hz2⟩:=elemOk_some he2
   simp only [vop] at hv
   split at hv
   ·rename_i hvs
    simp only [Option.some.injEq] at hv
    subst hv
    obtain ⟨v,w',hrun,hg⟩:=sound_litr (P:=P) h ds (t:=t) (zero:=zero) (lim:=0) (by simp [sliceIs,underIs,he1,hz1]) hz2 h3 h4 hvs hd
    exact ⟨v,w',by simp only [execOp,heq];exact run_next hrun,hg⟩
   ·simp at hv
  ·simp at hc
 | mkk d n p zero lim id=>
  refine ⟨fun _=>?_,by simp [VOp.isSt]⟩
  have hd:=hd rfl
  simp only [VOp.dst] at hd
  simp only [opIs] at hc
  split at hc
  ·rename_i t l c heq
   simp only [Bool.and_eq_true,decide_eq_true_eq,beq_iff_eq] at hc
   obtain ⟨⟨⟨h1,h2⟩,h3⟩,h4⟩:=hc
   simp only [vop] at hv
   split at hv
   ·rename_i k hk
    split at hv
    ·rename_i h0
     split at hv
     ·rename_i hid
      simp only [Option.some.injEq] at hv
      subst hv
      obtain ⟨kd,e1⟩:=h.num ds h1 hk
      obtain ⟨kd',e2⟩:=h.num ds h2 hk
      obtain ⟨v,w',hrun,hg⟩:=sound_mkk (P:=P) h h3 h4 h0 kd kd' hid hd
      exact ⟨v,w',by simp only [execOp,heq,e1,e2];exact run_next hrun,hg⟩
     ·simp at hv
    ·simp at hv
   ·simp at hv
  ·simp at hc
 | mk d n p zero lim=>
  refine ⟨fun _=>?_,by simp [VOp.isSt]⟩
  have hd:=hd rfl
  simp only [VOp.dst] at hd
  simp only [opIs] at hc
  split at hc
  ·rename_i t l c heq
   simp only [Bool.and_eq_true,decide_eq_true_eq,beq_iff_eq] at hc
   obtain ⟨⟨⟨h1,h2⟩,h3⟩,h4⟩:=hc
   simp only [vop] at hv
   split at hv
   ·rename_i k hk
    split at hv
    ·rename_i h0
     simp only [Option.some.injEq] at hv
     subst hv
     obtain ⟨kd,e1⟩:=h.num ds h1 hk
     obtain ⟨kd',e2⟩:=h.num ds h2 hk
     obtain ⟨v,w',hrun,hg⟩:=sound_mk (P:=P) h h3 h4 h0 kd kd' hd
     exact ⟨v,w',by simp only [execOp,heq,e1,e2];exact run_next hrun,hg⟩
    ·simp at hv
   ·simp at hv
  ·simp at hc
 | app d x y p lim=>
  refine ⟨fun _=>?_,by simp [VOp.isSt]⟩
  have hd:=hd rfl
  simp only [VOp.dst] at hd
  simp only [opIs] at hc
  split at hc
  ·rename_i b x' y' t tx heq
   simp only [Bool.and_eq_true,decide_eq_true_eq,beq_iff_eq] at hc
   obtain ⟨⟨⟨⟨rfl,h1⟩,h2⟩,h3⟩,h4⟩:=hc
   obtain ⟨e,he1,he2⟩:=sliceIs_some h3
   obtain ⟨e',hx1,_⟩:=sliceIs_some h4
   obtain ⟨zero,hz1,hz2⟩:=elemLim_some he2
   simp only [vop] at hv
   obtain ⟨v,w',hrun,hg⟩:=sound_append (P:=P) h ds (ty:=o.type) he1 hx1 hz1 hz2 h1 h2 hv hd
   refine ⟨v,w',?_,hg⟩
   simp [execOp,heq,resolve,invoke,builtin,hrun]
  ·simp at hc
 | appr d x y p lim=>
  refine ⟨fun _=>?_,by simp [VOp.isSt]⟩
  have hd:=hd rfl
  simp only [VOp.dst] at hd
  simp only [opIs] at hc
  split at hc
  ·rename_i b x' y' t tx heq
   simp only [Bool.and_eq_true,decide_eq_true_eq,beq_iff_eq] at hc
   obtain ⟨⟨⟨⟨rfl,h1⟩,h2⟩,h3⟩,h4⟩:=hc
   obtain ⟨e,he1,he2⟩:=sliceIs_some h3
   obtain ⟨e',hx1,_⟩:=sliceIs_some h4
   obtain ⟨zero,hz1,hz2⟩:=elemLim_some he2
   simp only [vop] at hv
   obtain ⟨v,w',hrun,hg⟩:=sound_appr (P:=P) h ds (ty:=o.type) he1 hx1 hz1 hz2 h1 h2 hv hd
   refine ⟨v,w',?_,hg⟩
   simp [execOp,heq,resolve,invoke,builtin,hrun]
  ·simp at hc
 | apps d x y lim=>
  refine ⟨fun _=>?_,by simp [VOp.isSt]⟩
  have hd:=hd rfl
  simp only [VOp.dst] at hd
  simp only [opIs] at hc
  split at hc
  ·rename_i b x' y' t tx heq
   simp only [Bool.and_eq_true,decide_eq_true_eq,beq_iff_eq] at hc
   obtain ⟨⟨⟨⟨rfl,h1⟩,h2⟩,h3⟩,h4⟩:=hc
   obtain ⟨e,he1,he2⟩:=sliceIs_some h3
   obtain ⟨dd,hx1,hx2⟩:=underIs_some h4
   cases dd <;> simp at hx2
   obtain ⟨zero,hz1,hz2⟩:=elemLim_some he2
   simp only [vop] at hv
   obtain ⟨v,w',hrun,hg⟩:=sound_appendS (P:=P) h ds (ty:=o.type) he1 hx1 hz1 hz2 h1 h2 hv hd
   refine ⟨v,w',?_,hg⟩
   simp [execOp,heq,resolve,invoke,builtin,hrun]
  ·simp at hc
 | slc d x lo hi n=>
  refine ⟨fun _=>?_,by simp [VOp.isSt]⟩
  have hd:=hd rfl
  simp only [VOp.dst] at hd
  simp only [opIs] at hc
  split at hc
  ·rename_i t x' lo' hi' heq
   simp only [Bool.and_eq_true,decide_eq_true_eq,beq_iff_eq] at hc
   obtain ⟨⟨⟨h1,h2⟩,h3⟩,h4⟩:=hc
   simp only [vop,Option.bind_eq_some_iff,Option.map_eq_some_iff] at hv
   obtain ⟨c,hcx,s,hs,rfl⟩:=hv
   obtain ⟨v,hr,hsr⟩:=sound_slc (P:=P) h ds h4 h1 h2 h3 hcx hs
   exact Good.of_set h hsr hd (by simp only [execOp,heq];exact run_next hr)
  ·simp at hc
 | eqn d neg x=>
  refine ⟨fun _=>?_,by simp [VOp.isSt]⟩
  have hd:=hd rfl
  simp only [VOp.dst] at hd
  simp only [opIs] at hc
  split at hc
  ·rename_i k t x' v t' heq
   simp only [Bool.and_eq_true,decide_eq_true_eq,beq_iff_eq] at hc
   obtain ⟨⟨⟨h1,h2⟩,h3⟩,h4⟩:=hc
   obtain ⟨e,he1,_⟩:=sliceIs_some h4
   have:=litEq_eq h2
   subst this
   simp only [vop,Option.map_eq_some_iff] at hv
   obtain ⟨b,hb,rfl⟩:=hv
   obtain ⟨a,n,c,e1,rfl⟩:=sound_eqn h ds h3 hb
   refine Good.of_set h (litRel rfl) hd ?_
   simp only [execOp,heq]
   rw [e1]
   exact run_next (run_eqn he1 k neg h1 _ _ a n c)
  ·simp at hc
 | b2s d x=>
  refine ⟨fun _=>?_,by simp [VOp.isSt]⟩
  have hd:=hd rfl
  simp only [VOp.dst] at hd
  simp only [opIs] at hc
  split at hc
  ·rename_i s t x' heq
   simp only [Bool.and_eq_true,decide_eq_true_eq,beq_iff_eq] at hc
   obtain ⟨⟨h1,h2⟩,h3⟩:=hc
   obtain ⟨e,he1,he2⟩:=sliceIs_some h2
   obtain ⟨u,hu1,hu2⟩:=underIs_some he2
   have hu:u=.int .u8:=by split at hu2 <;> simp_all
   subst hu
   obtain ⟨dd,hx1,hx2⟩:=underIs_some h3
   cases dd <;> simp at hx2
   simp only [vop] at hv
   split at hv
   ·rename_i c hcx
    split at hv
    ·rename_i es us hl
     simp only [Option.map_eq_some_iff] at hv
     obtain ⟨bs,hbs,rfl⟩:=hv
     obtain ⟨hcr,ho⟩:=h.cell h1 hcx ds
     have ho1:((Act.mk tm ds).eval x').oneCell' = true:=by
      rcases ho with ho | ⟨_,rfl⟩
      ·exact ho
      ·simp [V.lendT,undef] at hl
     have hrd:=(h.lendT hl hcr (F':=fun _=>True) (fun _ _=>trivial) (fun _ _ _ _ _=>trivial) ho1).1
     have hsl:∃ a l c,(Act.mk tm ds).eval x'=.slice a l c:=by
      generalize (Act.mk tm ds).eval x' = v0 at hrd
      cases hrd with
      | emp _=>exact ⟨_,_,_,rfl⟩
      | sl _ _ _ _ _ _ _=>exact ⟨_,_,_,rfl⟩
     obtain ⟨a,l,cp,e0⟩:=hsl
     have hrun:=run_b2s (P:=P) hrd hbs
     rw [e0,←run_convert_bytes_string w s t e a l cp he1 hu1 hx1,←e0] at hrun
     exact Good.of_set h (litRel rfl) hd (by simp only [execOp,heq];exact run_next hrun)
    ·simp at hv
   ·simp at hv
  ·simp at hc
 | s2b d x=>
  refine ⟨fun _=>?_,by simp [VOp.isSt]⟩
  have hd:=hd rfl
  simp only [VOp.dst] at hd
  simp only [opIs] at hc
  split at hc
  ·rename_i s t x' heq
   simp only [Bool.and_eq_true,decide_eq_true_eq,beq_iff_eq] at hc
   obtain ⟨⟨h1,h2⟩,h3⟩:=hc
   obtain ⟨e,he1,he2⟩:=sliceIs_some h3
   obtain ⟨u,hu1,hu2⟩:=underIs_some he2
   have hu:u=.int .u8:=by split at hu2 <;> simp_all
   subst hu
   obtain ⟨dd,hx1,hx2⟩:=underIs_some h2
   simp only [vop] at hv
   split at hv
   ·rename_i sv hs
    split at hv
    ·rename_i hsz
     simp only [Option.some.injEq] at hv
     subst hv
     obtain ⟨v,w',hrun,hg⟩:=sound_s2b (P:=P) h hx1 he1 hu1 sv (by simp [maxLen];omega) hd
     rw [←h.val h1 hs ds] at hrun
     exact ⟨v,w',by simp only [execOp,heq];exact run_next hrun,hg⟩
    ·simp at hv
   ·simp at hv
  ·simp at hc
 | cvb d x=>
  refine ⟨fun _=>?_,by simp [VOp.isSt]⟩
  have hd:=hd rfl
  simp only [VOp.dst] at hd
  simp only [opIs] at hc
  split at hc
  ·rename_i s t x' heq
   simp only [Bool.and_eq_true,decide_eq_true_eq,beq_iff_eq] at hc
   obtain ⟨⟨h1,rfl⟩,h3⟩:=hc
   obtain ⟨e,he1,he2⟩:=sliceIs_some h3
   obtain ⟨u,hu1,hu2⟩:=underIs_some he2
   have hu:u=.int .u8:=by split at hu2 <;> simp_all
   subst hu
   simp only [vop] at hv
   split at hv
   ·rename_i id p len hs
    simp only [Option.map_eq_some_iff] at hv
    obtain ⟨ob,hob,rfl⟩:=hv
    have hc0:=(h.cell h1 hs ds).1
    have hr:=hc0.2 ob hob
    cases hg:Go id p with
    | none=>simp only [hg] at hr;simp at hr
    | some bk=>
     simp only [hg] at hr
     rcases hr with ⟨_,e1,_⟩|⟨h0,_⟩
     ·rw [e1] at hc0
      obtain ⟨w',hrun,hgd⟩:=sound_cvb (P:=P) h hfr he1 hu1 (h.oA _ _ (h.oO id p bk hg)).1 hd (x:=.v false [.ref id p 0 (len+1)]) ⟨_,rfl,.inl rfl,hc0⟩
      rw [←e1] at hrun
      exact ⟨_,w',by simp only [execOp,heq];exact run_next hrun,by rw [←e1] at hgd;exact hgd⟩
     ·omega
   ·simp at hv
  ·simp at hc
 | mkf d f caps=>
  refine ⟨fun _=>?_,by simp [VOp.isSt]⟩
  have hd:=hd rfl
  simp only [VOp.dst] at hd
  simp only [opIs] at hc
  split at hc
  ·rename_i f' caps' heq
   simp only [Bool.and_eq_true,decide_eq_true_eq,beq_iff_eq] at hc
   obtain ⟨rfl,h2⟩:=hc
   simp only [vop,Option.map_eq_some_iff] at hv
   obtain ⟨l,hl,rfl⟩:=hv
   refine Good.of_set h (sound_mkf h ds hl h2) hd ?_
   simp [execOp,heq,Instr.makeFunc]
  ·simp at hc
 | ext d x i=>
  refine ⟨fun _=>?_,by simp [VOp.isSt]⟩
  have hd:=hd rfl
  simp only [VOp.dst] at hd
  simp only [opIs] at hc
  split at hc
  ·rename_i x' i' heq
   simp only [Bool.and_eq_true,decide_eq_true_eq,beq_iff_eq] at hc
   obtain ⟨h1,rfl⟩:=hc
   simp only [vop] at hv
   split at hv
   ·rename_i l hl
    simp only [Option.map_eq_some_iff] at hv
    obtain ⟨y,hy,rfl⟩:=hv
    obtain ⟨v,hr,hs⟩:=sound_ext (P:=P) h ds h1 hl hy
    exact Good.of_set h hs hd (by simp only [execOp,heq];exact run_next hr)
   ·simp at hv
  ·simp at hc
end
end Go.Proofs.V

namespace Go.Proofs.V
open Go
variable {P:Program}
def guardIs (ops:List Oper):Option (Nat×Bool)→Option (Nat×Bool)→Bool
 | none,none=>true
 | some (s,b),some (j,b')=>b==b' && (ops[j]?).bind (·.dst)==some s
 | _,_=>false
def roIs (P:Program) (pins:List Nat) (ops:List Oper) (o:ROp) (p:Oper):Bool:=
 opIs P o.op p.op&&(if o.op.isSt then p.dst.isNone else p.dst==some o.op.dst && !pins.contains o.op.dst)&&guardIs ops o.g p.guard
def rosAre (P:Program) (pins:List Nat) (ops:List Oper):List ROp→List Oper→Bool
 | [],[]=>true
 | o::os,p::ps=>roIs P pins ops o p&&rosAre P pins ops os ps
 | _,_=>false
def predsOf (p:Oper):List Nat:=(p.after.toList.filter (Region.binds .any)).map (·.on)
def ancs:List Oper→List (List Nat)→List (List Nat)
 | [],acc=>acc
 | p::ps,acc=>ancs ps (acc++[(List.range acc.length).filter fun k=>(predsOf p).contains k||(predsOf p).any fun j=>(acc.getD j []).contains k])
def ancOf (anc:List (List Nat)) (i:Nat):List Nat:=anc.getD i []
def predsAt (ops:List Oper) (i:Nat):List Nat:=
 match ops[i]? with
 | some p=>predsOf p
 | none=>[]
def mayPre (tbl:FuncId→Option VF) (ops:List Oper) (anc:List (List Nat)) (x y:Nat×ROp):Bool:=(comm tbl x.2 y.2||(ancOf anc y.1).contains x.1) && !(predsAt ops x.1).contains y.1
def allPre (tbl:FuncId→Option VF) (ops:List Oper) (anc:List (List Nat)):List (Nat×ROp)→Bool
 | []=>true
 | x::l=>l.all (mayPre tbl ops anc x)&&allPre tbl ops anc l
def drawIs (P:Program) (tbl:FuncId→Option VF) (pins:List Nat) (ops:List Oper) (l:List (Nat×ROp)):Bool:=
 P.follows .mixedOrders&&l.length==ops.length&&distinct (l.map (·.1))&&((List.range ops.length).all fun i=>(l.map (·.1)).contains i) &&
 (l.all fun x=>match ops[x.1]? with
  | some p=>roIs P pins ops x.2 p&&(predsOf p).all fun j=>j != x.1&&decide (j < ops.length)
  | none=>false) &&
 allPre tbl ops (ancs ops []) l
def chk (P:Program) (tbl:FuncId→Option VF) (pins:List Nat):VC→Code→Bool
 | .skip,c=>match c with | .skip=>true | _=>false
 | .r _ l,c=>match c with | .region _ ops false=>rosAre P pins ops.toList l ops.toList | _=>false
 | .d _ l,c=>match c with | .region _ ops true=>drawIs P tbl pins ops.toList l | _=>false
 | .kp _ a,c=>chk P tbl pins a c
 | .pre _ a,c=>chk P tbl pins a c
 | .seq a b,c=>match c with | .seq x y=>chk P tbl pins a x&&chk P tbl pins b y | _=>false
 | .ite o a b,c=>match c with | .cond o' x y=>opdIs o o' && chk P tbl pins a x&&chk P tbl pins b y | _=>false
 | .blk id a,c=>match c with | .block id' x=>id==id' && chk P tbl pins a x | _=>false
 | .loop _ a,c=>match c with | .loop x=>chk P tbl pins a x | _=>false
 | .exit id,c=>match c with | .exit id'=>id==id' | _=>false
 | .ret,c=>match c with | .ret=>true | _=>false
structure GInv where
 gl:Nat
 I:World→Prop
 keep:∀ w w' : World,(∀ b,b < gl→w'.heap[b]? = w.heap[b]?)→I w→I w'
def GA (g:GInv) (A F:Nat→Prop) (w:World):Prop:=(∀ b,A b→g.gl≤b)∧g.gl≤w.heap.size∧g.I w∧(∀ b,A b→FrOk w b)∧∀ b,b < g.gl→F b
theorem GA.mono {g:GInv} {A F F' : Nat→Prop} {w:World} (h:GA g A F w) (hf:∀ b,F b→F' b):GA g A F' w:=⟨h.1,h.2.1,h.2.2.1,h.2.2.2.1,fun b hb=>hf b (h.2.2.2.2 b hb)⟩
theorem GA.step {g:GInv} {A F F' : Nat→Prop} {w w' : World} (h:GA g A F w) (s:Step A w w') (hf:∀ b,F b→F' b):GA g A F' w':=
 ⟨h.1,Nat.le_trans h.2.1 s.size,g.keep w w' (fun b hb=>s.heap b (Nat.lt_of_lt_of_le hb h.2.1) fun ha=>by have:=h.1 b ha;omega) h.2.2.1,fun b hb=>s.fr b (.inr (h.2.2.2.1 b hb)),fun b hb=>hf b (h.2.2.2.2 b hb)⟩
variable {g:GInv}
section
variable {A:Nat→Prop} {pin:List (Nat×Value)} {w w' : World} {F:Nat→Prop} {O:Nat→Option Ow} {Go:Nat→Gh} {Gv:Nat→Option Nat} {st st' : St} {tm:Array Value}
def CallOk (g:GInv) (P:Program) (tbl:FuncId→Option VF) (run:FuncId→List Arg→Option FRes):Prop:=
 ∀ {A:Nat→Prop} {pin:List (Nat×Value)} {w:World} {F:Nat→Prop} {O:Nat→Option Ow} {Go:Nat→Gh} {Gv:Nat→Option Nat} {st st' : St} {tm:Array Value} (ds:List Deferred) {v:VOp} {o:Oper},
  GA g A F w→Rel A pin w F O Go Gv st tm→opIs P v o.op=true→vop tbl run st v=some st'→v.isCall=true→(∀ x,(v.dst,x) ∉ pin)→o.dst=some v.dst→
  ∀ (next:Act→World→Prop) (Q:Exit→Act→World→Prop),(∀ tm' w',Good A pin w F st' tm' w'→next ⟨tm',ds⟩ w')→o.wp P ⟨tm,ds⟩ w next Q
variable {tbl:FuncId→Option VF} {run:FuncId→List Arg→Option FRes}
theorem sound_opwp (hcall:CallOk g P tbl run) (ga:GA g A F w) (h:Rel A pin w F O Go Gv st tm) (ds:List Deferred) {v:VOp} {o:Oper} (hc:opIs P v o.op=true) (hv:vop tbl run st v=some st')
  (hd:(if v.isSt then o.dst.isNone else o.dst==some v.dst)=true) (hp:v.isSt=false→∀ x,(v.dst,x) ∉ pin) (next:Act→World→Prop) (Q:Exit→Act→World→Prop) (hn:∀ tm' w',Good A pin w F st' tm' w'→next ⟨tm',ds⟩ w') :
  o.wp P ⟨tm,ds⟩ w next Q:=by
 cases hk:v.isCall with
 | true=>
  have hs:v.isSt=false:=by cases v <;> simp_all [VOp.isCall,VOp.isSt]
  simp [hs] at hd
  exact hcall ds ga h hc hv hk (hp hs) hd next Q hn
 | false=>
  obtain ⟨h1,h2⟩:=sound_op ga.2.2.2.1 h ds hc hv hk hp
  unfold Oper.wp
  cases hs:v.isSt with
  | false=>
   simp [hs] at hd
   obtain ⟨val,w',hr,hg⟩:=h1 hs
   rw [hr,Oper.upon_value,hd]
   exact hn _ _ hg
  | true=>
   simp [hs] at hd
   obtain ⟨w',hr,hg⟩:=h2 hs
   rw [hr,Oper.upon_skip,hd]
   exact hn _ _ hg
def pinsOk (pins:List Nat) (pin:List (Nat×Value)):Prop:=∀ k x,(k,x) ∈ pin→k ∈ pins
theorem sound_ro1 (hcall:CallOk g P tbl run) {pins:List Nat} (hpins:pinsOk pins pin) (ds:List Deferred) {ops:Array Oper} (Q:Exit→Act→World→Prop) {o:ROp} {p:Oper} {i:Nat} {K:Act→World→Prop} {st1:St} (hi:ops[i]? = some p)
  (ga:GA g A F w) (h:Rel A pin w F O Go Gv st tm) (hc:roIs P pins ops.toList o p=true) (hst1:vro1 tbl run st o=some st1) (hq:∀ tm' w',Good A pin w F st1 tm' w'→K ⟨tm',ds⟩ w'):wpOp P ops Q i K ⟨tm,ds⟩ w:=by
 simp only [roIs,Bool.and_eq_true] at hc
 obtain ⟨⟨hop,hdst⟩,hguard⟩:=hc
 unfold wpOp
 rw [hi]
 simp only
 have hdst' : (if o.op.isSt then p.dst.isNone else p.dst==some o.op.dst)=true:=by
  cases hs:o.op.isSt <;> simp [hs] at hdst ⊢
  ·exact hdst.1
  ·exact hdst
 have hpin:o.op.isSt=false→∀ x,(o.op.dst,x) ∉ pin:=by
  intro hs x hx
  simp [hs] at hdst
  exact hdst.2 (hpins _ _ hx)
 have hexec:∀ st2,(preAll st o.fz).bind (fun st1=>vop tbl run st1 o.op)=some st2→st2=st1→p.wp P ⟨tm,ds⟩ w K Q:=by
  rintro st2 h2 rfl
  obtain ⟨sf,hf,hvop⟩:=Option.bind_eq_some_iff.1 h2
  obtain ⟨F1,O1,Go1,Gv1,hr1,hs1,hf1,hf1'⟩:=preAll_good o.fz h hf
  refine sound_opwp hcall (ga.mono hf1) hr1 ds hop hvop hdst' hpin _ Q (fun tm' w' hg=>hq _ _ ?_)
  obtain ⟨F2,O2,Go2,Gv2,hr2,hs2,hf2,hf2'⟩:=hg
  exact ⟨F2,O2,Go2,Gv2,hr2,hs1.trans hs2,fun b hb=>hf2 b (hf1 b hb),fun b hb=>(hf2' b hb).elim (hf1' b) .inr⟩
 have hskip:st1=o.op.skipS st→K ((Act.mk tm ds).put p.dst undef) w:=by
  intro e
  subst e
  cases hs:o.op.isSt with
  | true=>
   simp [hs] at hdst
   rw [hdst]
   have:o.op.skipS st=st:=by cases ho:o.op <;> simp_all [VOp.isSt,VOp.skipS]
   exact hq _ _ (by rw [this];exact Good.same h)
  | false=>
   simp [hs] at hdst
   rw [hdst.1]
   have:o.op.skipS st=st.set o.op.dst undefS:=by cases ho:o.op <;> simp_all [VOp.isSt,VOp.skipS]
   exact hq _ _ (by rw [this];exact Good.set h undefRel (hpin hs))
 unfold vro1 at hst1
 cases hg:o.g with
 | none=>
  rw [hg] at hguard hst1
  simp only at hst1
  cases hg' : p.guard with
  | some x=>rw [hg'] at hguard;simp [guardIs] at hguard
  | none=>
   have hw:Region.wanted p (yielded ops tm)=true:=by simp [Region.wanted,hg']
   simp only [hw,if_true]
   exact .inl (hexec _ hst1 rfl)
 | some gs=>
  obtain ⟨s,want⟩:=gs
  rw [hg] at hguard hst1
  simp only at hst1
  cases hg' : p.guard with
  | none=>rw [hg'] at hguard;simp [guardIs] at hguard
  | some x=>
   obtain ⟨j,b'⟩:=x
   rw [hg'] at hguard
   simp [guardIs] at hguard
   obtain ⟨rfl,hj⟩:=hguard
   split at hst1
   ·rename_i v hslot
    have hs:s < tm.size:=by rw [h.size];exact (List.getElem?_eq_some_iff.1 hslot).1
    have hts:tm[s]? = some v:=by
     have:=h.slots s tm[s] _ (by simp [hs]) hslot
     obtain ⟨c,hc1,_,hc2⟩:=this
     simp at hc1
     subst hc1
     simp only [CRel] at hc2
     simp [hs,hc2]
    have hyl:(ops[j]?).bind (·.dst)=some s:=hj
    by_cases hvb:∃ b,v=.bool b
    ·obtain ⟨b,rfl⟩:=hvb
     have hy:yielded ops tm j=some b:=by
      unfold yielded
      rw [hyl]
      simp only [Option.bind_some,hts]
     simp only at hst1
     by_cases hb:b=want
     ·rw [if_pos hb] at hst1
      have hw:Region.wanted p (yielded ops tm)=true:=by simp [Region.wanted,hg',hy,hb]
      simp only [hw,if_true]
      exact .inl (hexec _ hst1 rfl)
     ·rw [if_neg hb] at hst1
      have hw:Region.wanted p (yielded ops tm)=false:=by simp [Region.wanted,hg',hy,hb]
      simp only [hw,Bool.false_eq_true,if_false]
      exact hskip (Option.some.inj hst1).symm
    ·have hy:yielded ops tm j=none:=by
      unfold yielded
      rw [hyl]
      simp only [Option.bind_some,hts]
      cases v <;> simp_all
     have hst2:some (o.op.skipS st)=some st1:=by
      rw [←hst1]
      cases v <;> simp_all
     have hw:Region.wanted p (yielded ops tm)=false:=by simp [Region.wanted,hg',hy]
     simp only [hw,Bool.false_eq_true,if_false]
     exact hskip (Option.some.inj hst2).symm
   ·simp at hst1
theorem Good.then {st1 st2:St} {F1:Nat→Prop} {tm2:Array Value} {w1 w2:World} (hs1:Step A w w1) (hf1:∀ b,F b→F1 b) (hf1' : ∀ b,F1 b→F b∨A b) (hg:Good A pin w1 F1 st2 tm2 w2):Good A pin w F st2 tm2 w2:=by
 obtain ⟨F2,O2,Go2,Gv2,hr2,hs2,hf2,hf2'⟩:=hg
 exact ⟨F2,O2,Go2,Gv2,hr2,hs1.trans hs2,fun b hb=>hf2 b (hf1 b hb),fun b hb=>(hf2' b hb).elim (hf1' b) .inr⟩
theorem sound_ro (hcall:CallOk g P tbl run) {pins:List Nat} (hpins:pinsOk pins pin) (ds:List Deferred) {ops:Array Oper} (Q:Exit→Act→World→Prop) {o:ROp} {p:Oper} {i:Nat} {K:Act→World→Prop} {st1:St} (hi:ops[i]? = some p)
  (ga:GA g A F w) (h:Rel A pin w F O Go Gv st tm) (hc:roIs P pins ops.toList o p=true) (hst1:vro tbl run st o=some st1) (hq:∀ tm' w',Good A pin w F st1 tm' w'→K ⟨tm',ds⟩ w'):wpOp P ops Q i K ⟨tm,ds⟩ w:=by
 unfold vro at hst1
 cases hk:o.kp with
 | none=>rw [hk] at hst1;exact sound_ro1 hcall hpins ds Q hi ga h hc hst1 hq
 | some l=>
  rw [hk] at hst1
  obtain ⟨st2,h1,h2⟩:=Option.bind_eq_some_iff.1 hst1
  split at h2
  ·obtain rfl:=Option.some.inj h2
   exact sound_ro1 hcall hpins ds Q hi ga h hc h1 hq
  ·simp at h2
theorem sound_ops (hcall:CallOk g P tbl run) {pins:List Nat} (hpins:pinsOk pins pin) (ds:List Deferred) {ops:Array Oper} (Q:Exit→Act→World→Prop):∀ (l:List ROp) (i:Nat) {w:World} {F:Nat→Prop} {O:Nat→Option Ow} {Go:Nat→Gh} {Gv:Nat→Option Nat} {st st' : St} {tm:Array Value},
  GA g A F w→Rel A pin w F O Go Gv st tm→rosAre P pins ops.toList l (ops.toList.drop i)=true→i+l.length=ops.size→vops tbl run st l=some st'→(∀ tm' w',Good A pin w F st' tm' w'→Q .normal ⟨tm',ds⟩ w')→
  wpOps P ops Q (List.range' i l.length) ⟨tm,ds⟩ w
 | [],i,w,F,O,Go,Gv,st,st',tm,ga,h,_,_,hv,hq=>by
  simp [vops] at hv
  subst hv
  exact hq _ _ (Good.same h)
 | o::l,i,w,F,O,Go,Gv,st,st',tm,ga,h,hc,hl,hv,hq=>by
  have hi:i < ops.size:=by simp at hl;omega
  have hdrop:ops.toList.drop i=ops[i]::ops.toList.drop (i+1):=by
   rw [List.drop_eq_getElem_cons (by simpa using hi)]
   simp
  rw [hdrop] at hc
  simp only [rosAre,Bool.and_eq_true] at hc
  simp only [vops] at hv
  split at hv
  ·rename_i st1 hst1
   simp only [List.length_cons,List.range'_succ,wpOps_cons]
   refine sound_ro hcall hpins ds Q (Array.getElem?_eq_getElem hi) ga h hc.1 hst1 ?_
   rintro tm1 w1 ⟨F1,O1,Go1,Gv1,hr1,hs1,hf1,hf1'⟩
   exact sound_ops hcall hpins ds Q l (i+1) (ga.step hs1 hf1) hr1 hc.2 (by simp at hl;omega) hv (fun tm' w' hg=>hq _ _ (Good.then (st1:=st) hs1 hf1 hf1' hg))
  ·simp at hv
theorem ancs_old:∀ (ps:List Oper) (acc:List (List Nat)) (i:Nat),i < acc.length→ancOf (ancs ps acc) i=ancOf acc i
 | [],acc,i,h=>rfl
 | p::ps,acc,i,h=>by
  simp only [ancs]
  rw [ancs_old ps _ i (by simp;omega)]
  simp [ancOf,List.getD,List.getElem?_append_left h]
theorem ancs_at:∀ (ps:List Oper) (acc:List (List Nat)) (t:Nat) (p:Oper),ps[t]? = some p→∀ k,k ∈ ancOf (ancs ps acc) (acc.length+t)→k ∈ predsOf p∨∃ j,j ∈ predsOf p∧j < acc.length+t∧k ∈ ancOf (ancs ps acc) j
 | [],acc,t,p,h,_,_=>by simp at h
 | q::ps,acc,0,p,h,k,hk=>by
  simp at h
  subst h
  simp only [ancs] at hk ⊢
  rw [ancs_old ps _ _ (by simp)] at hk
  simp [ancOf,List.getD] at hk
  rcases hk.2 with h1 | ⟨j,h1,h2⟩
  ·exact .inl h1
  ·right
   have hj:j < acc.length:=by
    rcases Nat.lt_or_ge j acc.length with h3 | h3
    ·exact h3
    ·rw [List.getElem?_eq_none h3] at h2;simp at h2
   refine ⟨j,h1,by omega,?_⟩
   rw [ancs_old ps _ _ (by simp;omega)]
   simp [ancOf,List.getD,List.getElem?_append_left hj]
   exact h2
 | q::ps,acc,t+1,p,h,k,hk=>by
  simp only [ancs] at hk ⊢
  have:=ancs_at ps (acc++[(List.range acc.length).filter fun k=>(predsOf q).contains k||(predsOf q).any fun j=>(acc.getD j []).contains k]) t p (by simpa using h) k (by
   rw [show (acc++[(List.range acc.length).filter fun k=>(predsOf q).contains k||(predsOf q).any fun j=>(acc.getD j []).contains k]).length+t=acc.length+(t+1) by simp;omega]
   exact hk)
  rcases this with h1 | ⟨j,h1,h2,h3⟩
  ·exact .inl h1
  ·exact .inr ⟨j,h1,by simp at h2;omega,h3⟩
def Closed (ops:List Oper) (listed:Array Bool):Prop:=∀ (i:Nat) (p:Oper),ops[i]? = some p→listed.getD i false=true→∀ j,j ∈ predsOf p→listed.getD j false=true
theorem ancs_listed {ops:List Oper} {listed:Array Bool} (hcl:Closed ops listed):∀ (i:Nat) (p:Oper),ops[i]? = some p→(∀ j,j ∈ predsOf p→listed.getD j false=true)→∀ k,k ∈ ancOf (ancs ops []) i→listed.getD k false=true:=by
 intro i
 induction i using Nat.strongRecOn with
 | _ i ih=>
  intro p hp hj k hk
  rcases ancs_at ops [] i p hp k (by simpa using hk) with h | ⟨j,h1,h2,h3⟩
  ·exact hj k h
  ·have h2' : j < i:=by simpa using h2
   have hlj:j < ops.length:=by have:=(List.getElem?_eq_some_iff.1 hp).1;omega
   exact ih j h2' ops[j] (by simp [hlj]) (hcl j ops[j] (by simp [hlj]) (hj j h1)) k h3
theorem preds_listed {p:Oper} {listed:Array Bool} : (p.after.all fun e=>!Region.binds .any e||listed.getD e.on false)=true↔∀ j,j ∈ predsOf p→listed.getD j false=true:=by
 simp only [Array.all_eq_true',predsOf,List.mem_map,List.mem_filter]
 constructor
 ·rintro h j ⟨e,⟨h1,h2⟩,rfl⟩
  have:=h e (by simpa using h1)
  simpa [h2] using this
 ·intro h e he
  cases hb:Region.binds .any e with
  | false=>simp
  | true=>simpa using h e.on ⟨e,⟨by simpa using he,hb⟩,rfl⟩
theorem sound_draw (hcall:CallOk g P tbl run) {pins:List Nat} (hpins:pinsOk pins pin) (ds:List Deferred) {ops:Array Oper} (Q:Exit→Act→World→Prop):∀ (n:Nat) (l:List (Nat×ROp)) (listed:Array Bool) {w:World} {F:Nat→Prop} {O:Nat→Option Ow} {Go:Nat→Gh} {Gv:Nat→Option Nat} {st st' : St} {tm:Array Value},
  GA g A F w→Rel A pin w F O Go Gv st tm→n=l.length→vops tbl run st (l.map (·.2))=some st'→(∀ tm' w',Good A pin w F st' tm' w'→Q .normal ⟨tm',ds⟩ w')→
  listed.size=ops.size→(∀ i,i < ops.size→(listed.getD i true=false↔∃ o,(i,o) ∈ l))→
  (∀ x,x ∈ l→∃ p,ops[x.1]? = some p∧roIs P pins ops.toList x.2 p=true∧∀ j,j ∈ predsOf p→j≠x.1∧j < ops.size)→
  (l.map (·.1)).Nodup→l.Pairwise (fun x y=>mayPre tbl ops.toList (ancs ops.toList []) x y=true)→Closed ops.toList listed→
  wpAny P .any ops Q n listed ⟨tm,ds⟩ w
 | 0,l,listed,w,F,O,Go,Gv,st,st',tm,ga,h,hn,hv,hq,hsz,hmem,hops,hnd,hpw,hcl=>by
  have:l=[]:=List.eq_nil_of_length_eq_zero hn.symm
  subst this
  simp [vops] at hv
  subst hv
  refine ⟨?_,hq _ _ (Good.same h)⟩
  unfold Region.ready
  rw [List.filter_eq_nil_iff]
  intro i hi
  have hi' : i < ops.size:=by simpa using hi
  have:listed.getD i true=true:=by
   cases hb:listed.getD i true with
   | true=>rfl
   | false=>have:=(hmem i hi').1 hb;simp at this
  simp only [this,Bool.not_true,Bool.false_and]
  simp
 | n+1,l,listed,w,F,O,Go,Gv,st,st',tm,ga,h,hn,hv,hq,hsz,hmem,hops,hnd,hpw,hcl=>by
  have hlt' : ∀ i,i < ops.size→∀ b b',listed.getD i b=listed.getD i b':=fun i hi b b'=>by simp [Array.getD,hsz,hi]
  have hready:∀ i,i ∈ Region.ready .any ops listed↔∃ p,ops[i]? = some p∧listed.getD i true=false∧∀ j,j ∈ predsOf p→listed.getD j false=true:=by
   intro i
   unfold Region.ready
   simp only [List.mem_filter,List.mem_range,Bool.and_eq_true,Bool.not_eq_true']
   constructor
   ·rintro ⟨hi,h1,h2⟩
    refine ⟨ops[i],by simp [hi],h1,?_⟩
    rw [Array.getElem?_eq_getElem hi] at h2
    exact preds_listed.1 (by simpa using h2)
   ·rintro ⟨p,hp,h1,h2⟩
    have hi:i < ops.size:=by
     rcases Nat.lt_or_ge i ops.size with h3 | h3
     ·exact h3
     ·rw [Array.getElem?_eq_none h3] at hp;simp at hp
    refine ⟨hi,h1,?_⟩
    rw [hp]
    simpa using preds_listed.2 h2
  refine ⟨fun hr=>?_,fun i hi=>?_⟩
  ·exfalso
   cases l with
   | nil=>simp at hn
   | cons x l=>
    obtain ⟨p,hp,_,hpre⟩:=hops x (by simp)
    have hx:x.1 < ops.size:=by
     rcases Nat.lt_or_ge x.1 ops.size with h3 | h3
     ·exact h3
     ·rw [Array.getElem?_eq_none h3] at hp;simp at hp
    have:x.1 ∈ Region.ready .any ops listed:=(hready x.1).2 ⟨p,hp,(hmem x.1 hx).2 ⟨x.2,by simp⟩,fun j hj=>by
     obtain ⟨h1,h2⟩:=hpre j hj
     by_cases hl:listed.getD j false=true
     ·exact hl
     ·exfalso
      have hl' : listed.getD j true=false:=by rw [hlt' j h2 true false];simpa using hl
      obtain ⟨o,ho⟩:=(hmem j h2).1 hl'
      simp only [List.mem_cons] at ho
      rcases ho with ho | ho
      ·exact h1 (by rw [←ho])
      ·have:=(List.pairwise_cons.1 hpw).1 _ ho
       simp only [mayPre,Bool.and_eq_true,Bool.not_eq_true'] at this
       have h4:=this.2
       simp only [predsAt] at h4
       have hp' : ops.toList[x.1]? = some p:=by simpa using hp
       rw [hp'] at h4
       simp at h4
       exact h4 hj⟩
    rw [hr] at this
    simp at this
  ·obtain ⟨p,hp,hun,hpre⟩:=(hready i).1 hi
   have hi' : i < ops.size:=by
    rcases Nat.lt_or_ge i ops.size with h3 | h3
    ·exact h3
    ·rw [Array.getElem?_eq_none h3] at hp;simp at hp
   obtain ⟨o,ho⟩:=(hmem i hi').1 hun
   obtain ⟨l1,l2,rfl⟩:=List.append_of_mem ho
   have hp' : ops.toList[i]? = some p:=by simpa using hp
   have hcom:∀ a,a ∈ l1.map (·.2)→comm tbl a o=true:=by
    intro a ha
    obtain ⟨x,hx,rfl⟩:=List.mem_map.1 ha
    have h1:=(List.pairwise_append.1 hpw).2.2 x hx (i,o) (by simp)
    simp only [mayPre,Bool.and_eq_true,Bool.or_eq_true] at h1
    rcases h1.1 with h2 | h2
    ·exact h2
    ·exfalso
     have h3:=ancs_listed hcl i p hp' hpre x.1 (by simpa using h2)
     obtain ⟨px,hpx,_⟩:=hops x (by simp [hx])
     have hx' : x.1 < ops.size:=by
      rcases Nat.lt_or_ge x.1 ops.size with h3 | h3
      ·exact h3
      ·rw [Array.getElem?_eq_none h3] at hpx;simp at hpx
     have:=(hmem x.1 hx').2 ⟨x.2,by simp [hx]⟩
     rw [hlt' x.1 hx' true false,h3] at this
     simp at this
   have hv1:vops tbl run st (l1.map (·.2)++[o]++l2.map (·.2))=some st':=by simpa using hv
   rw [vops_append] at hv1
   obtain ⟨sm,hm1,hm2⟩:=Option.bind_eq_some_iff.1 hv1
   have hb:=bubble _ hcom hm1
   simp only [vops] at hb
   split at hb
   ·rename_i st1 hst1
    obtain ⟨q,hq1,hq2,_⟩:=hops (i,o) (by simp)
    simp only at hq1
    rw [hp] at hq1
    simp at hq1
    subst hq1
    refine sound_ro hcall hpins ds Q hp ga h hq2 hst1 ?_
    rintro tm1 w1 ⟨F1,O1,Go1,Gv1,hr1,hs1,hf1,hf1'⟩
    have hin:∀ j,i≠j→∀ b,(listed.setIfInBounds i true).getD j b=listed.getD j b:=fun j hj b=>by
     simp only [Array.getD_eq_getD_getElem?,Array.getElem?_setIfInBounds,if_neg hj]
    have hii:∀ b,(listed.setIfInBounds i true).getD i b=true:=fun b=>by
     simp [Array.getD_eq_getD_getElem?,Array.getElem?_setIfInBounds,hsz,hi']
    have hnot:∀ o',(i,o') ∉ l1++l2:=by
     intro o' hm
     simp only [List.map_append,List.map_cons,List.nodup_append,List.nodup_cons,List.mem_cons,List.mem_map] at hnd
     simp only [List.mem_append] at hm
     rcases hm with hm | hm
     ·exact hnd.2.2 i ⟨_,hm,rfl⟩ i (.inl rfl) rfl
     ·exact hnd.2.1.1 ⟨_,hm,rfl⟩
    refine sound_draw hcall hpins ds Q n (l1++l2) (listed.setIfInBounds i true) (ga.step hs1 hf1) hr1 (by simp at hn ⊢;omega) (st':=st') ?_ (fun tm' w' hg=>hq _ _ (Good.then (st1:=st) hs1 hf1 hf1' hg)) (by simpa using hsz) ?_ (fun x hx=>hops x (by simp at hx ⊢;grind)) ?_ ?_ ?_
    ·rw [List.map_append,vops_append,hb];exact hm2
    ·intro j hj
     by_cases hij:i=j
     ·subst hij
      rw [hii]
      simp only [Bool.true_eq_false,false_iff]
      rintro ⟨o',ho'⟩
      exact hnot o' ho'
     ·rw [hin j hij,hmem j hj]
      constructor
      ·rintro ⟨o',ho'⟩
       simp only [List.mem_append,List.mem_cons,Prod.mk.injEq] at ho' ⊢
       rcases ho' with h1 | ⟨h1,_⟩ | h1
       ·exact ⟨o',.inl h1⟩
       ·exact absurd h1.symm hij
       ·exact ⟨o',.inr h1⟩
      ·rintro ⟨o',ho'⟩
       simp only [List.mem_append,List.mem_cons] at ho' ⊢
       exact ⟨o',ho'.elim .inl fun h=>.inr (.inr h)⟩
    ·exact hnd.sublist (List.Sublist.map _ (by simp))
    ·exact hpw.sublist (by simp)
    ·intro j q hq' hlj k hk
     by_cases hij:i=j
     ·subst hij
      rw [hp'] at hq'
      simp at hq'
      subst hq'
      have:=hpre k hk
      by_cases hik:i=k
      ·subst hik;exact hii _
      ·rw [hin k hik];exact this
     ·rw [hin j hij] at hlj
      have:=hcl j q hq' hlj k hk
      by_cases hik:i=k
      ·subst hik;exact hii _
      ·rw [hin k hik];exact this
   ·simp at hb
theorem wp_loop_n {c:Code} {Q:Exit→Act→World→Prop} (J:Nat→Act→World→Prop) (hz:∀ a w,¬ J 0 a w) (round:∀ n a w,J (n+1) a w→c.wp P (Exit.then (J n) Q) a w) {n:Nat} {a:Act} {w:World} (h₀:J n a w):(Code.loop c).wp P Q a w:=by
 intro b k cs
 have key:∀ n a w,J n a w→∃ e a' w',Q e a' w'∧Arrives P (lone (b.at a (.code c :: .inLoop c::k)) cs w) b k cs e a' w':=by
  intro n
  induction n with
  | zero=>exact fun a w h=>absurd h (hz a w)
  | succ n ih=>
   intro a w hI
   obtain ⟨e,a₁,w₁,hq,harr⟩:=round n a w hI b (.inLoop c::k) cs
   cases e with
   | normal=>
    obtain ⟨e₂,a₂,w₂,hq₂,harr₂⟩:=ih a₁ w₁ hq
    exact ⟨e₂,a₂,w₂,hq₂,.of_steps (Steps.trans harr (.one step_inLoop)) harr₂⟩
   | exit id=>exact ⟨_,a₁,w₁,hq,.pass (x:=.inLoop c) rfl (fun _ _=>.inl (by simp)) harr⟩
   | goto l=>exact ⟨_,a₁,w₁,hq,.pass (x:=.inLoop c) rfl (fun _ _=>.inl (by simp)) harr⟩
   | ret=>exact ⟨_,a₁,w₁,hq,.pass (x:=.inLoop c) rfl (fun _ _=>.inl (by simp)) harr⟩
   | panic ch=>exact ⟨_,a₁,w₁,hq,.pass (x:=.inLoop c) rfl (fun _ _=>.inl (by simp)) harr⟩
   | outgrown=>exact ⟨_,a₁,w₁,hq,.pass (x:=.inLoop c) rfl (fun _ _=>.inl (by simp)) harr⟩
 obtain ⟨e,a',w',hq,harr⟩:=key _ a w h₀
 exact ⟨e,a',w',hq,.of_steps (.one step_loop) harr⟩
def exitOf:VX→Exit
 | .n=>.normal
 | .e id=>.exit id
 | .r=>.ret
theorem allPre_pairwise {ops:List Oper} {anc:List (List Nat)} : ∀ {l:List (Nat×ROp)},allPre tbl ops anc l=true→l.Pairwise (fun x y=>mayPre tbl ops anc x y=true)
 | [],_=>List.Pairwise.nil
 | x::l,h=>by
  simp only [allPre,Bool.and_eq_true,List.all_eq_true] at h
  exact List.Pairwise.cons h.1 (allPre_pairwise h.2)
theorem sound_code (hcall:CallOk g P tbl run) {pins:List Nat} (hpins:pinsOk pins pin) (ds:List Deferred) (fuel:Nat):∀ (vc:VC) {c:Code} {w:World} {F:Nat→Prop} {O:Nat→Option Ow} {Go:Nat→Gh} {Gv:Nat→Option Nat} {st st' : St} {tm:Array Value} {x:VX} (Q:Exit→Act→World→Prop),
  chk P tbl pins vc c=true→GA g A F w→Rel A pin w F O Go Gv st tm→vexec tbl run fuel vc st=some (x,st')→(∀ tm' w',Good A pin w F st' tm' w'→Q (exitOf x) ⟨tm',ds⟩ w')→c.wp P Q ⟨tm,ds⟩ w:=by
 intro vc
 induction vc with
 | skip=>
  intro c w F O Go Gv st st' tm x Q hc ga h hv hq
  simp only [chk] at hc
  split at hc
  ·simp [vexec] at hv
   obtain ⟨rfl,rfl⟩:=hv
   exact wp_skip (hq _ _ (Good.same h))
  ·simp at hc
 | r id l=>
  intro c w F O Go Gv st st' tm x Q hc ga h hv hq
  simp only [chk] at hc
  split at hc
  ·rename_i id' ops
   simp only [vexec,Option.map_eq_some_iff] at hv
   obtain ⟨st1,hv,e⟩:=hv
   simp at e
   obtain ⟨rfl,rfl⟩:=e
   have hlen:l.length=ops.size:=by
    have:∀ (l:List ROp) (ps:List Oper),rosAre P pins ops.toList l ps=true→l.length=ps.length:=by
     intro l
     induction l with
     | nil=>intro ps hp;cases ps <;> simp_all [rosAre]
     | cons o l ih=>intro ps hp;cases ps with
      | nil=>simp [rosAre] at hp
      | cons p ps=>simp [rosAre] at hp;simp [ih ps hp.2]
    simpa using this l ops.toList hc
   have:=sound_ops hcall hpins ds Q l 0 ga h (by simpa using hc) (by omega) hv hq
   apply wp_region
   rw [List.range_eq_range',←hlen]
   exact this
  ·simp at hc
 | d id l=>
  intro c w F O Go Gv st st' tm x Q hc ga h hv hq
  simp only [chk] at hc
  split at hc
  ·rename_i id' ops
   simp only [vexec,Option.map_eq_some_iff] at hv
   obtain ⟨st1,hv,e⟩:=hv
   simp at e
   obtain ⟨rfl,rfl⟩:=e
   simp only [drawIs,Bool.and_eq_true,beq_iff_eq,List.all_eq_true] at hc
   obtain ⟨⟨⟨⟨⟨hm,hlen⟩,hdist⟩,hperm0⟩,hall⟩,hpre⟩:=hc
   have hops:∀ x,x ∈ l→∃ p,ops[x.1]? = some p∧roIs P pins ops.toList x.2 p=true∧∀ j,j ∈ predsOf p→j≠x.1∧j < ops.size:=by
    intro x hx
    have:=hall x hx
    split at this
    ·rename_i p hp
     simp only [Bool.and_eq_true,List.all_eq_true,bne_iff_ne,ne_eq,decide_eq_true_eq] at this
     exact ⟨p,by simpa using hp,this.1,fun j hj=>by simpa using this.2 j hj⟩
    ·simp at this
   have hnd:(l.map (·.1)).Nodup:=distinct_nodup hdist
   have hlt:∀ i,i ∈ l.map (·.1)→i < ops.size:=by
    intro i hi
    obtain ⟨x,hx,rfl⟩:=List.mem_map.1 hi
    obtain ⟨p,hp,_⟩:=hops x hx
    rcases Nat.lt_or_ge x.1 ops.size with h3 | h3
    ·exact h3
    ·rw [Array.getElem?_eq_none h3] at hp;simp at hp
   have hperm:∀ i,i < ops.size→i ∈ l.map (·.1):=fun i hi=>by simpa using hperm0 i (by simpa using hi)
   have hrel:Rel A pin { w with drawn:=w.drawn+1 } F O Go Gv st tm:=h.drew
   refine wp_region_any hm ?_
   refine sound_draw hcall hpins ds Q ops.size l (Array.replicate ops.size false) (ga.step (Step.drew A w) fun _ h=>h) hrel (by simpa using hlen.symm) hv (fun tm' w' hg=>hq _ _ ?_) (by simp) ?_ hops hnd ?_ ?_
   ·obtain ⟨F2,O2,Go2,Gv2,hr2,hs2,hf2,hf2'⟩:=hg
    exact ⟨F2,O2,Go2,Gv2,hr2,⟨hs2.size,hs2.heap,hs2.tape,hs2.os,hs2.output,hs2.fr⟩,hf2,hf2'⟩
   ·intro i hi
    have h1:(Array.replicate ops.size false).getD i true=false:=by simp [Array.getD,hi]
    simp only [h1,true_iff]
    obtain ⟨x,hx,e⟩:=List.mem_map.1 (hperm i hi)
    exact ⟨x.2,by rw [←e];exact hx⟩
   ·exact allPre_pairwise hpre
   ·intro i p _ h1
    simp [Array.getD_eq_getD_getElem?,Array.getElem?_replicate] at h1
    split at h1 <;> simp at h1
  ·simp at hc
 | kp keep a iha=>
  intro c w F O Go Gv st st' tm x Q hc ga h hv hq
  obtain ⟨F2,O2,Go2,Gv2,hr2,hs2,hf2,hf2'⟩:=sweep_good h keep
  exact iha Q hc (ga.mono hf2) hr2 hv fun tm' w' hg=>hq _ _ (Good.then (st1:=st) hs2 hf2 hf2' hg)
 | pre ps a iha=>
  intro c w F O Go Gv st st' tm x Q hc ga h hv hq
  simp only [vexec] at hv
  obtain ⟨st1,h1,hv⟩:=Option.bind_eq_some_iff.1 hv
  obtain ⟨F2,O2,Go2,Gv2,hr2,hs2,hf2,hf2'⟩:=preAll_good ps h h1
  exact iha Q hc (ga.mono hf2) hr2 hv fun tm' w' hg=>hq _ _ (Good.then (st1:=st) hs2 hf2 hf2' hg)
 | seq a b iha ihb=>
  intro c w F O Go Gv st st' tm x Q hc ga h hv hq
  simp only [chk] at hc
  split at hc
  ·rename_i cx cy
   simp only [Bool.and_eq_true] at hc
   simp only [vexec] at hv
   apply wp_seq
   split at hv
   ·rename_i st1 h1
    refine iha _ hc.1 ga h h1 (fun tm1 w1 hg=>?_)
    obtain ⟨F1,O1,Go1,Gv1,hr1,hs1,hf1,hf1'⟩:=hg
    refine ihb _ hc.2 (ga.step hs1 hf1) hr1 hv (fun tm2 w2 hg2=>hq _ _ ?_)
    obtain ⟨F2,O2,Go2,Gv2,hr2,hs2,hf2,hf2'⟩:=hg2
    exact ⟨F2,O2,Go2,Gv2,hr2,hs1.trans hs2,fun b hb=>hf2 b (hf1 b hb),fun b hb=>(hf2' b hb).elim (hf1' b) .inr⟩
   ·rename_i hne
    refine iha _ hc.1 ga h hv (fun tm1 w1 hg=>?_)
    have:=hq tm1 w1 hg
    cases x with
    | n=>exact absurd hv (hne _)
    | e i=>exact this
    | r=>exact this
  ·simp at hc
 | ite o a b iha ihb=>
  intro c w F O Go Gv st st' tm x Q hc ga h hv hq
  simp only [chk] at hc
  split at hc
  ·rename_i o' cx cy
   simp only [Bool.and_eq_true] at hc
   simp only [vexec] at hv
   split at hv
   ·rename_i hb
    exact wp_cond_true (h.val hc.1.1 hb ds) (iha Q hc.1.2 ga h hv hq)
   ·rename_i hb
    exact wp_cond_false (h.val hc.1.1 hb ds) (ihb Q hc.2 ga h hv hq)
   ·simp at hv
  ·simp at hc
 | blk id a iha=>
  intro c w F O Go Gv st st' tm x Q hc ga h hv hq
  simp only [chk] at hc
  split at hc
  ·rename_i id' cx
   simp only [Bool.and_eq_true,beq_iff_eq] at hc
   obtain ⟨rfl,hc⟩:=hc
   simp only [vexec] at hv
   apply wp_block
   split at hv
   ·rename_i i st1 h1
    refine iha _ hc ga h h1 (fun tm1 w1 hg=>?_)
    split at hv
    ·rename_i hi
     simp at hv
     obtain ⟨rfl,rfl⟩:=hv
     have:=hq tm1 w1 hg
     simpa [exitOf,Exit.inBlock,hi] using this
    ·rename_i hi
     simp at hv
     obtain ⟨rfl,rfl⟩:=hv
     have:=hq tm1 w1 hg
     simpa [exitOf,Exit.inBlock,hi] using this
   ·rename_i hne
    refine iha _ hc ga h hv (fun tm1 w1 hg=>?_)
    have:=hq tm1 w1 hg
    cases x with
    | n=>exact this
    | e i=>exact absurd hv (hne _ _)
    | r=>exact this
  ·simp at hc
 | loop keep a iha=>
  intro c w F O Go Gv st st' tm x Q hc ga h hv hq
  simp only [chk] at hc
  split at hc
  ·rename_i cx
   simp only [vexec] at hv
   refine wp_loop_n (fun n ac w1=>∃ F1 O1 Go1 Gv1 st1,Rel A pin w1 F1 O1 Go1 Gv1 st1 ac.tmps∧ac.defers=ds∧Step A w w1∧(∀ b,F b→F1 b)∧(∀ b,F1 b→F b∨A b)∧vloop (vexec tbl run fuel a) keep n st1=some (x,st')) ?_ ?_ (n:=fuel) ⟨F,O,Go,Gv,st,h,rfl,Step.refl A w,fun _ h=>h,fun _ h=>.inl h,hv⟩
   ·rintro a w1 ⟨F1,O1,Go1,Gv1,st1,_,_,_,_,_,hl⟩
    simp [vloop] at hl
   ·rintro n ⟨tm1,ds1⟩ w1 ⟨F1,O1,Go1,Gv1,st1,hr1,rfl,hs1,hf1,hf1',hl⟩
    simp only [vloop] at hl
    obtain ⟨F2,O2,Go2,Gv2,hr2,hs2,hf2,hf2'⟩:=sweep_good hr1 keep
    split at hl
    ·rename_i st2 h2
     refine iha _ hc (ga.step hs1 fun b hb=>hf2 b (hf1 b hb)) hr2 h2 (fun tm3 w3 hg=>?_)
     obtain ⟨F3,O3,Go3,Gv3,hr3,hs3,hf3,hf3'⟩:=hg
     exact ⟨F3,O3,Go3,Gv3,st2,hr3,rfl,hs1.trans (hs2.trans hs3),fun b hb=>hf3 b (hf2 b (hf1 b hb)),fun b hb=>(hf3' b hb).elim (fun hb=>(hf2' b hb).elim (hf1' b) .inr) .inr,hl⟩
    ·rename_i hne
     refine iha _ hc (ga.step hs1 fun b hb=>hf2 b (hf1 b hb)) hr2 hl (fun tm3 w3 hg=>?_)
     have:=hq tm3 w3 (by
      obtain ⟨F3,O3,Go3,Gv3,hr3,hs3,hf3,hf3'⟩:=hg
      exact ⟨F3,O3,Go3,Gv3,hr3,hs1.trans (hs2.trans hs3),fun b hb=>hf3 b (hf2 b (hf1 b hb)),fun b hb=>(hf3' b hb).elim (fun hb=>(hf2' b hb).elim (hf1' b) .inr) .inr⟩)
     cases x with
     | n=>exact absurd hl (hne _)
     | e i=>exact this
     | r=>exact this
  ·simp at hc
 | exit id=>
  intro c w F O Go Gv st st' tm x Q hc ga h hv hq
  simp only [chk] at hc
  split at hc
  ·simp at hc
   subst hc
   simp [vexec] at hv
   obtain ⟨rfl,rfl⟩:=hv
   exact wp_exit (hq _ _ (Good.same h))
  ·simp at hc
 | ret=>
  intro c w F O Go Gv st st' tm x Q hc ga h hv hq
  simp only [chk] at hc
  split at hc
  ·simp [vexec] at hv
   obtain ⟨rfl,rfl⟩:=hv
   exact wp_ret (hq _ _ (Good.same h))
  ·simp at hc
end
end Go.Proofs.V

namespace Go.Proofs.V
open Go
theorem newO_nil {O:Nat→Option Ow} {n:Nat} {G:Gh} {b:Nat} {x:Ow} (h:newO O [] n G b=some x):O b=some x∨∃ p c,G p=some ⟨b,c⟩:=by
 unfold newO at h
 split at h
 ·rename_i hp
  exact .inr hp
 ·split at h
  ·rename_i id q hq
   simp at h
   subst h
   exact .inl hq
  ·exact .inl h
theorem newOV_some {O:Nat→Option Ow} {n g b:Nat} {x:Ow} (h:newOV O n g b=some x):O b=some x∨b=g:=by
 unfold newOV at h
 split at h
 ·exact .inr ‹_›
 ·exact .inl h
section
variable {A:Nat→Prop} {pin:List (Nat×Value)} {w w' : World} {F:Nat→Prop} {O:Nat→Option Ow} {Go:Nat→Gh} {Gv:Nat→Option Nat} {st st' : St} {tm:Array Value}
theorem Rel.fresh (h:Rel A pin w F O Go Gv st tm) {G:Gh} {ot:List OT} {v:Value} {es:List (List T)} (ho:Own w F G (.own ot) v (.sl es))
  (hG:∀ p b,G p=some b→O b.g=none∧¬ F b.g∧A b.g∧b.g < w.heap.size) (hinj:∀ p q b b',G p=some b→G q=some b'→b.g=b'.g→p=q) :
  ∃ O' Go',Rel A pin w F O' Go' Gv { st with objs:=st.objs++[some ⟨ot,es⟩] } tm∧Ext w w F F Go Go' Gv Gv st { st with objs:=st.objs++[some ⟨ot,es⟩] }∧
   (∀ b x,O' b=some x→O b=some x∨∃ r bk,G r=some bk∧bk.g=b)∧Go' st.objs.length=G:=by
 have hr:=h.newObj (Step.refl A w) (us:=[]) (fun b _ _ _=>Same.refl w b) (fun b _=>Same.refl w b) ho (fun p b hb=>.inl (hG p b hb)) hinj
 refine ⟨_,_,hr,?_,?_,?_⟩
 ·refine ⟨fun b _=>Same.refl w b,fun _ h=>h,by simp,Nat.le_refl _,fun id hid o' ho'=>?_,fun id _ cs hcs=>⟨⟨cs,hcs⟩,rfl⟩⟩
  refine ⟨o',?_,rfl,?_⟩
  ·simp only [obj_eq,List.getElem?_append,hid,if_true] at ho' ⊢
   exact ho'
  ·simp [newGo,Nat.ne_of_lt hid]
 ·intro b x hx
  rcases newO_nil hx with h1 | ⟨p,c,hp⟩
  ·exact .inl h1
  ·exact .inr ⟨p,_,hp,rfl⟩
 ·simp [newGo]
def C.isNew (n:Nat) (c:C):Prop:=(∀ id,id ∈ c.oid→n≤id)∧c.vid=[]
theorem Ext.refl (st:St) (w:World) (F:Nat→Prop) (Go:Nat→Gh) (Gv:Nat→Option Nat):Ext w w F F Go Go Gv Gv st st:=
 ⟨fun b _=>Same.refl w b,fun _ h=>h,Nat.le_refl _,Nat.le_refl _,fun id _ o' h=>⟨o',h,rfl,rfl⟩,fun id _ cs h=>⟨⟨cs,h⟩,rfl⟩⟩
theorem Ext.trans {w1 w2 w3:World} {F1 F2 F3:Nat→Prop} {Go1 Go2 Go3:Nat→Gh} {Gv1 Gv2 Gv3:Nat→Option Nat} {s1 s2 s3:St} (h:Ext w1 w2 F1 F2 Go1 Go2 Gv1 Gv2 s1 s2) (h' : Ext w2 w3 F2 F3 Go2 Go3 Gv2 Gv3 s2 s3) :
  Ext w1 w3 F1 F3 Go1 Go3 Gv1 Gv3 s1 s3 where
 same b hb:=(h.same b hb).trans (h'.same b (h.sub b hb))
 sub b hb:=h'.sub b (h.sub b hb)
 ol:=Nat.le_trans h.ol h'.ol
 vl:=Nat.le_trans h.vl h'.vl
 obj id hid o' ho':=by
  obtain ⟨o1,a1,a2,a3⟩:=h'.obj id (Nat.lt_of_lt_of_le hid h.ol) o' ho'
  obtain ⟨o2,b1,b2,b3⟩:=h.obj id hid o1 a1
  exact ⟨o2,b1,a2.trans b2,a3.trans b3⟩
 var id hid cs' hcs':=by
  obtain ⟨⟨cs1,a1⟩,a2⟩:=h'.var id (Nat.lt_of_lt_of_le hid h.vl) cs' hcs'
  obtain ⟨b1,b2⟩:=h.var id hid cs1 a1
  exact ⟨b1,a2.trans b2⟩
theorem Rel.inC (h:Rel A pin w F O Go Gv st tm) {o:OT} {x:T} {c:C} {objs' : List (Option Ob)} (hi:V.inC st.objs o x=some (c,objs')) {v:Value} {G:Gh} (ho:Own w F G o v x)
  (hG:∀ p b,G p=some b→O b.g=none∧¬ F b.g∧A b.g∧b.g < w.heap.size) (hinj:∀ p q b b',G p=some b→G q=some b'→b.g=b'.g→p=q) :
  ∃ O' Go',Rel A pin w F O' Go' Gv { st with objs:=objs' } tm∧Ext w w F F Go Go' Gv Gv st { st with objs:=objs' }∧CRel w F Go' Gv { st with objs:=objs' } v c∧
   (∀ b x,O' b=some x→O b=some x∨∃ r bk,G r=some bk∧bk.g=b)∧c.isNew st.objs.length∧C.simple c=true:=by
 unfold V.inC at hi
 split at hi
 ·split at hi
  ·rename_i v' hl
   simp at hi
   obtain ⟨rfl,rfl⟩:=hi
   cases ho
   exact ⟨O,Go,h,Ext.refl _ _ _ _ _,rfl,fun b x hx=>.inl hx,⟨by simp [C.oid],rfl⟩,rfl⟩
  ·simp at hi
 ·rename_i p es
  simp at hi
  obtain ⟨rfl,rfl⟩:=hi
  cases ho with
  | ro hr=>exact ⟨O,Go,h,Ext.refl _ _ _ _ _,hr,fun b x hx=>.inl hx,⟨by simp [C.oid],rfl⟩,rfl⟩
 ·rename_i ot es
  simp at hi
  obtain ⟨rfl,rfl⟩:=hi
  obtain ⟨O',Go',h1,h2,h3,h4⟩:=h.fresh ho hG hinj
  refine ⟨O',Go',h1,h2,?_,h3,⟨by simp [C.oid],rfl⟩,rfl⟩
  refine ⟨by simp,fun ob hob=>?_⟩
  rw [h4]
  generalize ht:T.sl es=t at ho
  generalize hq:OT.own ot=q at ho
  cases ho with
  | sc _=>simp at hq
  | hole _=>simp at hq
  | full _=>simp at hq
  | ro _=>simp at hq
  | nil hG0=>simp at ht;subst ht;simp [hG0]
  | sl us hG0 hcap hm _ _ _ _ _=>simp at ht;subst ht;simp [hG0,hcap]
 ·simp at hi
theorem Rel.inCs:∀ {ots:List OT} {ts:List T} {cs:List C} {objs' : List (Option Ob)} {vs:List Value} {Gs:Nat→Gh} {O:Nat→Option Ow} {Go:Nat→Gh} {st:St},Rel A pin w F O Go Gv st tm→V.inCs st.objs ots ts=some (cs,objs')→vs.length=ots.length→
  (∀ (j:Nat) (o:OT) (x:T) (v:Value),ots[j]? = some o→ts[j]? = some x→vs[j]? = some v→v.oneCell' = true∧Own w F (Gs j) o v x)→
  (∀ j r b,j < ots.length→Gs j r=some b→O b.g=none∧¬ F b.g∧A b.g∧b.g < w.heap.size)→
  (∀ j j' r r' b b',j < ots.length→j' < ots.length→Gs j r=some b→Gs j' r' = some b'→b.g=b'.g→j=j'∧r=r')→
  ∃ O' Go',Rel A pin w F O' Go' Gv { st with objs:=objs' } tm∧Ext w w F F Go Go' Gv Gv st { st with objs:=objs' }∧CsRel w F Go' Gv { st with objs:=objs' } vs cs∧
   (∀ b x,O' b=some x→O b=some x∨∃ j r bk,j < ots.length∧Gs j r=some bk∧bk.g=b)∧(∀ c,c ∈ cs→c.isNew st.objs.length∧C.simple c=true)∧cs.length=ots.length
 | [],[],cs,objs',vs,Gs,O,Go,st,h,hi,hvs,_,_,_=>by
  simp [V.inCs] at hi
  obtain ⟨rfl,rfl⟩:=hi
  have:vs=[]:=List.eq_nil_of_length_eq_zero (by simpa using hvs)
  subst this
  exact ⟨O,Go,h,Ext.refl _ _ _ _ _,⟨rfl,by simp⟩,fun b x hx=>.inl hx,by simp,rfl⟩
 | [],_::_,_,_,_,_,_,_,_,_,hi,_,_,_,_ | _::_,[],_,_,_,_,_,_,_,_,hi,_,_,_,_=>by simp [V.inCs] at hi
 | o::ots,x::ts,cs,objs',vs,Gs,O,Go,st,h,hi,hvs,hown,hG,hinj=>by
  simp only [V.inCs] at hi
  split at hi
  ·rename_i c objs1 h1
   split at hi
   ·rename_i cs' objs2 h2
    simp at hi
    obtain ⟨rfl,rfl⟩:=hi
    cases vs with
    | nil=>simp at hvs
    | cons v vs=>
     have h0:=hown 0 o x v rfl rfl rfl
     obtain ⟨O1,Go1,r1,e1,c1,o1,n1,m1⟩:=h.inC h1 h0.2 (fun p b hb=>hG 0 p b (by simp) hb) (fun p q b b' hb hb' e=>(hinj 0 0 p q b b' (by simp) (by simp) hb hb' e).2)
     obtain ⟨O2,Go2,r2,e2,c2,o2,n2,m2⟩:=Rel.inCs (Gs:=fun j=>Gs (j+1)) r1 h2 (by simpa using hvs) (fun j o' x' v' a b c=>hown (j+1) o' x' v' (by simpa using a) (by simpa using b) (by simpa using c))
      (fun j r b hj hb=>by
       have hb':=hG (j+1) r b (by simp;omega) hb
       refine ⟨?_,hb'.2⟩
       cases hO1:O1 b.g with
       | none=>rfl
       | some y=>
        rcases o1 _ _ hO1 with h3 | ⟨r',bk,h3,h4⟩
        ·rw [hb'.1] at h3;simp at h3
        ·have:=hinj 0 (j+1) r' r bk b (by simp) (by simp;omega) h3 hb h4
         omega)
      (fun j j' r r' b b' hj hj' hb hb' e=>by
       have:=hinj (j+1) (j' + 1) r r' b b' (by simp;omega) (by simp;omega) hb hb' e
       exact ⟨by omega,this.2⟩)
     refine ⟨O2,Go2,r2,e1.trans e2,⟨by simp [c2.1],fun k u c' hu hc'=>?_⟩,fun b y hy=>?_,fun c' hc'=>?_,by simp [m2]⟩
     ·cases k with
      | zero=>simp at hu hc';subst hu;subst hc';exact ⟨h0.1,c1.ext e2⟩
      | succ k=>exact c2.2 k u c' (by simpa using hu) (by simpa using hc')
     ·rcases o2 b y hy with h3 | ⟨j,r,bk,hj,h3,h4⟩
      ·rcases o1 b y h3 with h5 | ⟨r,bk,h5,h6⟩
       ·exact .inl h5
       ·exact .inr ⟨0,r,bk,by simp,h5,h6⟩
      ·exact .inr ⟨j+1,r,bk,by simp;omega,h3,h4⟩
     ·simp at hc'
      rcases hc' with rfl | hc'
      ·exact ⟨n1,m1⟩
      ·obtain ⟨⟨a1,a2⟩,a3⟩:=n2 c' hc'
       exact ⟨⟨fun id hid=>Nat.le_trans e1.ol (a1 id hid),a2⟩,a3⟩
   ·simp at hi
  ·simp at hi
end
end Go.Proofs.V

namespace Go.Proofs.V
open Go
theorem roots_fst (us:List Nat):(roots us).map (·.1)=us:=by
 induction us with
 | nil=>rfl
 | cons x us ih=>simp only [roots,List.map_cons] at ih ⊢;rw [ih]
def Hand (Go:Nat→Gh) (Gv:Nat→Option Nat) (hs:List (Nat×Pth)) (vs:List Nat) (b:Nat):Prop:=
 (∃ x,x ∈ hs∧∃ r bk,Go x.1 (x.2++r)=some bk∧bk.g=b)∨∃ id,id ∈ vs∧Gv id=some b
section
variable {A Ac:Nat→Prop} {pin:List (Nat×Value)} {w w' : World} {F Fc:Nat→Prop} {O Op:Nat→Option Ow} {Go Gop:Nat→Gh} {Gv Gvp:Nat→Option Nat} {st st' stp:St} {tm tmp:Array Value}
theorem Rel.pushSlot (h:Rel A [] w F O Go Gv st tm) {v:Value} {s:SV} (hs:SRel w F Go Gv st v s):Rel A [] w F O Go Gv { st with slots:=st.slots++[s] } (tm.push v) where
 size:=by simp [h.size]
 slots:=by
  intro k v' s' h1 h2
  by_cases hk:k < st.slots.length
  ·rw [Array.getElem?_push] at h1
   have : ¬ k=tm.size:=by rw [h.size];omega
   simp only [this,if_false] at h1
   simp only [List.getElem?_append,hk,if_true] at h2
   exact h.slots k v' s' h1 h2
  ·have hk' : k=st.slots.length:=by
    have:=(List.getElem?_eq_some_iff.1 h2).1
    simp at this
    omega
   subst hk'
   rw [Array.getElem?_push] at h1
   simp [h.size] at h1 h2
   subst h1;subst h2
   exact hs
 objs:=h.objs
 objN:=h.objN
 vars:=h.vars
 varN:=h.varN
 oO:=h.oO
 oV:=h.oV
 oF:=h.oF
 oA:=h.oA
 fS:=h.fS
 aN:=h.aN
 pinned:=by simp
theorem slot_cells {v:Value} {agg:Bool} {cs:List C} (hs:SRel w F Go Gv st v (.v agg cs)) (hne:∀ c,cs=[c]→c≠.lit undef):CsRel w F Go Gv st v.cells.toList cs:=cells_of_slot hs rfl hne
theorem slot_of_cells {w2:World} {F2:Nat→Prop} {Go2:Nat→Gh} {Gv2:Nat→Option Nat} {st2:St} {v:Value} {agg:Bool} {cs cs2:List C} (hs:SRel w F Go Gv st v (.v agg cs)) (hne:∀ c,cs=[c]→c≠.lit undef)
  (hc:CsRel w2 F2 Go2 Gv2 st2 v.cells.toList cs2):SRel w2 F2 Go2 Gv2 st2 v (.v agg cs2):=by
 cases agg with
 | true=>
  obtain ⟨vs,rfl,_⟩:=hs
  exact ⟨vs,rfl,hc⟩
 | false=>
  obtain ⟨c,h1,h2,h3⟩:=hs
  simp at h1
  subst h1
  have h2' : v.oneCell' = true:=h2.resolve_right (fun h=>hne c rfl h.2)
  have hv:v.cells = #[v]:=by cases v <;> simp_all [Value.oneCell',Value.cells]
  rw [hv] at hc
  match cs2,hc with
  | [c2],hc=>exact ⟨c2,rfl,.inl h2',(hc.2 0 v c2 rfl rfl).2⟩
  | [],hc=>exact absurd hc.1 (by simp)
  | _::_::_,hc=>exact absurd hc.1 (by simp)
theorem isLit_undef:isLit undef=false:=rfl
theorem lendTs_ne {ots:List OT} {cs:List C} {r:List T×List Nat} (h:V.lendTs st ots cs=some r) (c:C) (e:cs=[c]):c≠.lit undef:=by
 rintro rfl
 subst e
 match ots,h with
 | [],h=>simp [V.lendTs] at h
 | o::ots,h=>
  simp only [V.lendTs] at h
  split at h
  ·rename_i x u xs us h1 h2
   cases o <;> simp [V.lendT,isLit_undef,undef,isLit] at h1
  ·simp at h
theorem toTs_ne {ots:List OT} {cs:List C} {r:List T×List Nat} (h:V.toTs st ots cs=some r) (c:C) (e:cs=[c]):c≠.lit undef:=by
 rintro rfl
 subst e
 match ots,h with
 | [],h=>simp [V.toTs] at h
 | o::ots,h=>
  simp only [V.toTs] at h
  split at h
  ·rename_i x u xs us h1 h2
   cases o <;> simp [V.toT,isLit_undef,undef,isLit] at h1
  ·simp at h
theorem roCs_rel {ots:List OT} {ts:List T} {vs:List Value} (h1:ts.length=ots.length) (h2:vs.length=ots.length)
  (h:∀ (j:Nat) (o:OT) (x:T) (v:Value),ots[j]? = some o→ts[j]? = some x→vs[j]? = some v→v.oneCell' = true∧Rd w F o v x):CsRel w F Go Gv st vs (roCs ots ts):=by
 refine ⟨by rw [roCs_le];omega,fun k u c hu hc=>?_⟩
 obtain ⟨q,x,e1,e2,rfl⟩:=roCs_get ots ts k c hc
 have:=h k q x u e1 e2 hu
 exact ⟨this.1,roC_rel this.2⟩
def csG (Go:Nat→Gh) (ots:List OT) (cs:List C) (j:Nat):Gh:=
 match ots[j]?,cs[j]? with
 | some o,some c=>cG Go o c
 | _,_=>fun _=>none
theorem csG_some {ots:List OT} {cs:List C} {us:List Nat} (hu:us=(List.zipWith (fun o c=>(cid o c).toList) ots cs).flatten) {j:Nat} {r:Pth} {b:Bk} (h:csG Go ots cs j r=some b):∃ id,id ∈ us∧Go id r=some b∧(List.zipWith (fun o c=>(cid o c).toList) ots cs)[j]? = some [id]:=by
 cases h1:ots[j]? with
 | none=>simp [csG,h1] at h
 | some o=>
  cases h2:cs[j]? with
  | none=>simp [csG,h1,h2] at h
  | some c=>
   simp only [csG,h1,h2] at h
   obtain ⟨id,h3,h4⟩:=cG_some h
   have hz:(List.zipWith (fun o c=>(cid o c).toList) ots cs)[j]? = some [id]:=by
    simp [List.getElem?_zipWith,h1,h2,h3]
   refine ⟨id,?_,h4,hz⟩
   rw [hu]
   exact List.mem_flatten.2 ⟨[id],List.mem_of_getElem? hz,by simp⟩
theorem enter_cells (h:Rel A pin w F O Go Gv st tm) (hp:Rel Ac [] w Fc Op Gop Gvp stp tmp) (hF:∀ b,F b→Fc b) {ots:List OT} {cs:List C} {ts:List T} {us:List Nat} {vs:List Value} (ht:V.toTs st ots cs=some (ts,us)) (hnd:us.Nodup) (hc:CsRel w F Go Gv st vs cs)
  (hfree:∀ id r b,id ∈ us→Go id r=some b→Op b.g=none∧¬ Fc b.g∧Ac b.g) {cs2:List C} {objs2:List (Option Ob)} (hi:V.inCs stp.objs ots ts=some (cs2,objs2)) :
  ∃ O' Go',Rel Ac [] w Fc O' Go' Gvp { stp with objs:=objs2 } tmp∧Ext w w Fc Fc Gop Go' Gvp Gvp stp { stp with objs:=objs2 }∧CsRel w Fc Go' Gvp { stp with objs:=objs2 } vs cs2∧
   (∀ b x,O' b=some x→Op b=some x∨Hand Go Gv (roots us) [] b)∧cs2.length=ots.length:=by
 obtain ⟨t1,t2,t3,t4,t5,t6⟩:=h.toTs ht hc
 obtain ⟨O',Go',r1,r2,r3,r4,r5,r6⟩:=Rel.inCs (Gs:=csG Go ots cs) hp hi t3
  (fun j o x v h1 h2 h3=>by
   have hj:j < cs.length:=by rw [t1];exact (List.getElem?_eq_some_iff.1 h1).1
   have:=t4 j o cs[j] x v h1 (by simp [hj]) h2 h3
   refine ⟨this.1,this.2.keep (fun b _=>Same.refl w b) hF (fun r=>by simp [csG,h1,hj]) (fun _ _ _=>Same.refl w _)⟩)
  (fun j r b hj hb=>by
   obtain ⟨id,h1,h2,_⟩:=csG_some t5 hb
   obtain ⟨f1,f2,f3⟩:=hfree id r b h1 h2
   exact ⟨f1,f2,f3,(h.oA _ _ (h.oO _ _ _ h2)).2⟩)
  (fun j j' r r' b b' hj hj' hb hb' e=>by
   obtain ⟨id,h1,h2,h3⟩:=csG_some t5 hb
   obtain ⟨id',h1',h2',h3'⟩:=csG_some t5 hb'
   obtain ⟨rfl,rfl⟩:=h.inj h2 h2' e
   refine ⟨?_,rfl⟩
   rw [t5] at hnd
   exact flat_idx (x:=id) hnd h3 h3' (by simp) (by simp))
 refine ⟨O',Go',r1,r2,r3,fun b x hx=>?_,r6⟩
 rcases r4 b x hx with h1 | ⟨j,r,bk,hj,h1,h2⟩
 ·exact .inl h1
 ·obtain ⟨id,h3,h4,_⟩:=csG_some t5 h1
  exact .inr (.inl ⟨(id,[]),by simp [roots,h3],r,bk,h4,h2⟩)
theorem enter1_rel (h:Rel A pin w F O Go Gv st tm) (hp:Rel Ac [] w Fc Op Gop Gvp stp tmp) (hF:∀ b,F b→Fc b) {pm:PM} {x:SV} {ps:Pass} (hpass:passOne st pm x=some ps) {v:Value} (hv:SRel w F Go Gv st v x)
  (hnd:(ps.hs.map (·.1)).Nodup) (hl:∀ id,id ∈ ps.ls→∀ r b,Go id r=some b→Fc b.g) (hfree:∀ b,Hand Go Gv ps.hs ps.vs b→Op b=none∧¬ Fc b∧Ac b) :
  ∃ a,ps.args=[a]∧∀ st1,enter1 stp pm a=some st1→∃ O1 Go1 Gv1,Rel Ac [] w Fc O1 Go1 Gv1 st1 (tmp.push v)∧(∀ b x,O1 b=some x→Op b=some x∨Hand Go Gv ps.hs ps.vs b):=by
 unfold passOne at hpass
 split at hpass
 ·
  rename_i ots agg cs
  split at hpass
  ·rename_i ts ls ht
   simp at hpass
   subst hpass
   refine ⟨_,rfl,fun st1 h1=>?_⟩
   simp only [enter1] at h1
   split at h1
   ·rename_i hlen
    simp at h1
    subst h1
    have hne:=lendTs_ne ht
    have hcs:=slot_cells hv hne
    obtain ⟨t1,t2,t3,t4,t5⟩:=h.lendTs hF ht hcs (fun id hid p b hb=>hl id hid p b hb)
    exact ⟨Op,Gop,Gvp,hp.pushSlot (slot_of_cells hv hne (roCs_rel t2 t3 t4)),fun b x hx=>.inl hx⟩
   ·simp at h1
  ·simp at hpass
 ·
  rename_i ots agg cs
  split at hpass
  ·rename_i ts us ht
   simp at hpass
   subst hpass
   refine ⟨_,rfl,fun st1 h1=>?_⟩
   simp only [enter1] at h1
   split at h1
   ·rename_i cs2 objs2 hi
    simp at h1
    subst h1
    have hne:=toTs_ne ht
    have hcs:=slot_cells hv hne
    obtain ⟨O',Go',r1,r2,r3,r4,r5⟩:=enter_cells h hp hF ht (by have hnd' : ((roots us).map (·.1)).Nodup:=hnd;rwa [roots_fst] at hnd') hcs (fun id r b hid hb=>hfree _ (.inl ⟨(id,[]),by simp [roots,hid],r,b,hb,rfl⟩)) hi
    exact ⟨O',Go',Gvp,r1.pushSlot (slot_of_cells hv hne r3),r4⟩
   ·simp at h1
  ·simp at hpass
 ·
  rename_i ots id
  split at hpass
  ·rename_i cs hcs0
   split at hpass
   ·rename_i ts us ht
    simp at hpass
    subst hpass
    refine ⟨_,rfl,fun st1 h1=>?_⟩
    simp only [enter1] at h1
    split at h1
    ·rename_i cs2 objs2 hi
     simp at h1
     subst h1
     obtain ⟨c,e1,_,hvr⟩:=hv
     simp at e1
     subst e1
     obtain ⟨g,hg,hvg⟩:=hvr.2 cs hcs0
     obtain ⟨g',hg',hcell⟩:=h.vars id cs hcs0
     rw [hg] at hg'
     simp at hg'
     subst hg'
     obtain ⟨vs,v1,v2⟩:=list_of (Q:=fun k u=>w.cell? ⟨g,k,none⟩=some u∧w.frozen? ⟨g,k,none⟩=false∧∀ c,cs[k]? = some c→u.oneCell' = true∧CRel w F Go Gv st u c) cs.length (fun k hk=>by
      obtain ⟨u,a1,a2,a3,a4⟩:=hcell k cs[k] (by simp [hk])
      exact ⟨u,a1,a2,fun c hc=>by simp [hk] at hc;subst hc;exact ⟨a3,a4⟩⟩)
     have hcs:CsRel w F Go Gv st vs cs:=⟨v1,fun k u c hu hc=>(v2 k u hu).2.2 c hc⟩
     obtain ⟨O',Go',r1,r2,r3,r4,r5⟩:=enter_cells h hp hF ht (by have hnd' : ((roots us).map (·.1)).Nodup:=hnd;rwa [roots_fst] at hnd') hcs (fun id' r b hid hb=>hfree _ (.inl ⟨(id',[]),by simp [roots,hid],r,b,hb,rfl⟩)) hi
     have hgf:=hfree g (.inr ⟨id,by simp,hg⟩)
     have hO'g:O' g=none:=by
      cases hx:O' g with
      | none=>rfl
      | some y=>
       rcases r4 g y hx with h2 | ⟨z,hz,r,bk,h2,h3⟩|⟨_,hz,_⟩
       ·rw [hgf.1] at h2;simp at h2
       ·have e1:=h.oO _ _ _ h2
        rw [h3,h.oV id g hg] at e1
        simp at e1
       ·simp at hz
     have hnv:=r1.newVar (g:=g) (vs:=vs) hO'g hgf.2.1 hgf.2.2 (h.oA _ _ (h.oV id g hg)).2 (fun k u hk=>⟨(v2 k u hk).1,(v2 k u hk).2.1⟩) r3
     refine ⟨_,Go',_,hnv.pushSlot ⟨_,rfl,.inl (by rw [hvg];rfl),?_⟩,fun b x hx=>?_⟩
     ·exact ⟨by simp,fun cs' _=>⟨g,by simp [newGv],hvg⟩⟩
     ·rcases newOV_some hx with h2 | rfl
      ·rcases r4 b x h2 with h3 | ⟨z,hz,r,bk,h3,h4⟩|⟨_,hz,_⟩
       ·exact .inl h3
       ·exact .inr (.inl ⟨z,hz,r,bk,h3,h4⟩)
       ·simp at hz
      ·exact .inr (.inr ⟨id,by simp,hg⟩)
    ·simp at h1
   ·simp at hpass
  ·simp at hpass
 ·
  rename_i ot id p len
  split at hpass
  ·rename_i ob hob
   split at hpass
   ·rename_i ot' es hsub
    split at hpass
    ·rename_i hcond
     simp only [Bool.and_eq_true,decide_eq_true_eq] at hcond
     obtain ⟨hot,hlen⟩:=hcond
     have:=OT.beqs_eq _ _ hot
     subst this
     simp at hpass
     subst hpass
     refine ⟨_,rfl,fun st1 h1=>?_⟩
     simp only [enter1,Option.some.injEq] at h1
     subst h1
     obtain ⟨c,e1,_,hvr⟩:=hv
     simp at e1
     subst e1
     obtain ⟨v0,hv0⟩:=h.objs id ob hob
     obtain ⟨v',hv'⟩:=hv0.at p hsub
     have hvr2:=hvr.2 ob hob
     have hveq:v=v':=by
      generalize ht:T.sl es=t at hv'
      generalize hq:OT.own ot=q at hv'
      cases hv' with
      | sc _=>simp at hq
      | hole _=>simp at hq
      | full _=>simp at hq
      | ro _=>simp at hq
      | nil hG0=>
       have hG0' : Go id p=none:=by simpa using hG0
       simp only [hG0'] at hvr2
       exact hvr2.1
      | @sl _ _ g cap _ us hG0 hcap hm _ _ _ _ _=>
       simp at ht
       subst ht
       have hG0' : Go id p=some ⟨g,cap⟩:=by simpa using hG0
       simp only [hG0'] at hvr2
       rcases hvr2 with ⟨_,e,_⟩|⟨h0,_⟩
       ·rw [e,hlen]
       ·omega
     subst hveq
     obtain ⟨O',Go',r1,r2,r3,r4⟩:=hp.fresh (hv'.keep (fun b _=>Same.refl w b) hF (G':=fun r=>Go id (p++r)) (fun _=>rfl) (fun _ _ _=>Same.refl w _))
      (fun r b hb=>by
       obtain ⟨f1,f2,f3⟩:=hfree b.g (.inl ⟨(id,p),by simp,r,b,hb,rfl⟩)
       exact ⟨f1,f2,f3,(h.oA _ _ (h.oO _ _ _ hb)).2⟩)
      (fun r r' b b' hb hb' e=>by
       have:=(h.inj hb hb' e).2
       simpa using this)
     refine ⟨O',Go',Gvp,r1.pushSlot ⟨_,rfl,.inl (ref_one hob hvr),?_⟩,fun b x hx=>?_⟩
     ·refine ⟨by simp,fun o' ho'=>?_⟩
      rw [r4]
      simp only [List.append_nil]
      cases hg:Go id p with
      | none=>
       simp only [hg] at hvr2 ⊢
       exact ⟨hvr2.1,by first | trivial | rfl,by omega⟩
      | some bk=>
       simp only [hg] at hvr2 ⊢
       rcases hvr2 with ⟨_,e,e'⟩|⟨h0,_⟩
       ·exact .inl ⟨by first | trivial | rfl,by rw [e,hlen],by omega⟩
       ·omega
     ·rcases r3 b x hx with h2 | ⟨r,bk,h2,h3⟩
      ·exact .inl h2
      ·exact .inr (.inl ⟨(id,p),by simp,r,bk,h2,h3⟩)
    ·simp at hpass
   ·simp at hpass
  ·simp at hpass
 ·
  rename_i ots agg cs
  split at hpass
  ·rename_i ts us bs ht hbk
   split at hpass
   ·simp at hpass
    subst hpass
    refine ⟨_,rfl,fun st1 h1=>?_⟩
    simp only [enter1] at h1
    split at h1
    ·rename_i cs2 objs2 hi
     simp at h1
     subst h1
     have hne:=toTs_ne ht
     have hcs:=slot_cells hv hne
     obtain ⟨O',Go',r1,r2,r3,r4,r5⟩:=enter_cells h hp hF ht (by have hnd' : ((roots us).map (·.1)).Nodup:=hnd;rwa [roots_fst] at hnd') hcs (fun id r b hid hb=>hfree _ (.inl ⟨(id,[]),by simp [roots,hid],r,b,hb,rfl⟩)) hi
     exact ⟨O',Go',Gvp,r1.pushSlot (slot_of_cells hv hne r3),r4⟩
    ·simp at h1
   ·simp at hpass
  ·simp at hpass
 ·simp at hpass
theorem Hand.mono {hs hs' : List (Nat×Pth)} {vs vs' : List Nat} (h1:∀ x,x ∈ hs→x ∈ hs') (h2:∀ x,x ∈ vs→x ∈ vs') {b:Nat} (h:Hand Go Gv hs vs b):Hand Go Gv hs' vs' b:=by
 rcases h with ⟨x,hx,h⟩|⟨id,hid,h⟩
 ·exact .inl ⟨x,h1 x hx,h⟩
 ·exact .inr ⟨id,h2 id hid,h⟩
theorem Hand.apart (h:Rel A pin w F O Go Gv st tm) {hs hs' : List (Nat×Pth)} {vs vs' : List Nat} (h1:((hs++hs').map (·.1)).Nodup) (h2:(vs++vs').Nodup) {b:Nat} (ha:Hand Go Gv hs vs b) (hb:Hand Go Gv hs' vs' b):False:=by
 rw [List.map_append,List.nodup_append] at h1
 rw [List.nodup_append] at h2
 rcases ha with ⟨x,hx,r,bk,e1,e2⟩|⟨id,hid,e1⟩
 ·have o1:=h.oO _ _ _ e1
  rw [e2] at o1
  rcases hb with ⟨x',hx',r',bk',e1',e2'⟩|⟨id',hid',e1'⟩
  ·have o2:=h.oO _ _ _ e1'
   rw [e2',o1] at o2
   simp at o2
   exact h1.2.2 x.1 (List.mem_map.2 ⟨x,hx,rfl⟩) x'.1 (List.mem_map.2 ⟨x',hx',rfl⟩) o2.1
  ·have o2:=h.oV _ _ e1'
   rw [o1] at o2
   simp at o2
 ·have o1:=h.oV _ _ e1
  rcases hb with ⟨x',hx',r',bk',e1',e2'⟩|⟨id',hid',e1'⟩
  ·have o2:=h.oO _ _ _ e1'
   rw [e2',o1] at o2
   simp at o2
  ·have o2:=h.oV _ _ e1'
   rw [o1] at o2
   simp at o2
   exact h2.2.2 id hid id' hid' o2
theorem enter_rel (h:Rel A pin w F O Go Gv st tm) (hF:∀ b,F b→Fc b):∀ {pms:List PM} {xs:List SV} {ps:Pass} {vals:List Value} {Op:Nat→Option Ow} {Gop:Nat→Gh} {Gvp:Nat→Option Nat} {stp st0:St} {tmp:Array Value} (hs0:List (Nat×Pth)) (vs0:List Nat),
  Rel Ac [] w Fc Op Gop Gvp stp tmp→passAll st pms xs=some ps→vals.length=xs.length→(∀ (k:Nat) (v:Value) (x:SV),vals[k]? = some v→xs[k]? = some x→SRel w F Go Gv st v x)→
  ((hs0++ps.hs).map (·.1)).Nodup→(vs0++ps.vs).Nodup→(∀ id,id ∈ ps.ls→∀ r b,Go id r=some b→Fc b.g)→(∀ b,Hand Go Gv ps.hs ps.vs b→¬ Fc b∧Ac b)→(∀ b x,Op b=some x→Hand Go Gv hs0 vs0 b)→
  enterAll stp pms ps.args=some st0→∃ O0 Go0 Gv0,Rel Ac [] w Fc O0 Go0 Gv0 st0 (tmp++vals.toArray)
 | [],[],ps,vals,Op,Gop,Gvp,stp,st0,tmp,hs0,vs0,hp,hpass,hvl,_,_,_,_,_,_,he=>by
  simp [passAll] at hpass
  subst hpass
  have:vals=[]:=List.eq_nil_of_length_eq_zero (by simpa using hvl)
  subst this
  simp [enterAll] at he
  subst he
  exact ⟨Op,Gop,Gvp,by simpa using hp⟩
 | [],_::_,_,_,_,_,_,_,_,_,_,_,_,hpass,_,_,_,_,_,_,_,_ | _::_,[],_,_,_,_,_,_,_,_,_,_,_,hpass,_,_,_,_,_,_,_,_=>by simp [passAll] at hpass
 | pm::pms,x::xs,ps,vals,Op,Gop,Gvp,stp,st0,tmp,hs0,vs0,hp,hpass,hvl,hvr,hnd,hnv,hl,hfr,hOp,he=>by
  simp only [passAll] at hpass
  split at hpass
  ·rename_i pa pb ha hb
   simp at hpass
   subst hpass
   cases vals with
   | nil=>simp at hvl
   | cons v vals=>
    simp only at hnd hnv hl hfr he
    have hnd1:((hs0++pa.hs).map (·.1)).Nodup:=by
     simp only [List.map_append,←List.append_assoc] at hnd
     simp only [List.map_append]
     exact (List.nodup_append.1 hnd).1
    have hnv1:(vs0++pa.vs).Nodup:=by
     rw [←List.append_assoc] at hnv
     exact (List.nodup_append.1 hnv).1
    obtain ⟨a,ea,hstep⟩:=enter1_rel h hp hF ha (hvr 0 v x rfl rfl) (by
      rw [List.map_append] at hnd1
      exact (List.nodup_append.1 hnd1).2.1) (fun id hid=>hl id (by simp [hid])) (fun b hb'=>by
      have h1:=hfr b (hb'.mono (fun x hx=>by simp [hx]) (fun x hx=>by simp [hx]))
      refine ⟨?_,h1⟩
      cases hO:Op b with
      | none=>rfl
      | some y=>exact (Hand.apart h hnd1 hnv1 (hOp b y hO) hb').elim)
    rw [ea] at he
    simp only [List.cons_append,List.nil_append,enterAll] at he
    split at he
    ·rename_i st1 h1
     obtain ⟨O1,Go1,Gv1,r1,r2⟩:=hstep st1 h1
     obtain ⟨O0,Go0,Gv0,r0⟩:=enter_rel h hF (hs0++pa.hs) (vs0++pa.vs) r1 hb (by simpa using hvl) (fun k v' x' h2 h3=>hvr (k+1) v' x' (by simpa using h2) (by simpa using h3)) (by simpa [List.append_assoc] using hnd) (by simpa [List.append_assoc] using hnv)
      (fun id hid=>hl id (by simp [hid])) (fun b hb'=>hfr b (hb'.mono (fun x hx=>by simp [hx]) (fun x hx=>by simp [hx])))
      (fun b y hy=>by
       rcases r2 b y hy with h4 | h4
       ·exact (hOp b y h4).mono (fun x hx=>by simp [hx]) (fun x hx=>by simp [hx])
       ·exact h4.mono (fun x hx=>by simp [hx]) (fun x hx=>by simp [hx])) he
     refine ⟨O0,Go0,Gv0,?_⟩
     have e:tmp++(v::vals).toArray=tmp.push v++vals.toArray:=by simp
     rw [e]
     exact r0
    ·simp at he
  ·simp at hpass
end
end Go.Proofs.V

namespace Go.Proofs.V
open Go
structure MRel (A:Nat→Prop) (w:World) (F:Nat→Prop) (O:Nat→Option Ow) (Go:Nat→Gh) (Gv:Nat→Option Nat) (s:St):Prop where
 objs:∀ id o,s.obj id=some o→∃ v,Own w F (Go id) (.own o.ot) v (.sl o.es)
 objN:∀ id p b,Go id p=some b→∃ o,s.obj id=some o
 vars:∀ id cs,s.var id=some cs→∃ g,Gv id=some g∧∀ k,k < cs.length→∃ u,w.cell? ⟨g,k,none⟩=some u∧w.frozen? ⟨g,k,none⟩=false∧u.oneCell' = true
 varN:∀ id g,Gv id=some g→∃ cs,s.var id=some cs
 oO:∀ id p b,Go id p=some b→O b.g=some (.obj id p)
 oV:∀ id g,Gv id=some g→O g=some (.var id)
 oF:∀ b,F b→O b=none
 oA:∀ b x,O b=some x→A b∧b < w.heap.size
 fS:∀ b,F b→b < w.heap.size
 aN:∀ b,w.heap.size≤b→A b
def sk (s:St):St:={ slots:=[],objs:=s.objs,vars:=s.vars.map (Option.map (List.map fun _=>C.dead)) }
theorem sk_var (s:St) (id:Nat):(sk s).var id=(s.var id).map (List.map fun _=>C.dead):=by
 simp only [var_eq,sk,List.getElem?_map]
 cases s.vars[id]? with
 | none=>rfl
 | some x=>cases x <;> rfl
section
variable {A Ac:Nat→Prop} {pin:List (Nat×Value)} {w w' : World} {F F' Fc:Nat→Prop} {O Op:Nat→Option Ow} {Go Gop:Nat→Gh} {Gv Gvp:Nat→Option Nat} {st st' stp s:St} {tm tmp:Array Value}
theorem Rel.mem (h:Rel A pin w F O Go Gv st tm):MRel A w F O Go Gv st where
 objs:=h.objs
 objN:=h.objN
 vars:=by
  intro id cs hcs
  obtain ⟨g,h1,h2⟩:=h.vars id cs hcs
  refine ⟨g,h1,fun k hk=>?_⟩
  obtain ⟨u,a,b,c,_⟩:=h2 k cs[k] (by simp [hk])
  exact ⟨u,a,b,c⟩
 varN:=h.varN
 oO:=h.oO
 oV:=h.oV
 oF:=h.oF
 oA:=h.oA
 fS:=h.fS
 aN:=h.aN
theorem MRel.sk (h:MRel A w F O Go Gv s):Rel A [] w F O Go Gv (sk s) #[] where
 size:=rfl
 slots:=by intro k v s h1;simp at h1
 objs:=h.objs
 objN:=h.objN
 vars:=by
  intro id cs hcs
  rw [sk_var,Option.map_eq_some_iff] at hcs
  obtain ⟨cs',h1,rfl⟩:=hcs
  obtain ⟨g,h2,h3⟩:=h.vars id cs' h1
  refine ⟨g,h2,fun k c hc=>?_⟩
  simp only [List.getElem?_map,Option.map_eq_some_iff] at hc
  obtain ⟨c',h4,rfl⟩:=hc
  obtain ⟨u,a,b,c⟩:=h3 k (List.getElem?_eq_some_iff.1 h4).1
  exact ⟨u,a,b,c,trivial⟩
 varN:=by
  intro id g hg
  obtain ⟨cs,hcs⟩:=h.varN id g hg
  exact ⟨cs.map fun _=>C.dead,by rw [sk_var,hcs];rfl⟩
 oO:=h.oO
 oV:=h.oV
 oF:=h.oF
 oA:=h.oA
 fS:=h.fS
 aN:=h.aN
 pinned:=by simp
theorem MRel.of_sk (h:Rel A [] w F O Go Gv (V.sk s) #[]):MRel A w F O Go Gv s where
 objs:=h.objs
 objN:=h.objN
 vars:=by
  intro id cs hcs
  obtain ⟨g,h1,h2⟩:=h.vars id (cs.map fun _=>C.dead) (by rw [sk_var,hcs];rfl)
  refine ⟨g,h1,fun k hk=>?_⟩
  obtain ⟨u,a,b,c,_⟩:=h2 k C.dead (by simp [hk])
  exact ⟨u,a,b,c⟩
 varN:=by
  intro id g hg
  obtain ⟨cs,hcs⟩:=h.varN id g hg
  rw [sk_var,Option.map_eq_some_iff] at hcs
  obtain ⟨cs',h1,_⟩:=hcs
  exact ⟨cs',h1⟩
 oO:=h.oO
 oV:=h.oV
 oF:=h.oF
 oA:=h.oA
 fS:=h.fS
 aN:=h.aN
theorem CRel.of_sk {v:Value} {c:C} (hs:c.simple=true) (h:CRel w F Go Gv (V.sk s) v c):CRel w F Go Gv s v c:=by
 cases c with
 | vptr _ _=>simp [C.simple] at hs
 | clo _ _=>simp [C.simple] at hs
 | _=>exact h
theorem MRel.inCs (h:MRel A w F O Go Gv s) {ots:List OT} {ts:List T} {cs:List C} {objs' : List (Option Ob)} {vs:List Value} {Gs:Nat→Gh} (hi:V.inCs s.objs ots ts=some (cs,objs')) (hl:vs.length=ots.length)
  (h1:∀ (j:Nat) (o:OT) (x:T) (v:Value),ots[j]? = some o→ts[j]? = some x→vs[j]? = some v→v.oneCell' = true∧Own w F (Gs j) o v x)
  (h2:∀ j r b,j < ots.length→Gs j r=some b→O b.g=none∧¬ F b.g∧A b.g∧b.g < w.heap.size)
  (h3:∀ j j' r r' b b',j < ots.length→j' < ots.length→Gs j r=some b→Gs j' r' = some b'→b.g=b'.g→j=j'∧r=r') :
  ∃ O' Go',MRel A w F O' Go' Gv { s with objs:=objs' }∧(s.objs.length≤objs'.length∧∀ id,id < s.objs.length→∀ o',St.obj { s with objs:=objs' } id=some o'→s.obj id=some o'∧Go' id=Go id)∧
   CsRel w F Go' Gv { s with objs:=objs' } vs cs∧(∀ b x,O' b=some x→O b=some x∨∃ j r bk,j < ots.length∧Gs j r=some bk∧bk.g=b)∧(∀ c,c ∈ cs→c.isNew s.objs.length∧C.simple c=true)∧cs.length=ots.length:=by
 obtain ⟨O',Go',r1,r2,r3,r4,r5,r6⟩:=Rel.inCs (st:=V.sk s) h.sk hi hl h1 h2 h3
 refine ⟨O',Go',MRel.of_sk (s:={ s with objs:=objs' }) r1,⟨r2.ol,?_⟩,⟨r3.1,fun k u c hu hc=>?_⟩,r4,r5,r6⟩
 ·intro id hid o' ho'
  obtain ⟨o,e1,e2,e3⟩:=r2.obj id hid o' ho'
  refine ⟨?_,e3⟩
  have hpre:∀ {ots:List OT} {ts:List T} {cs:List C} {objs objs' : List (Option Ob)},V.inCs objs ots ts=some (cs,objs')→∀ id,id < objs.length→objs'[id]? = objs[id]?:=by
   intro ots
   induction ots with
   | nil=>intro ts cs objs objs' hi id hid;cases ts <;> simp [V.inCs] at hi;obtain ⟨_,rfl⟩:=hi;rfl
   | cons o ots ih=>
    intro ts cs objs objs' hi id hid
    cases ts with
    | nil=>simp [V.inCs] at hi
    | cons x ts=>
     simp only [V.inCs] at hi
     split at hi
     ·rename_i c objs1 hc1
      split at hi
      ·rename_i cs2 objs2 hc2
       simp at hi
       obtain ⟨rfl,rfl⟩:=hi
       have h0:objs1[id]? = objs[id]?∧objs.length≤objs1.length:=by
        unfold V.inC at hc1
        split at hc1
        ·split at hc1 <;> simp at hc1;obtain ⟨_,rfl⟩:=hc1;exact ⟨rfl,Nat.le_refl _⟩
        ·simp at hc1;obtain ⟨_,rfl⟩:=hc1;exact ⟨rfl,Nat.le_refl _⟩
        ·simp at hc1;obtain ⟨_,rfl⟩:=hc1;exact ⟨by simp [List.getElem?_append,hid],by simp⟩
        ·simp at hc1
       rw [ih hc2 id (Nat.lt_of_lt_of_le hid h0.2),h0.1]
      ·simp at hi
     ·simp at hi
  simp only [obj_eq] at ho' ⊢
  rw [hpre hi id hid] at ho'
  exact ho'
 ·have:=r3.2 k u c hu hc
  exact ⟨this.1,CRel.of_sk (s:={ s with objs:=objs' }) (r5 c (List.mem_of_getElem? hc)).2 this.2⟩
theorem set_obj (s:St) {id:Nat} (hid:id < s.objs.length) (o:Ob) (k:Nat):St.obj { s with objs:=s.objs.set id (some o) } k=if k=id then some o else s.obj k:=by
 simp only [obj_eq,List.getElem?_set]
 by_cases h:id=k
 ·subst h;simp [hid]
 ·simp [h,Ne.symm h]
theorem set_var (s:St) {id:Nat} (hid:id < s.vars.length) (cs:List C) (k:Nat):St.var { s with vars:=s.vars.set id (some cs) } k=if k=id then some cs else s.var k:=by
 simp only [var_eq,List.getElem?_set]
 by_cases h:id=k
 ·subst h;simp [hid]
 ·simp [h,Ne.symm h]
theorem MRel.putVar (h:MRel A w F O Go Gv s) {id g:Nat} (hid:id < s.vars.length) (hn:s.var id=none) {cs:List C} (hO:O g=none) (hF : ¬ F g) (hA:A g) (hs:g < w.heap.size)
  (hc:∀ k,k < cs.length→∃ u,w.cell? ⟨g,k,none⟩=some u∧w.frozen? ⟨g,k,none⟩=false∧u.oneCell' = true) :
  MRel A w F (fun b=>if b=g then some (.var id) else O b) Go (fun i=>if i=id then some g else Gv i) { s with vars:=s.vars.set id (some cs) } where
 objs:=h.objs
 objN:=h.objN
 vars:=by
  intro i cs' hcs
  rw [set_var s hid] at hcs
  by_cases hi:i=id
  ·simp only [hi,if_true,Option.some.injEq] at hcs ⊢
   subst hcs
   exact ⟨g,rfl,hc⟩
  ·simp only [hi,if_false] at hcs ⊢
   exact h.vars i cs' hcs
 varN:=by
  intro i g' hg
  rw [set_var s hid]
  by_cases hi:i=id
  ·exact ⟨cs,by simp [hi]⟩
  ·simp only [hi,if_false] at hg ⊢
   exact h.varN i g' hg
 oO:=by
  intro i p b hb
  have:=h.oO i p b hb
  have hne:b.g≠g:=fun e=>by rw [e,hO] at this;simp at this
  simp [hne,this]
 oV:=by
  intro i g' hg
  by_cases hi:i=id
  ·simp only [hi,if_true,Option.some.injEq] at hg
   subst hg
   simp [hi]
  ·simp only [hi,if_false] at hg
   have:=h.oV i g' hg
   have hne:g'≠g:=fun e=>by rw [e,hO] at this;simp at this
   simp [hne,this]
 oF:=by
  intro b hb
  have hne:b≠g:=fun e=>hF (e ▸ hb)
  simp [hne,h.oF b hb]
 oA:=by
  intro b x hx
  by_cases hb:b=g
  ·subst hb;exact ⟨hA,hs⟩
  ·simp only [hb,if_false] at hx
   exact h.oA b x hx
 fS:=h.fS
 aN:=h.aN
open Classical in
noncomputable def putOO (O:Nat→Option Ow) (id:Nat) (G:Gh) (b:Nat):Option Ow:=
 if h:∃ p c,G p=some ⟨b,c⟩ then some (.obj id h.choose) else O b
theorem MRel.putObj (h:MRel A w F O Go Gv s) {id:Nat} (hid:id < s.objs.length) (hn:s.obj id=none) {G:Gh} {ot:List OT} {v:Value} {es:List (List T)} (ho:Own w F G (.own ot) v (.sl es))
  (hG:∀ p b,G p=some b→O b.g=none∧¬ F b.g∧A b.g∧b.g < w.heap.size) (hinj:∀ p q b b',G p=some b→G q=some b'→b.g=b'.g→p=q) :
  MRel A w F (putOO O id G) (fun i=>if i=id then G else Go i) Gv { s with objs:=s.objs.set id (some ⟨ot,es⟩) }:=by
 have hnot:∀ b,O b≠none→¬ ∃ p c,G p=some ⟨b,c⟩:=by
  rintro b hb ⟨p,c,hp⟩
  exact hb (hG p _ hp).1
 refine ⟨?_,?_,h.vars,h.varN,?_,?_,?_,?_,h.fS,h.aN⟩
 ·intro i o hi
  rw [set_obj s hid] at hi
  by_cases e:i=id
  ·simp only [e,if_true,Option.some.injEq] at hi ⊢
   subst hi
   exact ⟨v,ho⟩
  ·simp only [e,if_false] at hi ⊢
   exact h.objs i o hi
 ·intro i p b hb
  rw [set_obj s hid]
  by_cases e:i=id
  ·exact ⟨⟨ot,es⟩,by simp [e]⟩
  ·simp only [e,if_false] at hb ⊢
   exact h.objN i p b hb
 ·intro i p b hb
  by_cases e:i=id
  ·simp only [e,if_true] at hb
   have hp:∃ q c,G q=some ⟨b.g,c⟩:=⟨p,b.cap,hb⟩
   simp only [putOO,hp,dif_pos,e]
   obtain ⟨c,hc⟩:=hp.choose_spec
   rw [hinj _ _ _ _ hc hb rfl]
  ·simp only [e,if_false] at hb
   have h1:=h.oO i p b hb
   simp only [putOO,hnot b.g (by rw [h1];simp),dif_neg,not_false_iff,h1]
 ·intro i g hg
  have h1:=h.oV i g hg
  simp only [putOO,hnot g (by rw [h1];simp),dif_neg,not_false_iff,h1]
 ·intro b hb
  have h1 : ¬ ∃ p c,G p=some ⟨b,c⟩:=by
   rintro ⟨p,c,hp⟩
   exact (hG p _ hp).2.1 hb
  simp only [putOO,h1,dif_neg,not_false_iff,h.oF b hb]
 ·intro b x hx
  unfold putOO at hx
  split at hx
  ·rename_i hp
   obtain ⟨p,c,hp⟩:=hp
   exact ⟨(hG p _ hp).2.2.1,(hG p _ hp).2.2.2⟩
  ·exact h.oA b x hx
theorem Own.sub (hF:∀ b,F b→Same w w' b) (hFF:∀ b,F b→F' b):∀ (p:Pth) {G Gx G' : Gh} {ot0 ot:List OT} {es0 es es2 esn:List (List T)} {v v2:Value},
  Own w F G (.own ot0) v (.sl es0)→subEs ot0 es0 p=some (ot,es)→updEs ot0 es0 p es2=some esn→es2.length=es.length→
  (∀ q b,G q=some b→¬ p <+: q→Same w w' b.g)→Own w' F' Gx (.own ot) v2 (.sl es2)→Gx []=G p→(∀ q,¬ p <+: q→G' q=G q)→(∀ q,G' (p++q)=Gx q)→∃ v',Own w' F' G' (.own ot0) v' (.sl esn)∧(p≠[]→v' = v)
 | [],G,Gx,G',ot0,ot,es0,es,es2,esn,v,v2,h,hs,hup,hlen,hsame,hx,hroot,hG,hG'=>by
  simp [subEs] at hs
  obtain ⟨rfl,rfl⟩:=hs
  simp [updEs] at hup
  subst hup
  exact ⟨v2,hx.keep (fun b _=>Same.refl w' b) (fun _ h=>h) (fun r=>by simpa using hG' r) (fun _ _ _=>Same.refl w' _),by simp⟩
 | (a,b)::p,G,Gx,G',ot0,ot,es0,es,es2,esn,v,v2,h,hs,hup,hlen,hsame,hx,hroot,hG,hG'=>by
  simp only [subEs] at hs
  split at hs
  ·rename_i q es1 h1 h2
   cases hrow0:es0[a]? with
   | none=>simp [hrow0] at h2
   | some row0=>
    simp only [hrow0,Option.bind_some] at h2
    simp only [updEs,h1,hrow0,h2] at hup
    simp only [Option.map_eq_some_iff] at hup
    obtain ⟨es1',hup1,rfl⟩:=hup
    cases h with
    | nil hG0=>simp at hrow0
    | @sl G pp g cap es us hG0 hcap hm hrow' hcc hf hcell' hsubs=>
     have ha:a < es0.length:=(List.getElem?_eq_some_iff.1 hrow0).1
     have hb:b < row0.length:=(List.getElem?_eq_some_iff.1 h2).1
     have hlen0:(es0.set a (row0.set b (.sl es1'))).length=es0.length:=by simp
     have hrt:=hsame [] _ hG0 (by simp)
     have hsub0:=hsubs a b row0 _ _ hrow0 h2 h1
     obtain ⟨v1,hv1,hne1⟩:=Own.sub hF hFF p (G':=fun r=>G' ((a,b)::r)) hsub0 hs hup1 hlen (fun q bb hbb hnp=>hsame _ bb hbb (by simpa using hnp)) hx hroot (fun q hnp=>hG _ (by simpa using hnp)) (fun q=>hG' q)
     have hv1eq:v1=us a b:=by
      cases p with
      | cons x p=>exact hne1 (by simp)
      | nil=>
       simp [subEs] at hs
       obtain ⟨rfl,rfl⟩:=hs
       simp [updEs] at hup1
       subst hup1
       have e1:(fun r=>G' ((a,b)::r)) []=(fun r=>G ((a,b)::r)) []:=by
        have:=hG' []
        simp at this
        simp [this,hroot]
       generalize htt:T.sl es2=tt at hv1
       generalize hqq:OT.own q=qq at hv1
       generalize htt' : T.sl es1=tt' at hsub0
       generalize hqq' : OT.own q=qq' at hsub0
       generalize us a b=uu at hsub0 ⊢
       cases hv1 with
       | sc _=>simp at hqq
       | hole _=>simp at hqq
       | full _=>simp at hqq
       | ro _=>simp at hqq
       | nil hg1=>
        cases hsub0 with
        | sc _=>simp at hqq'
        | hole _=>simp at hqq'
        | full _=>simp at hqq'
        | ro _=>simp at hqq'
        | nil _=>rfl
        | sl _ hg2 _ _ _ _ _ _ _=>rw [e1,hg2] at hg1;simp at hg1
       | sl _ hg1 _ _ _ _ _ _ _=>
        simp at htt
        subst htt
        cases hsub0 with
        | sc _=>simp at hqq'
        | hole _=>simp at hqq'
        | full _=>simp at hqq'
        | ro _=>simp at hqq'
        | nil hg2=>rw [e1,hg2] at hg1;simp at hg1
        | sl _ hg2 _ _ _ _ _ _ _=>
         simp at htt'
         subst htt'
         rw [e1,hg2] at hg1
         simp at hg1
         obtain ⟨rfl,rfl⟩:=hg1
         rw [hlen]
     have:=Own.sl (w:=w') (F:=F') (G:=G') (p:=ot0) (g:=g) (cap:=cap) (es:=es0.set a (row0.set b (.sl es1'))) us
      ((hG [] (by simp)).trans hG0) (by rw [hlen0];exact hcap) hm ?_ ?_ ?_ ?_ ?_
     ·rw [hlen0] at this
      exact ⟨_,this,fun _=>rfl⟩
     ·intro k r hk
      rw [List.getElem?_set] at hk
      split at hk
      ·rename_i hak
       subst hak
       simp [ha] at hk
       subst hk
       simpa using hrow' a row0 hrow0
      ·exact hrow' k r hk
     ·intro k hk
      obtain ⟨y,hy⟩:=hcc k hk
      exact ⟨y,(hrt k).1.trans hy⟩
     ·intro k hk
      exact ((hrt k).2 (hcc k hk)).trans (hf k hk)
     ·intro k l hk hl
      rw [hlen0] at hk
      exact (hrt _).1.trans (hcell' k l hk hl)
     ·intro k l r y q' hk hl hq'
      by_cases e:k=a∧l=b
      ·obtain ⟨rfl,rfl⟩:=e
       rw [List.getElem?_set] at hk
       simp [ha] at hk
       subst hk
       rw [List.getElem?_set] at hl
       simp [hb] at hl
       subst hl
       rw [h1] at hq'
       simp at hq'
       subst hq'
       rw [←hv1eq]
       exact hv1
      ·have hne:(a,b)≠(k,l):=fun h=>e (by simp at h;exact ⟨h.1.symm,h.2.symm⟩)
       have:∃ r',es0[k]? = some r'∧r'[l]? = some y:=by
        rw [List.getElem?_set] at hk
        split at hk
        ·rename_i hka
         subst hka
         simp [ha] at hk
         subst hk
         rw [List.getElem?_set] at hl
         split at hl
         ·rename_i hlb;exact absurd ⟨rfl,hlb.symm⟩ e
         ·exact ⟨row0,hrow0,hl⟩
        ·exact ⟨r,hk,hl⟩
       obtain ⟨r',h3,h4⟩:=this
       refine (hsubs k l r' y q' h3 h4 hq').keep hF hFF (fun s=>hG _ ?_) (fun s bb hbb=>hsame _ bb hbb ?_)
       ·simpa using not_prefix_ne hne p s
       ·simpa using not_prefix_ne hne p s
  ·simp at hs
theorem hasRos_get:∀ {p:List OT},OT.hasRos p=false→∀ (j:Nat) (q:OT),p[j]? = some q→q.hasRo=false
 | [],_,j,q,hq=>by simp at hq
 | a::p,h,0,q,hq=>by simp at hq;subst hq;simp [OT.hasRos] at h;exact h.1
 | a::p,h,j+1,q,hq=>by simp [OT.hasRos] at h;exact hasRos_get h.2 j q (by simpa using hq)
theorem Own.noRo {G:Gh} {q:OT} {v:Value} {t:T} (h:Own w F G q v t):q.hasRo=false→Own w F' G q v t:=by
 induction h with
 | sc h=>exact fun _=>.sc h
 | ro h=>exact fun hn=>by simp [OT.hasRo] at hn
 | nil hG=>exact fun _=>.nil hG
 | sl us hG hcap hm hrow hc hf hcell hsub ih=>
  intro hn
  simp [OT.hasRo] at hn
  exact .sl us hG hcap hm hrow hc hf hcell (fun i j row x q h1 h2 h3=>ih i j row x q h1 h2 h3 (hasRos_get hn j q h3))
 | hole h=>exact fun _=>.hole h
 | full _ ih=>exact fun hn=>.full (ih (by simpa [OT.hasRo] using hn))
end
end Go.Proofs.V

namespace Go.Proofs.V
open Go
def staleAll (D:List (Nat×Nat)) (c:C):C:=D.foldl (fun c x=>staleC x.1 x.2 c) c
theorem staleAll_snoc (D:List (Nat×Nat)) (x:Nat×Nat) (c:C):staleAll (D++[x]) c=staleC x.1 x.2 (staleAll D c):=by simp [staleAll]
theorem staleAll_dead (D:List (Nat×Nat)):staleAll D .dead=.dead:=by
 induction D with
 | nil=>rfl
 | cons x D ih=>exact ih
theorem staleAll_ref:∀ (D:List (Nat×Nat)) (id:Nat) (p:Pth) (off len:Nat),staleAll D (.ref id p off len)=.dead∨(staleAll D (.ref id p off len)=.ref id p off len∧∀ x,x ∈ D→x.1=id→p.length≤x.2)
 | [],id,p,off,len=>.inr ⟨rfl,by simp⟩
 | x::D,id,p,off,len=>by
  by_cases h:(id=x.1&&decide (x.2 < p.length))=true
  ·left
   have:staleC x.1 x.2 (.ref id p off len)=.dead:=by
    simp only [Bool.and_eq_true,decide_eq_true_eq] at h
    simp [staleC,h.1,h.2]
   show staleAll D (staleC x.1 x.2 (.ref id p off len))=.dead
   rw [this,staleAll_dead]
  ·have e:staleC x.1 x.2 (.ref id p off len)=.ref id p off len:=by
    simp only [Bool.and_eq_true,decide_eq_true_eq] at h
    simp only [staleC]
    rw [if_neg]
    simpa using h
   have:staleAll (x::D) (.ref id p off len)=staleAll D (.ref id p off len):=by
    show staleAll D (staleC x.1 x.2 (.ref id p off len))=_
    rw [e]
   rw [this]
   rcases staleAll_ref D id p off len with h1 | ⟨h1,h2⟩
   ·exact .inl h1
   ·refine .inr ⟨h1,fun y hy hyi=>?_⟩
    rcases List.mem_cons.1 hy with rfl | hy
    ·simp only [Bool.and_eq_true,decide_eq_true_eq,not_and] at h
     exact Nat.le_of_not_lt (h hyi.symm)
    ·exact h2 y hy hyi
theorem staleAll_ptr:∀ (D:List (Nat×Nat)) (id:Nat) (p:Pth) (i j:Nat),staleAll D (.ptr id p i j)=.dead∨(staleAll D (.ptr id p i j)=.ptr id p i j∧∀ x,x ∈ D→x.1=id→p.length≤x.2)
 | [],id,p,i,j=>.inr ⟨rfl,by simp⟩
 | x::D,id,p,i,j=>by
  by_cases h:(id=x.1&&decide (x.2 < p.length))=true
  ·left
   have:staleC x.1 x.2 (.ptr id p i j)=.dead:=by
    simp only [Bool.and_eq_true,decide_eq_true_eq] at h
    simp [staleC,h.1,h.2]
   show staleAll D (staleC x.1 x.2 (.ptr id p i j))=.dead
   rw [this,staleAll_dead]
  ·have e:staleC x.1 x.2 (.ptr id p i j)=.ptr id p i j:=by
    simp only [Bool.and_eq_true,decide_eq_true_eq] at h
    simp only [staleC]
    rw [if_neg]
    simpa using h
   have:staleAll (x::D) (.ptr id p i j)=staleAll D (.ptr id p i j):=by
    show staleAll D (staleC x.1 x.2 (.ptr id p i j))=_
    rw [e]
   rw [this]
   rcases staleAll_ptr D id p i j with h1 | ⟨h1,h2⟩
   ·exact .inl h1
   ·refine .inr ⟨h1,fun y hy hyi=>?_⟩
    rcases List.mem_cons.1 hy with rfl | hy
    ·simp only [Bool.and_eq_true,decide_eq_true_eq,not_and] at h
     exact Nat.le_of_not_lt (h hyi.symm)
    ·exact h2 y hy hyi
theorem staleAll_other {c:C} (h1:∀ id p off len,c≠.ref id p off len) (h2:∀ id p i j,c≠.ptr id p i j):∀ D:List (Nat×Nat),staleAll D c=c:=by
 intro D
 induction D with
 | nil=>rfl
 | cons x D ih=>
  have:staleC x.1 x.2 c=c:=by
   cases c with
   | ref a b d e=>exact absurd rfl (h1 _ _ _ _)
   | ptr a b d e=>exact absurd rfl (h2 _ _ _ _)
   | _=>rfl
  show staleAll D (staleC x.1 x.2 c)=c
  rw [this,ih]
theorem staleC_new {c:C} {n id k:Nat} (h:c.isNew n) (hid:id < n):staleC id k c=c:=by
 cases c with
 | ref a b d e=>
  have:=h.1 a (by simp [C.oid])
  have hne : ¬ a=id:=by omega
  simp [staleC,hne]
 | ptr a b d e=>
  have:=h.1 a (by simp [C.oid])
  have hne : ¬ a=id:=by omega
  simp [staleC,hne]
 | _=>rfl
theorem SV.map_map (f g:C→C) (s:SV):SV.map f (SV.map g s)=SV.map (fun c=>f (g c)) s:=by
 cases s with
 | v a cs=>simp [SV.map,Function.comp_def]
 | tup ss=>simp [SV.map,Function.comp_def]
 | ifc t c=>simp [SV.map]
 | any=>rfl
section
variable {A:Nat→Prop} {pin pin0:List (Nat×Value)} {w w' : World} {F F' F3:Nat→Prop} {O O' OS:Nat→Option Ow} {Go Go' GoS:Nat→Gh} {Gv Gv' GvS:Nat→Option Nat} {st st' s:St} {tm tm' : Array Value}
variable {hs:List (Nat×Pth)} {vs:List Nat}
def Give (w:World) (Go:Nat→Gh) (Gv:Nat→Option Nat) (hs:List (Nat×Pth)) (vs:List Nat) (b:Nat):Prop:=w.heap.size≤b∨Hand Go Gv hs vs b
structure Ctx (A:Nat→Prop) (pin pin0:List (Nat×Value)) (w w' : World) (F F' F3:Nat→Prop) (O O' : Nat→Option Ow) (Go Go' : Nat→Gh) (Gv Gv' : Nat→Option Nat) (st st' : St) (tm tm' : Array Value) (hs:List (Nat×Pth)) (vs:List Nat) (K:OT→Prop):Prop where
 h:Rel A pin w F O Go Gv st tm
 hr:Rel (Give w Go Gv hs vs) pin0 w' F' O' Go' Gv' st' tm'
 step:Step (Give w Go Gv hs vs) w w'
 ndo:(hs.map (·.1)).Nodup
 ndv:vs.Nodup
 hsl:∀ id,id ∈ hs.map (·.1)→id < st.objs.length
 hF:∀ b,F b→F3 b
 f3s:∀ b,F3 b→b < w'.heap.size
 f3n:∀ b,F3 b→¬ Give w Go Gv hs vs b→O b=none
 f3g:∀ b,F3 b→Give w Go Gv hs vs b→O' b=none
 conv:∀ {q G v t},K q→Own w' F' G q v t→Own w' F3 G q v t
variable {K:OT→Prop}
theorem Hand.owned (h:Rel A pin w F O Go Gv st tm) {b:Nat} (hb:Hand Go Gv hs vs b):∃ x,O b=some x:=by
 rcases hb with ⟨x,_,r,bk,e1,e2⟩|⟨id,_,e1⟩
 ·exact ⟨_,e2 ▸ h.oO _ _ _ e1⟩
 ·exact ⟨_,h.oV _ _ e1⟩
theorem Ctx.notF (c:Ctx A pin pin0 w w' F F' F3 O O' Go Go' Gv Gv' st st' tm tm' hs vs K) {b:Nat} (hb:F b) : ¬ Give w Go Gv hs vs b:=by
 rintro (h1 | h1)
 ·have:=c.h.fS b hb;omega
 ·obtain ⟨x,hx⟩:=h1.owned c.h
  rw [c.h.oF b hb] at hx
  simp at hx
theorem Ctx.sameF (c:Ctx A pin pin0 w w' F F' F3 O O' Go Go' Gv Gv' st st' tm tm' hs vs K) (b:Nat) (hb:F b):Same w w' b:=Same.of_heap (c.step.heap b (c.h.fS b hb) (c.notF hb))
theorem Ctx.sameO (c:Ctx A pin pin0 w w' F F' F3 O O' Go Go' Gv Gv' st st' tm tm' hs vs K) {b:Nat} {x:Ow} (hb:O b=some x) (hn : ¬ Give w Go Gv hs vs b):Same w w' b:=Same.of_heap (c.step.heap b (c.h.oA b x hb).2 hn)
theorem Ctx.giveA (c:Ctx A pin pin0 w w' F F' F3 O O' Go Go' Gv Gv' st st' tm tm' hs vs K) {b:Nat} (hb:Give w Go Gv hs vs b):A b:=by
 rcases hb with hb | hb
 ·exact c.h.aN b hb
 ·obtain ⟨x,hx⟩:=hb.owned c.h
  exact (c.h.oA b x hx).1
theorem Ctx.notGive (c:Ctx A pin pin0 w w' F F' F3 O O' Go Go' Gv Gv' st st' tm tm' hs vs K) {id:Nat} {q:Pth} {b:Bk} (hb:Go id q=some b) (hn:∀ p,(id,p) ∈ hs→¬ p <+: q) : ¬ Give w Go Gv hs vs b.g:=by
 have hO:=c.h.oO _ _ _ hb
 rintro (h1 | ⟨x,hx,r,bk,e1,e2⟩|⟨i,_,e1⟩)
 ·have:=(c.h.oA _ _ hO).2;omega
 ·obtain ⟨e3,e4⟩:=c.h.inj e1 hb e2
  have:x=(id,x.2):=by rw [←e3]
  exact hn x.2 (this ▸ hx) ⟨r,e4⟩
 ·have:=c.h.oV _ _ e1
  rw [hO] at this
  simp at this
theorem Ctx.notGiveV (c:Ctx A pin pin0 w w' F F' F3 O O' Go Go' Gv Gv' st st' tm tm' hs vs K) {id g:Nat} (hb:Gv id=some g) (hn:id ∉ vs) : ¬ Give w Go Gv hs vs g:=by
 have hO:=c.h.oV _ _ hb
 rintro (h1 | ⟨x,hx,r,bk,e1,e2⟩|⟨i,hi,e1⟩)
 ·have:=(c.h.oA _ _ hO).2;omega
 ·have:=c.h.oO _ _ _ e1
  rw [e2,hO] at this
  simp at this
 ·have:=c.h.oV _ _ e1
  rw [hO] at this
  simp at this
  exact hn (this ▸ hi)
structure Inv (A:Nat→Prop) (w w' : World) (F3:Nat→Prop) (O O' OS:Nat→Option Ow) (Go GoS:Nat→Gh) (Gv GvS:Nat→Option Nat) (st s:St) (hs:List (Nat×Pth)) (vs:List Nat) (D:List (Nat×Nat)) (Rst RstV uo uv:List Nat):Prop where
 mem:MRel A w' F3 OS GoS GvS s
 slots:s.slots=st.slots.map (SV.map (staleAll D))
 ol:st.objs.length≤s.objs.length
 vl:s.vars.length=st.vars.length
 obj:∀ id,id < st.objs.length→∀ o',s.obj id=some o'→∃ o,st.obj id=some o∧o'.ot=o.ot∧∀ q:Pth,(∀ x,x ∈ D→x.1=id→q.length≤x.2)→GoS id q=Go id q
 dead:∀ id,id ∈ hs.map (·.1)→id ∉ Rst→s.obj id=none
 deadv:∀ id,id ∈ vs→id ∉ RstV→s.var id=none
 var:∀ id,id < st.vars.length→∀ cs',s.var id=some cs'→(∃ cs,st.var id=some cs)∧GvS id=Gv id
 cells:∀ id cs,s.var id=some cs→(id ∉ vs∧∃ cs0,st.var id=some cs0∧cs=cs0.map (staleAll D))∨
  (∀ g k c,GvS id=some g→cs[k]? = some c→∃ u,w'.cell? ⟨g,k,none⟩=some u∧CRel w' F3 GoS GvS s u c∧c.isNew st.objs.length∧C.simple c=true)
 own:∀ b x,OS b=some x→(¬ Give w Go Gv hs vs b∧∃ y,O b=some y∧∀ id q,y=.obj id q→id ∈ hs.map (·.1)→id ∈ Rst)∨
  (Give w Go Gv hs vs b∧((∃ n q,O' b=some (.obj n q)∧n ∈ uo)∨∃ n,O' b=some (.var n)∧n ∈ uv))
theorem CRel.simple_carry {w:World} {F:Nat→Prop} {Go Go2:Nat→Gh} {Gv Gv2:Nat→Option Nat} {s s2:St} {u:Value} {c:C} (hs:C.simple c=true) (hl:s.objs.length≤s2.objs.length)
  (h:∀ id,id ∈ c.oid→id < s.objs.length→∀ o',s2.obj id=some o'→s.obj id=some o'∧Go2 id=Go id) (hc:CRel w F Go Gv s u c):CRel w F Go2 Gv2 s2 u c:=by
 cases c with
 | lit _=>exact hc
 | ro _ _=>exact hc
 | ref id p off len=>
  refine ⟨Nat.lt_of_lt_of_le hc.1 hl,fun o' ho'=>?_⟩
  obtain ⟨e1,e2⟩:=h id (by simp [C.oid]) hc.1 o' ho'
  rw [e2]
  exact hc.2 o' e1
 | _=>simp [C.simple] at hs
theorem MRel.mapC (h:MRel A w F O Go Gv s) (f:C→C):MRel A w F O Go Gv (s.mapC f) where
 objs:=h.objs
 objN:=h.objN
 vars:=by
  intro id cs hcs
  rw [mapC_var,Option.map_eq_some_iff] at hcs
  obtain ⟨cs',h1,rfl⟩:=hcs
  obtain ⟨g,h2,h3⟩:=h.vars id cs' h1
  exact ⟨g,h2,fun k hk=>h3 k (by simpa using hk)⟩
 varN:=by
  intro id g hg
  obtain ⟨cs,hcs⟩:=h.varN id g hg
  exact ⟨cs.map f,by rw [mapC_var,hcs];rfl⟩
 oO:=h.oO
 oV:=h.oV
 oF:=h.oF
 oA:=h.oA
 fS:=h.fS
 aN:=h.aN
theorem Inv.backObj (c:Ctx A pin pin0 w w' F F' F3 O O' Go Go' Gv Gv' st st' tm tm' hs vs K) {D:List (Nat×Nat)} {Rst RstV uo uv:List Nat} (hi:Inv A w w' F3 O O' OS Go GoS Gv GvS st s hs vs D Rst RstV uo uv)
  {id n len len' : Nat} {p:Pth} {ot:List OT} {ob ob' : Ob} {es es0 es' : List (List T)} {val:Value} (hhs:(id,p) ∈ hs) (hR:id ∉ Rst) (hn:n ∉ uo) (hK:K (.own ot)) (hob:st.obj id=some ob) (hsub:subEs ob.ot ob.es p=some (ot,es0)) (hlen:len=es0.length)
  (hv:CRel w F Go Gv st val (.ref id p 0 len)) (hv' : CRel w' F' Go' Gv' st' val (.ref n [] 0 len')) (hob' : st'.obj n=some ob') (hot:ob'.ot=ot) (hes:es=ob'.es) (hel:es.length=es0.length) (hup:updEs ob.ot ob.es p es=some es') :
  ∃ OS2 GoS2,Inv A w w' F3 O O' OS2 Go GoS2 Gv GvS st { s.mapC (staleC id p.length) with objs:=s.objs.set id (some ⟨ob.ot,es'⟩) } hs vs (D++[(id,p.length)]) (Rst++[id]) RstV (uo++[n]) uv:=by
 subst hot
 subst hes
 have hidl:id < st.objs.length:=obj_lt hob
 have hids:id < s.objs.length:=Nat.lt_of_lt_of_le hidl hi.ol
 have hroot:Go' n []=Go id p:=by
  have h1:=hv.2 ob hob
  have h2:=hv'.2 ob' hob'
  cases e1:Go id p with
  | none=>
   simp only [e1] at h1
   cases e2:Go' n [] with
   | none=>rfl
   | some b=>
    simp only [e2] at h2
    rcases h2 with ⟨_,h2,_⟩|⟨h0,_⟩
    ·rw [h1.1] at h2;simp at h2
    ·omega
  | some b=>
   simp only [e1] at h1
   rcases h1 with ⟨_,h1,_⟩|⟨h0,_⟩
   ·cases e2:Go' n [] with
    | none=>simp only [e2] at h2;rw [h1] at h2;simp at h2
    | some b'=>
     simp only [e2] at h2
     rcases h2 with ⟨_,h2,_⟩|⟨h0,_⟩
     ·rw [h1] at h2
      simp at h2
      cases b;cases b'
      simp_all
     ·omega
   ·omega
 obtain ⟨v0,hv0⟩:=c.h.objs id ob hob
 obtain ⟨v2,hv2⟩:=c.hr.objs n ob' hob'
 have hv2':=c.conv hK hv2
 have huniq:∀ p',(id,p') ∈ hs→p' = p:=by
  intro p' hp'
  have:∀ (l:List (Nat×Pth)),(l.map (·.1)).Nodup→(id,p') ∈ l→(id,p) ∈ l→p' = p:=by
   intro l
   induction l with
   | nil=>intro _ h;simp at h
   | cons x l ih=>
    intro hnd h1 h2
    simp only [List.map_cons,List.nodup_cons] at hnd
    rcases List.mem_cons.1 h1 with e1 | e1
    ·rcases List.mem_cons.1 h2 with e2 | e2
     ·rw [←e1] at e2;simp at e2;exact e2.symm
     ·exact absurd (List.mem_map.2 ⟨_,e2,by rw [←e1]⟩) hnd.1
    ·rcases List.mem_cons.1 h2 with e2 | e2
     ·exact absurd (List.mem_map.2 ⟨_,e1,by rw [←e2]⟩) hnd.1
     ·exact ih hnd.2 e1 e2
  exact this hs c.ndo hp' hhs
 have hout:∀ q b,Go id q=some b→¬ p <+: q→¬ Give w Go Gv hs vs b.g:=fun q b hb hnp=>c.notGive hb (fun p' hp'=>by rw [huniq p' hp'];exact hnp)
 obtain ⟨vn,hvn,_⟩:=Own.sub (w:=w) (w':=w') (F:=F) (F':=F3) c.sameF c.hF p (Gx:=Go' n) (G':=subG (Go id) p (Go' n)) hv0 hsub hup hel (fun q b hb hnp=>c.sameO (c.h.oO _ _ _ hb) (hout q b hb hnp)) hv2' hroot
  (fun q hnp=>by simp [subG,hnp]) (fun q=>by simp [subG])
 have hsubG:∀ q b,subG (Go id) p (Go' n) q=some b→(p <+: q∧Go' n (q.drop p.length)=some b)∨(¬ p <+: q∧Go id q=some b):=by
  intro q b hb
  unfold subG at hb
  split at hb
  ·exact .inl ⟨‹_›,hb⟩
  ·exact .inr ⟨‹_›,hb⟩
 have hfree:∀ q b,subG (Go id) p (Go' n) q=some b→OS b.g=none∧¬ F3 b.g∧A b.g∧b.g < w'.heap.size:=by
  intro q b hb
  rcases hsubG q b hb with ⟨_,h1⟩|⟨h0,h1⟩
  ·have hO:=c.hr.oO _ _ _ h1
   have hg:=(c.hr.oA _ _ hO).1
   refine ⟨?_,fun hf=>?_,c.giveA hg,(c.hr.oA _ _ hO).2⟩
   ·cases hx:OS b.g with
    | none=>rfl
    | some x=>
     rcases hi.own _ _ hx with ⟨h2,_⟩|⟨_,⟨m,q',h2,h3⟩|⟨m,h2,_⟩⟩
     ·exact absurd hg h2
     ·rw [hO] at h2;simp at h2;exact absurd (h2.1 ▸ h3) hn
     ·rw [hO] at h2;simp at h2
   ·rw [c.f3g _ hf hg] at hO;simp at hO
  ·have hO:=c.h.oO _ _ _ h1
   have hg:=hout q b h1 h0
   refine ⟨?_,fun hf=>?_,(c.h.oA _ _ hO).1,Nat.lt_of_lt_of_le (c.h.oA _ _ hO).2 c.step.size⟩
   ·cases hx:OS b.g with
    | none=>rfl
    | some x=>
     rcases hi.own _ _ hx with ⟨_,y,h2,h3⟩|⟨h2,_⟩
     ·rw [hO] at h2
      simp at h2
      exact absurd (h3 id q h2.symm (List.mem_map.2 ⟨_,hhs,rfl⟩)) hR
     ·exact absurd h2 hg
   ·rw [c.f3n _ hf hg] at hO;simp at hO
 have hinj:∀ q q' b b',subG (Go id) p (Go' n) q=some b→subG (Go id) p (Go' n) q' = some b'→b.g=b'.g→q=q':=by
  intro q q' b b' hb hb' e
  rcases hsubG q b hb with ⟨h0,h1⟩|⟨h0,h1⟩ <;> rcases hsubG q' b' hb' with ⟨h0',h1'⟩|⟨h0',h1'⟩
  ·have:=(c.hr.inj h1 h1' e).2
   obtain ⟨r,rfl⟩:=h0
   obtain ⟨r',rfl⟩:=h0'
   simp at this
   rw [this]
  ·exact absurd (e ▸ (c.hr.oA _ _ (c.hr.oO _ _ _ h1)).1) (hout q' b' h1' h0')
  ·exact absurd (e ▸ (c.hr.oA _ _ (c.hr.oO _ _ _ h1')).1) (hout q b h1 h0)
  ·exact (c.h.inj h1 h1' e).2
 have hsn:s.obj id=none:=hi.dead id (List.mem_map.2 ⟨_,hhs,rfl⟩) hR
 have hm:=(hi.mem.putObj hids hsn hvn hfree hinj).mapC (staleC id p.length)
 have hobj:∀ k,St.obj { s.mapC (staleC id p.length) with objs:=s.objs.set id (some ⟨ob.ot,es'⟩) } k=if k=id then some ⟨ob.ot,es'⟩ else s.obj k:=fun k=>set_obj s hids _ k
 have hvar:∀ k,St.var { s.mapC (staleC id p.length) with objs:=s.objs.set id (some ⟨ob.ot,es'⟩) } k=(s.var k).map (List.map (staleC id p.length)):=fun k=>mapC_var s _ k
 refine ⟨_,_,hm,?_,?_,?_,?_,?_,?_,?_,?_,?_⟩
 ·show s.slots.map (SV.map (staleC id p.length))=_
  rw [hi.slots,List.map_map]
  apply List.map_congr_left
  intro x _
  simp only [Function.comp_apply,SV.map_map]
  congr 1
  funext c'
  exact (staleAll_snoc D (id,p.length) c').symm
 ·simp [hi.ol]
 ·simp [St.mapC,hi.vl]
 ·intro i hil o' ho'
  rw [hobj] at ho'
  by_cases e:i=id
  ·subst e
   simp at ho'
   subst ho'
   refine ⟨ob,hob,rfl,fun q hq=>?_⟩
   have hql:=hq (i,p.length) (by simp) rfl
   simp only [if_true,subG]
   split
   ·rename_i hpq
    have:q=p:=(List.IsPrefix.eq_of_length hpq (Nat.le_antisymm (List.IsPrefix.length_le hpq) hql)).symm
    subst this
    simp [hroot]
   ·rfl
  ·simp only [e,if_false] at ho' ⊢
   obtain ⟨o,h1,h2,h3⟩:=hi.obj i hil o' ho'
   exact ⟨o,h1,h2,fun q hq=>h3 q (fun x hx=>hq x (by simp [hx]))⟩
 ·intro i hih hir
  simp only [List.mem_append,List.mem_singleton,not_or] at hir
  rw [hobj]
  simp only [hir.2,if_false]
  exact hi.dead i hih hir.1
 ·intro i hiv hir
  rw [hvar,hi.deadv i hiv hir]
  rfl
 ·intro i hil cs' hcs
  rw [hvar,Option.map_eq_some_iff] at hcs
  obtain ⟨cs,h1,_⟩:=hcs
  exact hi.var i hil cs h1
 ·intro i cs hcs
  rw [hvar,Option.map_eq_some_iff] at hcs
  obtain ⟨cs1,h1,rfl⟩:=hcs
  rcases hi.cells i cs1 h1 with ⟨h2,cs0,h3,rfl⟩ | h2
  ·refine .inl ⟨h2,cs0,h3,?_⟩
   rw [List.map_map]
   apply List.map_congr_left
   intro x _
   exact (staleAll_snoc D (id,p.length) x).symm
  ·refine .inr fun g k c' hg hc'=>?_
   simp only [List.getElem?_map,Option.map_eq_some_iff] at hc'
   obtain ⟨c1,h3,rfl⟩:=hc'
   obtain ⟨u,a1,a2,a3,a4⟩:=h2 g k c1 hg h3
   rw [staleC_new a3 hidl]
   refine ⟨u,a1,CRel.simple_carry a4 (by simp) (fun i' hi' _ o' ho'=>?_) a2,a3,a4⟩
   have hge:=a3.1 i' hi'
   have hne:i'≠id:=by omega
   rw [hobj] at ho'
   simp only [hne,if_false] at ho' ⊢
   exact ⟨ho',by first | trivial | rfl⟩
 ·intro b x hx
  unfold putOO at hx
  split at hx
  ·rename_i hp
   obtain ⟨q,cc,hq⟩:=hp
   rcases hsubG q _ hq with ⟨_,h1⟩|⟨h0,h1⟩
   ·have hO:=c.hr.oO _ _ _ h1
    exact .inr ⟨(c.hr.oA _ _ hO).1,.inl ⟨n,_,hO,by simp⟩⟩
   ·have hO:=c.h.oO _ _ _ h1
    refine .inl ⟨hout q _ h1 h0,_,hO,fun i q' e _=>?_⟩
    simp at e
    simp [e.1]
  ·rcases hi.own b x hx with ⟨h1,y,h2,h3⟩|⟨h1,⟨m,q,h2,h3⟩|⟨m,h2,h3⟩⟩
   ·exact .inl ⟨h1,y,h2,fun i q e hih=>by simp [h3 i q e hih]⟩
   ·exact .inr ⟨h1,.inl ⟨m,q,h2,by simp [h3]⟩⟩
   ·exact .inr ⟨h1,.inr ⟨m,h2,h3⟩⟩
end
end Go.Proofs.V

namespace Go.Proofs.V
open Go
section
variable {A:Nat→Prop} {pin pin0:List (Nat×Value)} {w w' : World} {F F' F3:Nat→Prop} {O O' OS:Nat→Option Ow} {Go Go' GoS:Nat→Gh} {Gv Gv' GvS:Nat→Option Nat} {st st' s:St} {tm tm' : Array Value}
variable {hs:List (Nat×Pth)} {vs:List Nat} {K:OT→Prop}
theorem Inv.inCs (c:Ctx A pin pin0 w w' F F' F3 O O' Go Go' Gv Gv' st st' tm tm' hs vs K) (hm:MRel A w' F3 OS GoS GvS s) {uo uv:List Nat} {Rst:List Nat}
  (hown:∀ b x,OS b=some x→(¬ Give w Go Gv hs vs b∧∃ y,O b=some y∧∀ id q,y=.obj id q→id ∈ hs.map (·.1)→id ∈ Rst)∨
   (Give w Go Gv hs vs b∧((∃ n q,O' b=some (.obj n q)∧n ∈ uo)∨∃ n,O' b=some (.var n)∧n ∈ uv)))
  {ots:List OT} {cs:List C} {ts:List T} {us:List Nat} {ws:List Value} (ht:V.toTs st' ots cs=some (ts,us)) (hnd:us.Nodup) (hun:∀ n,n ∈ us→n ∉ uo) (hK:∀ o,o ∈ ots→K o) (hc:CsRel w' F' Go' Gv' st' ws cs)
  {cs2:List C} {objs2:List (Option Ob)} (hi:V.inCs s.objs ots ts=some (cs2,objs2)) :
  ∃ O2 Go2,MRel A w' F3 O2 Go2 GvS { s with objs:=objs2 }∧(s.objs.length≤objs2.length∧∀ id,id < s.objs.length→∀ o',St.obj { s with objs:=objs2 } id=some o'→s.obj id=some o'∧Go2 id=GoS id)∧
   CsRel w' F3 Go2 GvS { s with objs:=objs2 } ws cs2∧(∀ b x,O2 b=some x→OS b=some x∨(Give w Go Gv hs vs b∧∃ n q,O' b=some (.obj n q)∧n ∈ us))∧(∀ c,c ∈ cs2→c.isNew s.objs.length∧C.simple c=true)∧cs2.length=ots.length:=by
 obtain ⟨t1,t2,t3,t4,t5,t6⟩:=c.hr.toTs ht hc
 obtain ⟨O2,Go2,r1,r2,r3,r4,r5,r6⟩:=hm.inCs (Gs:=csG Go' ots cs) hi t3
  (fun j o x v h1 h2 h3=>by
   have hj:j < cs.length:=by rw [t1];exact (List.getElem?_eq_some_iff.1 h1).1
   have:=t4 j o cs[j] x v h1 (by simp [hj]) h2 h3
   refine ⟨this.1,(c.conv (hK o (List.mem_of_getElem? h1)) this.2).keep (fun b _=>Same.refl w' b) (fun _ h=>h) (fun r=>by simp [csG,h1,hj]) (fun _ _ _=>Same.refl w' _)⟩)
  (fun j r b hj hb=>by
   obtain ⟨id,h1,h2,_⟩:=csG_some t5 hb
   have hO:=c.hr.oO _ _ _ h2
   have hg:=(c.hr.oA _ _ hO).1
   refine ⟨?_,fun hf=>?_,c.giveA hg,(c.hr.oA _ _ hO).2⟩
   ·cases hx:OS b.g with
    | none=>rfl
    | some x=>
     rcases hown _ _ hx with ⟨h3,_⟩|⟨_,⟨m,q',h3,h4⟩|⟨m,h3,_⟩⟩
     ·exact absurd hg h3
     ·rw [hO] at h3;simp at h3;exact absurd (h3.1 ▸ h4) (hun id h1)
     ·rw [hO] at h3;simp at h3
   ·rw [c.f3g _ hf hg] at hO;simp at hO)
  (fun j j' r r' b b' hj hj' hb hb' e=>by
   obtain ⟨id,h1,h2,h3⟩:=csG_some t5 hb
   obtain ⟨id',h1',h2',h3'⟩:=csG_some t5 hb'
   obtain ⟨rfl,rfl⟩:=c.hr.inj h2 h2' e
   refine ⟨?_,rfl⟩
   rw [t5] at hnd
   exact flat_idx (x:=id) hnd h3 h3' (by simp) (by simp))
 refine ⟨O2,Go2,r1,r2,r3,fun b x hx=>?_,r5,r6⟩
 rcases r4 b x hx with h1 | ⟨j,r,bk,hj,h1,h2⟩
 ·exact .inl h1
 ·obtain ⟨id,h3,h4,_⟩:=csG_some t5 h1
  have hO:=c.hr.oO _ _ _ h4
  rw [h2] at hO
  exact .inr ⟨(c.hr.oA _ _ hO).1,id,r,hO,h3⟩
theorem Rel.varVals {A:Nat→Prop} {w:World} {F:Nat→Prop} {O:Nat→Option Ow} {Go:Nat→Gh} {Gv:Nat→Option Nat} {st:St} {tm:Array Value} {pin:List (Nat×Value)} (h:Rel A pin w F O Go Gv st tm) {id g:Nat} {cs:List C} (hcs:st.var id=some cs) (hg:Gv id=some g) :
  ∃ ws:List Value,ws.length=cs.length∧CsRel w F Go Gv st ws cs∧∀ (k:Nat) (u:Value),ws[k]? = some u→w.cell? ⟨g,k,none⟩=some u∧w.frozen? ⟨g,k,none⟩=false:=by
 obtain ⟨g',h1,h2⟩:=h.vars id cs hcs
 rw [hg] at h1
 simp at h1
 subst h1
 obtain ⟨ws,v1,v2⟩:=list_of (Q:=fun k u=>w.cell? ⟨g,k,none⟩=some u∧w.frozen? ⟨g,k,none⟩=false∧∀ c,cs[k]? = some c→u.oneCell' = true∧CRel w F Go Gv st u c) cs.length (fun k hk=>by
  obtain ⟨u,a1,a2,a3,a4⟩:=h2 k cs[k] (by simp [hk])
  exact ⟨u,a1,a2,fun c hc=>by simp [hk] at hc;subst hc;exact ⟨a3,a4⟩⟩)
 exact ⟨ws,v1,⟨v1,fun k u c hu hc=>(v2 k u hu).2.2 c hc⟩,fun k u hu=>⟨(v2 k u hu).1,(v2 k u hu).2.1⟩⟩
theorem Inv.backVar (c:Ctx A pin pin0 w w' F F' F3 O O' Go Go' Gv Gv' st st' tm tm' hs vs K) {D:List (Nat×Nat)} {Rst RstV uo uv:List Nat} (hi:Inv A w w' F3 O O' OS Go GoS Gv GvS st s hs vs D Rst RstV uo uv)
  {id n:Nat} {ots:List OT} {cs0 cs cs2:List C} {ts:List T} {us:List Nat} {objs2:List (Option Ob)} {val:Value} (hvs:id ∈ vs) (hR:id ∉ RstV) (hn:n ∉ uv) (hK:∀ o,o ∈ ots→K o) (hcs0:st.var id=some cs0)
  (hv:CRel w F Go Gv st val (.vptr id 0)) (hv' : CRel w' F' Go' Gv' st' val (.vptr n 0)) (hcs:st'.var n=some cs) (ht:V.toTs st' ots cs=some (ts,us)) (hnd:us.Nodup) (hun:∀ n,n ∈ us→n ∉ uo) (hin:V.inCs s.objs ots ts=some (cs2,objs2)) :
  ∃ OS2 GoS2 GvS2,Inv A w w' F3 O O' OS2 Go GoS2 Gv GvS2 st { s with vars:=s.vars.set id (some cs2),objs:=objs2 } hs vs D Rst (RstV++[id]) (uo++us) (uv++[n]):=by
 obtain ⟨g,hg,e1⟩:=hv.2 cs0 hcs0
 obtain ⟨g',hg',e2⟩:=hv'.2 cs hcs
 have:g=g':=by rw [e1] at e2;simpa using e2
 subst this
 obtain ⟨ws,w1,w2,w3⟩:=c.hr.varVals hcs hg'
 obtain ⟨O2,Go2,r1,r2,r3,r4,r5,r6⟩:=Inv.inCs c hi.mem hi.own ht hnd hun hK w2 hin
 have hidv:id < st.vars.length:=var_lt hcs0
 have hids:id < s.vars.length:=by rw [hi.vl];exact hidv
 have hsn:s.var id=none:=hi.deadv id hvs hR
 have hOg:=c.hr.oV _ _ hg'
 have hgive:=(c.hr.oA _ _ hOg).1
 have hO2g:O2 g=none:=by
  cases hx:O2 g with
  | none=>rfl
  | some x=>
   rcases r4 g x hx with h1 | ⟨_,m,q,h1,_⟩
   ·rcases hi.own g x h1 with ⟨h2,_⟩|⟨_,⟨m,q,h2,_⟩|⟨m,h2,h3⟩⟩
    ·exact absurd hgive h2
    ·rw [hOg] at h2;simp at h2
    ·rw [hOg] at h2;simp at h2;exact absurd (h2 ▸ h3) hn
   ·rw [hOg] at h1;simp at h1
 have hF3g : ¬ F3 g:=fun hf=>by rw [c.f3g _ hf hgive] at hOg;simp at hOg
 have hwl:ws.length=ots.length:=by
  have:=r3.1
  omega
 have hm:=r1.putVar (id:=id) (g:=g) (cs:=cs2) hids hsn hO2g hF3g (c.giveA hgive) (c.hr.oA _ _ (c.hr.oV _ _ hg')).2 (fun k hk=>by
  have hk' : k < ws.length:=by omega
  obtain ⟨a1,a2⟩:=w3 k ws[k] (by simp [hk'])
  exact ⟨_,a1,a2,(w2.2 k ws[k] cs[k] (by simp [hk']) (by simp)).1⟩)
 have hobj:∀ k,St.obj { s with vars:=s.vars.set id (some cs2),objs:=objs2 } k=St.obj { s with objs:=objs2 } k:=fun k=>rfl
 have hvar:∀ k,St.var { s with vars:=s.vars.set id (some cs2),objs:=objs2 } k=if k=id then some cs2 else s.var k:=fun k=>set_var s hids cs2 k
 refine ⟨_,_,_,hm,hi.slots,Nat.le_trans hi.ol r2.1,by simp [hi.vl],?_,?_,?_,?_,?_,?_⟩
 ·intro i hil o' ho'
  obtain ⟨h1,h2⟩:=r2.2 i (Nat.lt_of_lt_of_le hil hi.ol) o' ho'
  obtain ⟨o,h3,h4,h5⟩:=hi.obj i hil o' h1
  exact ⟨o,h3,h4,fun q hq=>by rw [h2];exact h5 q hq⟩
 ·intro i hih hir
  have h0:=hi.dead i hih hir
  cases hx:St.obj { s with vars:=s.vars.set id (some cs2),objs:=objs2 } i with
  | none=>rfl
  | some o'=>
   have:=(r2.2 i (Nat.lt_of_lt_of_le (c.hsl i hih) hi.ol) o' hx).1
   rw [h0] at this
   simp at this
 ·intro i hiv hir
  simp only [List.mem_append,List.mem_singleton,not_or] at hir
  rw [hvar]
  simp only [hir.2,if_false]
  exact hi.deadv i hiv hir.1
 ·intro i hil cs' hcs'
  rw [hvar] at hcs'
  by_cases e:i=id
  ·subst e
   exact ⟨⟨cs0,hcs0⟩,by simp [hg]⟩
  ·simp only [e,if_false] at hcs' ⊢
   exact hi.var i hil cs' hcs'
 ·intro i cs' hcs'
  rw [hvar] at hcs'
  by_cases e:i=id
  ·subst e
   simp only [if_true,Option.some.injEq] at hcs'
   subst hcs'
   refine .inr fun g0 k c0 hg0 hc0=>?_
   simp at hg0
   subst hg0
   have hk:k < ws.length:=by
    have:=(List.getElem?_eq_some_iff.1 hc0).1
    omega
   have hcr:=r3.2 k ws[k] c0 (by simp [hk]) hc0
   obtain ⟨n1,n2⟩:=r5 c0 (List.mem_of_getElem? hc0)
   exact ⟨ws[k],(w3 k ws[k] (by simp [hk])).1,CRel.simple_carry (s:={ s with objs:=objs2 }) n2 (Nat.le_refl _) (fun i' _ _ o' ho'=>⟨ho',rfl⟩) hcr.2,⟨fun i' hi'=>Nat.le_trans hi.ol (n1.1 i' hi'),n1.2⟩,n2⟩
  ·simp only [e,if_false] at hcs'
   rcases hi.cells i cs' hcs' with h1 | h1
   ·exact .inl h1
   ·refine .inr fun g0 k c0 hg0 hc0=>?_
    simp only [e,if_false] at hg0
    obtain ⟨u,a1,a2,a3,a4⟩:=h1 g0 k c0 hg0 hc0
    exact ⟨u,a1,CRel.simple_carry a4 r2.1 (fun i' hi' hil o' ho'=>r2.2 i' hil o' ho') a2,a3,a4⟩
 ·intro b x hx
  by_cases hb:b=g
  ·subst hb
   exact .inr ⟨hgive,.inr ⟨n,hOg,by simp⟩⟩
  ·simp only [hb,if_false] at hx
   rcases r4 b x hx with h1 | ⟨h0,m,q,h1,h2⟩
   ·rcases hi.own b x h1 with h3 | ⟨h3,⟨m,q,h4,h5⟩|⟨m,h4,h5⟩⟩
    ·exact .inl h3
    ·exact .inr ⟨h3,.inl ⟨m,q,h4,by simp [h5]⟩⟩
    ·exact .inr ⟨h3,.inr ⟨m,h4,by simp [h5]⟩⟩
   ·exact .inr ⟨h0,.inl ⟨m,q,h1,by simp [h2]⟩⟩
end
end Go.Proofs.V

namespace Go.Proofs.V
open Go
def PM.isBack:PM→Bool
 | .mb _ | .ms _ | .mg _=>true
 | _=>false
def PM.kinds (K:OT→Prop):PM→Prop
 | .mb ots=>∀ o,o ∈ ots→K o
 | .ms ot=>K (.own ot)
 | .mg ots=>∀ o,o ∈ ots→K o
 | _=>True
section
variable {A:Nat→Prop} {pin pin0:List (Nat×Value)} {w w' : World} {F F' F3:Nat→Prop} {O O' OS:Nat→Option Ow} {Go Go' GoS:Nat→Gh} {Gv Gv' GvS:Nat→Option Nat} {st st' s:St} {tm tm' : Array Value}
variable {hs:List (Nat×Pth)} {vs:List Nat} {K:OT→Prop}
theorem CsRel.cons {w:World} {F:Nat→Prop} {Go:Nat→Gh} {Gv:Nat→Option Nat} {st:St} {vs:List Value} {x:C} {cs:List C} (h:CsRel w F Go Gv st vs (x::cs)):∃ v vs',vs=v::vs'∧v.oneCell' = true∧CRel w F Go Gv st v x∧CsRel w F Go Gv st vs' cs:=by
 obtain ⟨h1,h2⟩:=h
 match vs,h1 with
 | v::vs',h1=>
  have h0:=h2 0 v x rfl rfl
  exact ⟨v,vs',rfl,h0.1,h0.2,by simpa using h1,fun k u c hu hc=>h2 (k+1) u c (by simpa using hu) (by simpa using hc)⟩
theorem back_cells (c:Ctx A pin pin0 w w' F F' F3 O O' Go Go' Gv Gv' st st' tm tm' hs vs K):∀ {ots:List OT} {cs cs' : List C} {ws:List Value} {ts:List T} {us:List Nat} {bs bs2:List Back} {es ms2:List T} {ids:List Nat} {OS:Nat→Option Ow} {GoS:Nat→Gh} {GvS:Nat→Option Nat} {s s2:St} {D:List (Nat×Nat)} {Rst RstV uo uv:List Nat},
  V.toTs st ots cs=some (ts,us)→mgBack ots cs=some bs→mgFull st cs=true→mgOut st' ots cs' = some (es,ids)→CsRel w F Go Gv st ws cs→CsRel w' F' Go' Gv' st' ws cs'→(∀ id,id ∈ us→(id,([]:Pth)) ∈ hs)→(Rst++us).Nodup→(uo++ids).Nodup→(∀ o,o ∈ ots→K o)→
  Inv A w w' F3 O O' OS Go GoS Gv GvS st s hs vs D Rst RstV uo uv→giveBack st.objs (bs++bs2) (es++ms2) s=some s2→
  ∃ OS2 GoS2 s1 D2,Inv A w w' F3 O O' OS2 Go GoS2 Gv GvS st s1 hs vs D2 (Rst++us) RstV (uo++ids) uv∧giveBack st.objs bs2 ms2 s1=some s2
 | [],[],cs',ws,ts,us,bs,bs2,es,ms2,ids,OS,GoS,GvS,s,s2,D,Rst,RstV,uo,uv,ht,hb,_,ho,_,hc',_,_,_,_,hi,hg=>by
  simp [V.toTs] at ht
  obtain ⟨rfl,rfl⟩:=ht
  simp [mgBack] at hb
  subst hb
  cases cs' with
  | nil=>
   simp [mgOut] at ho
   obtain ⟨rfl,rfl⟩:=ho
   exact ⟨OS,GoS,s,D,by simpa using hi,by simpa using hg⟩
  | cons x xs=>simp [mgOut] at ho
 | [],_::_,_,_,_,_,_,_,_,_,_,_,_,_,_,_,_,_,_,_,_,ht,_,_,_,_,_,_,_,_,_,_,_=>by simp [V.toTs] at ht
 | _::_,[],_,_,_,_,_,_,_,_,_,_,_,_,_,_,_,_,_,_,_,ht,_,_,_,_,_,_,_,_,_,_,_=>by simp [V.toTs] at ht
 | o::ots,x::cs,[],ws,_,_,_,_,_,_,_,_,_,_,_,_,_,_,_,_,_,_,_,_,ho,_,_,_,_,_,_,_,_=>by cases o <;> simp [mgOut] at ho
 | o::ots,x::cs,x' :: cs',ws,ts,us,bs,bs2,es,ms2,ids,OS,GoS,GvS,s,s2,D,Rst,RstV,uo,uv,ht,hb,hfu,ho,hc,hc',hhs,hnR,hnu,hK,hi,hg=>by
  obtain ⟨v,ws',rfl,h1,hv,hcr⟩:=hc.cons
  obtain ⟨v',ws2,e,h1',hv',hcr'⟩:=hc'.cons
  simp at e
  obtain ⟨rfl,rfl⟩:=e
  simp only [V.toTs] at ht
  split at ht
  ·rename_i y u ys us' hy hys
   simp at ht
   obtain ⟨rfl,rfl⟩:=ht
   have hK' : ∀ o,o ∈ ots→K o:=fun o h=>hK o (by simp [h])
   cases o with
   | sc=>
    have hu:u=[]:=by cases x <;> simp [V.toT] at hy;exact hy.2.2
    subst hu
    have hfu' : mgFull st cs=true:=by cases x <;> simp_all [mgFull]
    exact back_cells c hys (by simpa [mgBack] using hb) hfu' (by simp [mgOut] at ho;exact ho.2) hcr hcr' (by simpa using hhs) (by simpa using hnR) hnu hK' (by simpa using hi) hg
   | ro p=>
    have hu:u=[]:=by
     unfold V.toT at hy
     split at hy <;> simp_all
    subst hu
    have hfu' : mgFull st cs=true:=by cases x <;> simp_all [mgFull]
    exact back_cells c hys (by simpa [mgBack] using hb) hfu' (by simp [mgOut] at ho;exact ho.2) hcr hcr' (by simpa using hhs) (by simpa using hnR) hnu hK' (by simpa using hi) hg
   | box p=>simp [V.toT] at hy
   | hol p=>simp [mgBack] at hb
   | own ot=>
    cases x with
    | ref id p off len=>
     have hp:p=[]:=by cases p with
      | nil=>rfl
      | cons _ _=>simp [mgBack] at hb
     subst hp
     have hoff:off=0:=by cases off with
      | zero=>rfl
      | succ _=>simp [mgBack] at hb
     subst hoff
     simp only [V.toT] at hy
     split at hy
     ·rename_i ob hob
      split at hy
      ·rename_i hcond
       simp only [Bool.and_eq_true,decide_eq_true_eq] at hcond
       have hot:=OT.beqs_eq _ _ hcond.1
       simp at hy
       obtain ⟨rfl,rfl⟩:=hy
       simp only [mgBack,Option.map_eq_some_iff] at hb
       obtain ⟨bs',hb',rfl⟩:=hb
       simp only [mgFull,hob,Bool.and_eq_true,decide_eq_true_eq] at hfu
       cases x' with
       | ref n p' off' len'=>
        have hp' : p' = []:=by cases p' with
         | nil=>rfl
         | cons _ _=>simp [mgOut] at ho
        subst hp'
        have hoff' : off' = 0:=by cases off' with
         | zero=>rfl
         | succ _=>simp [mgOut] at ho
        subst hoff'
        simp only [mgOut] at ho
        ·split at ho
         ·rename_i ob' es1 ids1 hob' hrest
          split at ho
          ·rename_i hbq
           have hot':=OT.beqs_eq _ _ hbq
           simp at ho
           obtain ⟨rfl,rfl⟩:=ho
           simp only [List.cons_append,giveBack,←obj_eq,hob,subEs,updEs] at hg
           split at hg
           ·rename_i hel
            have hidR:id ∉ Rst:=fun h=>(List.nodup_append.1 hnR).2.2 id h id (by simp) rfl
            have hnuo:n ∉ uo:=fun h=>(List.nodup_append.1 hnu).2.2 n h n (by simp) rfl
            obtain ⟨OS2,GoS2,hi2⟩:=Inv.backObj c hi (p:=[]) (ot:=ot) (es0:=ob.es) (es:=ob'.es) (es':=ob'.es) (hhs id (by simp)) hidR hnuo (hK (.own ot) (by simp)) hob (by simp [subEs,hot]) hfu.1 hv hv' hob' hot'.symm rfl hel (by simp [updEs])
            obtain ⟨OS3,GoS3,s3,D3,hi3,hg3⟩:=back_cells c hys hb' hfu.2 hrest hcr hcr' (fun i h=>hhs i (by simp [h])) (by simpa [List.append_assoc] using hnR) (by simpa [List.append_assoc] using hnu) hK' hi2 hg
            exact ⟨OS3,GoS3,s3,D3,by simpa [List.append_assoc] using hi3,hg3⟩
           ·simp at hg
          ·simp at ho
         ·simp at ho
       | _=>simp [mgOut] at ho
      ·simp at hy
     ·simp at hy
    | _=>simp [mgBack] at hb
  ·simp at ht
theorem back_all (c:Ctx A pin pin0 w w' F F' F3 O O' Go Go' Gv Gv' st st' tm tm' hs vs K):∀ {pms:List PM} {xs:List SV} {ps:Pass} {vals:List Value} {k:Nat} {ms:List T} {us1 vs1:List Nat} {OS:Nat→Option Ow} {GoS:Nat→Gh} {GvS:Nat→Option Nat} {s s2:St} {D:List (Nat×Nat)} {Rst RstV uo uv:List Nat},
  passAll st pms xs=some ps→outM st' pms k=some (ms,us1,vs1)→vals.length=xs.length→(∀ (j:Nat) (v:Value) (x:SV),vals[j]? = some v→xs[j]? = some x→SRel w F Go Gv st v x)→
  (∀ (j:Nat) (pm:PM) (v:Value),pms[j]? = some pm→vals[j]? = some v→pm.isBack=true→tm'[k+j]? = some v)→(∀ x,x ∈ ps.hs→x ∈ hs)→(∀ i,i ∈ ps.vs→i ∈ vs)→
  (Rst++ps.hs.map (·.1)).Nodup→(RstV++ps.vs).Nodup→(uo++us1).Nodup→(uv++vs1).Nodup→(∀ pm,pm ∈ pms→pm.kinds K)→Inv A w w' F3 O O' OS Go GoS Gv GvS st s hs vs D Rst RstV uo uv→giveBack st.objs ps.bs ms s=some s2→
  ∃ OS2 GoS2 GvS2 D2 Rst2 RstV2,Inv A w w' F3 O O' OS2 Go GoS2 Gv GvS2 st s2 hs vs D2 Rst2 RstV2 (uo++us1) (uv++vs1)
 | [],[],ps,vals,k,ms,us1,vs1,OS,GoS,GvS,s,s2,D,Rst,RstV,uo,uv,hpass,hout,_,_,_,_,_,_,_,_,_,_,hi,hg=>by
  simp [passAll] at hpass
  subst hpass
  simp [outM] at hout
  obtain ⟨rfl,rfl,rfl⟩:=hout
  simp [giveBack] at hg
  subst hg
  exact ⟨OS,GoS,GvS,D,Rst,RstV,by simpa using hi⟩
 | [],_::_,_,_,_,_,_,_,_,_,_,_,_,_,_,_,_,_,hpass,_,_,_,_,_,_,_,_,_,_,_,_,_ | _::_,[],_,_,_,_,_,_,_,_,_,_,_,_,_,_,_,_,hpass,_,_,_,_,_,_,_,_,_,_,_,_,_=>by simp [passAll] at hpass
 | pm::pms,x::xs,ps,vals,k,ms,us1,vs1,OS,GoS,GvS,s,s2,D,Rst,RstV,uo,uv,hpass,hout,hvl,hvr,hpin,hhs,hvs,hnR,hnV,hnu,hnv,hK,hi,hg=>by
  simp only [passAll] at hpass
  split at hpass
  ·rename_i pa pb ha hb
   simp at hpass
   subst hpass
   cases vals with
   | nil=>simp at hvl
   | cons v vals=>
    simp only at hhs hvs hnR hnV hg
    have hvr' : ∀ (j:Nat) (v:Value) (x:SV),vals[j]? = some v→xs[j]? = some x→SRel w F Go Gv st v x:=fun j v' x' h1 h2=>hvr (j+1) v' x' (by simpa using h1) (by simpa using h2)
    have hpin' : ∀ (j:Nat) (pm:PM) (v:Value),pms[j]? = some pm→vals[j]? = some v→pm.isBack=true→tm'[k+1+j]? = some v:=fun j pm' v' h1 h2 h3=>by
     have:=hpin (j+1) pm' v' (by simpa using h1) (by simpa using h2) h3
     rwa [show k+(j+1)=k+1+j by omega] at this
    have hK' : ∀ pm,pm ∈ pms→pm.kinds K:=fun pm' h1=>hK pm' (by simp [h1])
    have hhs' : ∀ x,x ∈ pb.hs→x ∈ hs:=fun x hx=>hhs x (by simp [hx])
    have hvs' : ∀ i,i ∈ pb.vs→i ∈ vs:=fun x hx=>hvs x (by simp [hx])
    have hnRb:(Rst++pb.hs.map (·.1)).Nodup:=by
     simp only [List.map_append] at hnR
     rw [List.nodup_append] at hnR ⊢
     have h2:=(List.nodup_append.1 hnR.2.1).2.1
     exact ⟨hnR.1,h2,fun a ha b hb=>hnR.2.2 a ha b (by simp [hb])⟩
    have hnVb:(RstV++pb.vs).Nodup:=by
     rw [List.nodup_append] at hnV ⊢
     have h2:=(List.nodup_append.1 hnV.2.1).2.1
     exact ⟨hnV.1,h2,fun a ha b hb=>hnV.2.2 a ha b (by simp [hb])⟩
    unfold passOne at ha
    split at ha
    ·rename_i ots agg cs
     split at ha
     ·simp at ha
      subst ha
      simp only [List.cons_append,List.nil_append,giveBack] at hg
      simp only [outM] at hout
      exact back_all c hb hout (by simpa using hvl) hvr' hpin' hhs' hvs' hnRb hnVb hnu hnv hK' hi hg
     ·simp at ha
    ·rename_i ots agg cs
     split at ha
     ·simp at ha
      subst ha
      simp only [List.cons_append,List.nil_append,giveBack] at hg
      simp only [outM] at hout
      exact back_all c hb hout (by simpa using hvl) hvr' hpin' hhs' hvs' hnRb hnVb hnu hnv hK' hi hg
     ·simp at ha
    ·rename_i ots id
     split at ha
     ·rename_i cs0 hcs0
      split at ha
      ·rename_i ts0 us0 ht0
       simp at ha
       subst ha
       simp only [outM] at hout
       split at hout
       ·rename_i n r us2 vs2 hslot hrest
        split at hout
        ·rename_i cs hcs
         split at hout
         ·rename_i ts us ht
          simp at hout
          obtain ⟨rfl,rfl,rfl⟩:=hout
          simp only [List.cons_append,List.nil_append,giveBack] at hg
          split at hg
          ·rename_i cs2 objs2 hin
           have hval:tm'[k]? = some v:=by simpa using hpin 0 (.mb ots) v rfl rfl rfl
           obtain ⟨c1,e1,_,hv1⟩:=hvr 0 v _ rfl rfl
           simp at e1
           subst e1
           obtain ⟨c2,e2,_,hv2⟩:=c.hr.slots k v _ hval hslot
           simp at e2
           subst e2
           have hidR:id ∉ RstV:=fun h=>(List.nodup_append.1 hnV).2.2 id h id (by simp) rfl
           have hnuv:n ∉ uv:=fun h=>(List.nodup_append.1 hnv).2.2 n h n (by simp) rfl
           have hnus:us.Nodup:=(List.nodup_append.1 (List.nodup_append.1 hnu).2.1).1
           have hun:∀ m,m ∈ us→m ∉ uo:=fun m hm h=>(List.nodup_append.1 hnu).2.2 m h m (by simp [hm]) rfl
           obtain ⟨OS2,GoS2,GvS2,hi2⟩:=Inv.backVar c hi (hvs id (by simp)) hidR hnuv (hK (.mb ots) (by simp)) hcs0 hv1 hv2 hcs ht hnus hun hin
           have:=back_all c hb hrest (by simpa using hvl) hvr' hpin' hhs' hvs' hnRb (by simpa [List.append_assoc] using hnV) (by simpa [List.append_assoc] using hnu) (by simpa [List.append_assoc] using hnv) hK' hi2 hg
           simpa [List.append_assoc] using this
          ·simp at hg
         ·simp at hout
        ·simp at hout
       ·simp at hout
      ·simp at ha
     ·simp at ha
    ·rename_i ot id p len
     split at ha
     ·rename_i ob hob
      split at ha
      ·rename_i ot' es0 hsub
       split at ha
       ·rename_i hcond
        simp only [Bool.and_eq_true,decide_eq_true_eq] at hcond
        obtain ⟨hot,hlen⟩:=hcond
        have:=OT.beqs_eq _ _ hot
        subst this
        simp at ha
        subst ha
        simp only [outM] at hout
        split at hout
        ·rename_i n len' r us2 vs2 hslot hrest
         split at hout
         ·rename_i ob' hob'
          split at hout
          ·rename_i hot'
           have:=OT.beqs_eq _ _ hot'
           simp at hout
           obtain ⟨rfl,rfl,rfl⟩:=hout
           simp only [List.cons_append,List.nil_append,giveBack,←obj_eq,hob] at hg
           rw [hsub] at hg
           split at hg
           ·rename_i x1 x2 es1 es' e3 hup
            simp at e3
            obtain ⟨_,rfl⟩:=e3
            split at hg
            ·rename_i hel
             have hval:tm'[k]? = some v:=by simpa using hpin 0 (.ms ot) v rfl rfl rfl
             obtain ⟨c1,e1,_,hv1⟩:=hvr 0 v _ rfl rfl
             simp at e1
             subst e1
             obtain ⟨c2,e2,_,hv2⟩:=c.hr.slots k v _ hval hslot
             simp at e2
             subst e2
             have hidR:id ∉ Rst:=fun h=>(List.nodup_append.1 hnR).2.2 id h id (by simp) rfl
             have hnuo:n ∉ uo:=fun h=>(List.nodup_append.1 hnu).2.2 n h n (by simp) rfl
             obtain ⟨OS2,GoS2,hi2⟩:=Inv.backObj c hi (hhs (id,p) (by simp)) hidR hnuo (hK (.ms ot) (by simp)) hob hsub hlen hv1 hv2 hob' this.symm rfl hel hup
             have:=back_all c hb hrest (by simpa using hvl) hvr' hpin' hhs' hvs' (by simpa [List.append_assoc] using hnR) hnVb (by simpa [List.append_assoc] using hnu) hnv hK' hi2 hg
             simpa [List.append_assoc] using this
            ·simp at hg
           ·simp at hg
          ·simp at hout
         ·simp at hout
        ·simp at hout
       ·simp at ha
      ·simp at ha
     ·simp at ha
    ·rename_i ots agg cs
     split at ha
     ·rename_i ts us bs ht hbk
      split at ha
      ·rename_i hfull
       simp at ha
       subst ha
       simp only [outM] at hout
       split at hout
       ·rename_i agg' cs' r us2 vs2 hslot hrest
        split at hout
        ·rename_i es ids hmo
         simp at hout
         obtain ⟨rfl,rfl,rfl⟩:=hout
         have hval:tm'[k]? = some v:=by simpa using hpin 0 (.mg ots) v rfl rfl rfl
         have h1:=slot_cells (hvr 0 v _ rfl rfl) (toTs_ne ht)
         have h2:=slot_cells (c.hr.slots k v _ hval hslot) (fun c0 e=>by
          subst e
          intro e2
          subst e2
          match ots,hmo with
          | [],hmo=>simp [mgOut] at hmo
          | [.sc],hmo=>simp [mgOut,C.known,isLit_undef] at hmo
          | [.ro p],hmo=>simp [mgOut,C.known,isLit_undef] at hmo
          | [.own p],hmo=>simp [mgOut] at hmo
          | [.box p],hmo=>simp [mgOut] at hmo
          | o1::o2::_,hmo=>cases o1 <;> cases o2 <;> simp [mgOut] at hmo)
         have hus:(roots us).map (·.1)=us:=roots_fst us
         rw [List.map_append,hus] at hnR
         have hnR1:(Rst++us).Nodup:=by
          rw [←List.append_assoc] at hnR
          exact (List.nodup_append.1 hnR).1
         have hnu1:(uo++ids).Nodup:=by
          rw [←List.append_assoc] at hnu
          exact (List.nodup_append.1 hnu).1
         obtain ⟨OS2,GoS2,s1,D2,hi2,hg2⟩:=back_cells c ht hbk hfull hmo h1 h2 (fun i hi'=>hhs (i,[]) (by simp [roots,hi'])) hnR1 hnu1 (hK (.mg ots) (by simp)) hi hg
         have:=back_all c hb hrest (by simpa using hvl) hvr' hpin' hhs' hvs' (by simpa [List.append_assoc] using hnR) hnVb (by simpa [List.append_assoc] using hnu) hnv hK' hi2 hg2
         simpa [List.append_assoc] using this
        ·simp at hout
       ·simp at hout
      ·simp at ha
     ·simp at ha
    ·simp at ha
  ·simp at hpass
theorem CRel.live (c:Ctx A pin pin0 w w' F F' F3 O O' Go Go' Gv Gv' st st' tm tm' hs vs K) {D:List (Nat×Nat)} {Rst RstV uo uv:List Nat} (hi:Inv A w w' F3 O O' OS Go GoS Gv GvS st s hs vs D Rst RstV uo uv) {v:Value} {x:C} (hc:CRel w F Go Gv st v x) :
  CRel w' F3 GoS GvS s v (staleAll D x):=by
 have hV:∀ {id j v},VRel st Gv id j v→VRel s GvS id j v:=by
  intro id j v hv
  refine ⟨by rw [hi.vl];exact hv.1,fun cs hcs=>?_⟩
  obtain ⟨⟨cs',h1⟩,h2⟩:=hi.var id hv.1 cs hcs
  rw [h2]
  exact hv.2 cs' h1
 cases x with
 | lit y=>rw [staleAll_other (by simp) (by simp)];exact hc
 | ro p es=>rw [staleAll_other (by simp) (by simp)];exact hc.keep c.sameF c.hF
 | ref id p off len=>
  rcases staleAll_ref D id p off len with h1 | ⟨h1,h2⟩
  ·rw [h1];trivial
  ·rw [h1]
   refine ⟨Nat.lt_of_lt_of_le hc.1 hi.ol,fun o' ho'=>?_⟩
   obtain ⟨o,a1,a2,a3⟩:=hi.obj id hc.1 o' ho'
   rw [a3 p h2,a2]
   exact hc.2 o a1
 | ptr id p i j=>
  rcases staleAll_ptr D id p i j with h1 | ⟨h1,h2⟩
  ·rw [h1];trivial
  ·rw [h1]
   refine ⟨Nat.lt_of_lt_of_le hc.1 hi.ol,fun o' ho'=>?_⟩
   obtain ⟨o,a1,a2,a3⟩:=hi.obj id hc.1 o' ho'
   rw [a3 p h2,a2]
   exact hc.2 o a1
 | rptr p cs=>
  rw [staleAll_other (by simp) (by simp)]
  obtain ⟨g,off,e1,e2,e3,e4⟩:=hc
  refine ⟨g,off,e1,c.hF _ e2,e3,fun k x q h1 h2=>?_⟩
  obtain ⟨u,hu,hr⟩:=e4 k x q h1 h2
  exact ⟨u,(c.sameF g e2 _).1.trans hu,hr.keep c.sameF c.hF⟩
 | vptr id j=>rw [staleAll_other (by simp) (by simp)];exact hV hc
 | clo f cap=>
  rw [staleAll_other (by simp) (by simp)]
  obtain ⟨ws,e1,e2,e3⟩:=hc
  exact ⟨ws,e1,e2,fun k u id h1 h2=>hV (e3 k u id h1 h2)⟩
 | dead=>rw [staleAll_dead];trivial
theorem Inv.rel (c:Ctx A pin pin0 w w' F F' F3 O O' Go Go' Gv Gv' st st' tm tm' hs vs K) {D:List (Nat×Nat)} {Rst RstV uo uv:List Nat} (hi:Inv A w w' F3 O O' OS Go GoS Gv GvS st s hs vs D Rst RstV uo uv):Rel A pin w' F3 OS GoS GvS s tm where
 size:=by rw [hi.slots];simp [c.h.size]
 slots:=by
  intro k v s1 h1 h2
  rw [hi.slots] at h2
  simp only [List.getElem?_map,Option.map_eq_some_iff] at h2
  obtain ⟨s0,h3,rfl⟩:=h2
  exact SRel.map (fun v x hx=>CRel.live c hi hx) (staleAll_other (by simp) (by simp) D) (c.h.slots k v s0 h1 h3)
 objs:=hi.mem.objs
 objN:=hi.mem.objN
 vars:=by
  intro id cs hcs
  obtain ⟨g,h1,h2⟩:=hi.mem.vars id cs hcs
  refine ⟨g,h1,fun k x hx=>?_⟩
  have hk:=(List.getElem?_eq_some_iff.1 hx).1
  obtain ⟨u,a1,a2,a3⟩:=h2 k hk
  refine ⟨u,a1,a2,a3,?_⟩
  rcases hi.cells id cs hcs with ⟨h3,cs0,h4,rfl⟩ | h3
  ·simp only [List.getElem?_map,Option.map_eq_some_iff] at hx
   obtain ⟨x0,h5,rfl⟩:=hx
   obtain ⟨g0,h6,h7⟩:=c.h.vars id cs0 h4
   obtain ⟨u0,b1,b2,b3,b4⟩:=h7 k x0 h5
   have hgg:g=g0:=by
    have:=(hi.var id (var_lt h4) _ hcs).2
    rw [h1,h6] at this
    simpa using this
   subst hgg
   have hs:=c.sameO (c.h.oV _ _ h6) (c.notGiveV h6 h3)
   rw [(hs k).1,b1] at a1
   simp at a1
   subst a1
   exact CRel.live c hi b4
  ·obtain ⟨u1,b1,b2,_⟩:=h3 g k x h1 hx
   rw [a1] at b1
   simp at b1
   subst b1
   exact b2
 varN:=hi.mem.varN
 oO:=hi.mem.oO
 oV:=hi.mem.oV
 oF:=hi.mem.oF
 oA:=hi.mem.oA
 fS:=hi.mem.fS
 aN:=hi.mem.aN
 pinned:=c.h.pinned
def killV (vs:List (Option (List C))) (ids:List Nat):List (Option (List C)):=ids.foldl (fun vs i=>vs.set i none) vs
theorem killV_length:∀ (us:List Nat) (os:List (Option (List C))),(killV os us).length=os.length
 | [],_=>rfl
 | u::us,os=>by
  show (killV (os.set u none) us).length=_
  rw [killV_length us];simp
theorem killV_get:∀ (us:List Nat) (os:List (Option (List C))) (id:Nat),(killV os us)[id]? = if id ∈ us then (os[id]?).map (fun _=>none) else os[id]?
 | [],os,id=>by simp [killV]
 | u::us,os,id=>by
  show (killV (os.set u none) us)[id]? = _
  rw [killV_get us,List.getElem?_set]
  by_cases h:id ∈ us
  ·simp only [h,if_true,List.mem_cons,or_true]
   by_cases hu:u=id
   ·subst hu
    by_cases hl:u < os.length <;> simp [hl]
   ·simp [hu]
  ·by_cases hu:u=id
   ·subst hu
    by_cases hl:u < os.length <;> simp [h,hl]
   ·have : ¬ id=u:=fun e=>hu e.symm
    simp [h,hu,this]
theorem Ctx.start (c:Ctx A pin pin0 w w' F F' F3 O O' Go Go' Gv Gv' st st' tm tm' hs vs K) :
  ∃ OS GoS GvS,Inv A w w' F3 O O' OS Go GoS Gv GvS st { st with objs:=killO st.objs (hs.map (·.1)),vars:=killV st.vars vs } hs vs [] [] [] [] []:=by
 have hobj:∀ id,St.obj { st with objs:=killO st.objs (hs.map (·.1)),vars:=killV st.vars vs } id=if id ∈ hs.map (·.1) then none else st.obj id:=by
  intro id
  simp only [obj_eq,killO_get]
  split
  ·cases st.objs[id]? <;> rfl
  ·rfl
 have hvar:∀ id,St.var { st with objs:=killO st.objs (hs.map (·.1)),vars:=killV st.vars vs } id=if id ∈ vs then none else st.var id:=by
  intro id
  simp only [var_eq,killV_get]
  split
  ·cases st.vars[id]? <;> rfl
  ·rfl
 have hng:∀ id q b,id ∉ hs.map (·.1)→Go id q=some b→¬ Give w Go Gv hs vs b.g:=fun id q b hid hb=>c.notGive hb (fun p hp=>absurd (List.mem_map.2 ⟨_,hp,rfl⟩) hid)
 refine ⟨fun b=>match O b with
   | some (.obj id p)=>if id ∈ hs.map (·.1) then none else some (.obj id p)
   | some (.var id)=>if id ∈ vs then none else some (.var id)
   | none=>none,
  fun id=>if id ∈ hs.map (·.1) then fun _=>none else Go id,fun id=>if id ∈ vs then none else Gv id,⟨?_,?_,?_,?_,?_,?_,?_,?_,?_,?_⟩,?_,?_,?_,?_,?_,?_,?_,?_,?_⟩
 ·intro id o ho
  rw [hobj] at ho
  split at ho
  ·simp at ho
  ·rename_i hid
   obtain ⟨v,hv⟩:=c.h.objs id o ho
   refine ⟨v,?_⟩
   simp only [hid,if_false]
   exact hv.keep c.sameF c.hF (fun _=>rfl) (fun r b hb=>c.sameO (c.h.oO _ _ _ hb) (hng id r b hid hb))
 ·intro id p b hb
  rw [hobj]
  split at hb
  ·simp at hb
  ·rename_i hid
   simp only [hid,if_false]
   exact c.h.objN id p b hb
 ·intro id cs hcs
  rw [hvar] at hcs
  split at hcs
  ·simp at hcs
  ·rename_i hid
   obtain ⟨g,h1,h2⟩:=c.h.mem.vars id cs hcs
   refine ⟨g,by simp [hid,h1],fun k hk=>?_⟩
   obtain ⟨u,a1,a2,a3⟩:=h2 k hk
   have hs:=c.sameO (c.h.oV _ _ h1) (c.notGiveV h1 hid)
   exact ⟨u,(hs k).1.trans a1,((hs k).2 ⟨u,a1⟩).trans a2,a3⟩
 ·intro id g hg
  rw [hvar]
  split at hg
  ·simp at hg
  ·rename_i hid
   simp only [hid,if_false]
   exact c.h.varN id g hg
 ·intro id p b hb
  split at hb
  ·simp at hb
  ·rename_i hid
   simp only [c.h.oO _ _ _ hb,hid,if_false]
 ·intro id g hg
  split at hg
  ·simp at hg
  ·rename_i hid
   simp only [c.h.oV _ _ hg,hid,if_false]
 ·intro b hb
  cases hO:O b with
  | none=>rfl
  | some y=>
   by_cases hg:Give w Go Gv hs vs b
   ·rcases hg with hg | ⟨x,hx,r,bk,e1,e2⟩|⟨i,hi,e1⟩
    ·have:=(c.h.oA _ _ hO).2;omega
    ·have:=c.h.oO _ _ _ e1
     rw [e2,hO] at this
     simp at this
     subst this
     simp only
     rw [if_pos (List.mem_map.2 ⟨x,hx,rfl⟩)]
    ·have:=c.h.oV _ _ e1
     rw [hO] at this
     simp at this
     subst this
     simp [hi]
   ·rw [c.f3n b hb hg] at hO
    simp at hO
 ·intro b x hx
  split at hx
  ·rename_i id p hO
   exact ⟨(c.h.oA _ _ hO).1,Nat.lt_of_lt_of_le (c.h.oA _ _ hO).2 c.step.size⟩
  ·rename_i id hO
   exact ⟨(c.h.oA _ _ hO).1,Nat.lt_of_lt_of_le (c.h.oA _ _ hO).2 c.step.size⟩
  ·simp at hx
 ·exact c.f3s
 ·exact fun b hb=>c.h.aN b (Nat.le_trans c.step.size hb)
 ·show st.slots=_
  have:∀ l:List SV,l.map (SV.map (staleAll []))=l:=by
   intro l
   have e:SV.map (staleAll [])=id:=by
    funext x
    cases x with
    | v a cs=>simp [SV.map,show staleAll []=(fun c=>c) from rfl]
    | tup ss=>simp [SV.map,show staleAll []=(fun c=>c) from rfl]
    | ifc t c=>simp [SV.map,show staleAll []=(fun c=>c) from rfl]
    | any=>rfl
   rw [e,List.map_id]
  exact (this st.slots).symm
 ·simp [killO_length]
 ·simp [killV_length]
 ·intro id hid o' ho'
  rw [hobj] at ho'
  split at ho'
  ·simp at ho'
  ·rename_i hn
   exact ⟨o',ho',rfl,fun q _=>by simp only [hn,if_false]⟩
 ·intro id hid _
  rw [hobj,if_pos hid]
 ·intro id hid _
  rw [hvar,if_pos hid]
 ·intro id hid cs' hcs'
  rw [hvar] at hcs'
  split at hcs'
  ·simp at hcs'
  ·rename_i hn
   exact ⟨⟨cs',hcs'⟩,by simp only [hn,if_false]⟩
 ·intro id cs hcs
  rw [hvar] at hcs
  split at hcs
  ·simp at hcs
  ·rename_i hn
   refine .inl ⟨hn,cs,hcs,?_⟩
   rw [show (staleAll [])=(fun c=>c) from rfl,List.map_id']
 ·intro b x hx
  split at hx
  ·rename_i id p hO
   split at hx
   ·simp at hx
   ·rename_i hn
    have hgi : ¬ Give w Go Gv hs vs b:=by
     rintro (hg | ⟨y,hy,r,bk,e1,e2⟩|⟨i,hi,e1⟩)
     ·have:=(c.h.oA _ _ hO).2;omega
     ·have:=c.h.oO _ _ _ e1
      rw [e2,hO] at this
      simp at this
      exact hn (this.1 ▸ List.mem_map.2 ⟨y,hy,rfl⟩)
     ·have:=c.h.oV _ _ e1
      rw [hO] at this
      simp at this
    exact .inl ⟨hgi,_,hO,fun id' q' e hih=>by simp at e;exact absurd (e.1 ▸ hih) hn⟩
  ·rename_i id hO
   split at hx
   ·simp at hx
   ·rename_i hn
    have hgi : ¬ Give w Go Gv hs vs b:=by
     rintro (hg | ⟨y,hy,r,bk,e1,e2⟩|⟨i,hi,e1⟩)
     ·have:=(c.h.oA _ _ hO).2;omega
     ·have:=c.h.oO _ _ _ e1
      rw [e2,hO] at this
      simp at this
     ·have:=c.h.oV _ _ e1
      rw [hO] at this
      simp at this
      exact hn (this ▸ hi)
    exact .inl ⟨hgi,_,hO,fun id' q' e _=>by simp at e⟩
  ·simp at hx
end
end Go.Proofs.V

namespace Go.Proofs.V
open Go
def RM.kinds (K:OT→Prop):RM→Prop
 | .v ots | .p ots=>∀ o,o ∈ ots→K o
section
variable {A:Nat→Prop} {pin pin0:List (Nat×Value)} {w w' : World} {F F' F3:Nat→Prop} {O O' OS:Nat→Option Ow} {Go Go' GoS:Nat→Gh} {Gv Gv' GvS:Nat→Option Nat} {st st' s:St} {tm tm' : Array Value}
variable {hs:List (Nat×Pth)} {vs:List Nat} {K:OT→Prop}
def Tr (w:World) (O O' OS:Nat→Option Ow) (Go:Nat→Gh) (Gv:Nat→Option Nat) (hs:List (Nat×Pth)) (vs:List Nat) (uo uv:List Nat):Prop:=
 ∀ b x,OS b=some x→¬ Give w Go Gv hs vs b∨(Give w Go Gv hs vs b∧((∃ n q,O' b=some (.obj n q)∧n ∈ uo)∨∃ n,O' b=some (.var n)∧n ∈ uv))
theorem Tr.mono {uo uv uo2 uv2:List Nat} (h:Tr w O O' OS Go Gv hs vs uo uv) (h1:∀ n,n ∈ uo→n ∈ uo2) (h2:∀ n,n ∈ uv→n ∈ uv2):Tr w O O' OS Go Gv hs vs uo2 uv2:=by
 intro b x hx
 rcases h b x hx with h3 | ⟨h3,⟨n,q,h4,h5⟩|⟨n,h4,h5⟩⟩
 ·exact .inl h3
 ·exact .inr ⟨h3,.inl ⟨n,q,h4,h1 n h5⟩⟩
 ·exact .inr ⟨h3,.inr ⟨n,h4,h2 n h5⟩⟩
theorem Ctx.takeCells (c:Ctx A pin pin0 w w' F F' F3 O O' Go Go' Gv Gv' st st' tm tm' hs vs K) (hm:Rel A pin w' F3 OS GoS GvS s tm) {uo uv:List Nat} (ho:Tr w O O' OS Go Gv hs vs uo uv)
  {ots:List OT} {cs:List C} {ts:List T} {us:List Nat} {ws:List Value} (ht:V.toTs st' ots cs=some (ts,us)) (hnd:us.Nodup) (hun:∀ n,n ∈ us→n ∉ uo) (hK:∀ o,o ∈ ots→K o) (hc:CsRel w' F' Go' Gv' st' ws cs)
  {cs2:List C} {objs2:List (Option Ob)} (hi:V.inCs s.objs ots ts=some (cs2,objs2)) :
  ∃ O2 Go2,Rel A pin w' F3 O2 Go2 GvS { s with objs:=objs2 } tm∧Ext w' w' F3 F3 GoS Go2 GvS GvS s { s with objs:=objs2 }∧CsRel w' F3 Go2 GvS { s with objs:=objs2 } ws cs2∧Tr w O O' O2 Go Gv hs vs (uo++us) uv∧cs2.length=ots.length:=by
 obtain ⟨t1,t2,t3,t4,t5,t6⟩:=c.hr.toTs ht hc
 obtain ⟨O2,Go2,r1,r2,r3,r4,r5,r6⟩:=hm.inCs (Gs:=csG Go' ots cs) hi t3
  (fun j o x v h1 h2 h3=>by
   have hj:j < cs.length:=by rw [t1];exact (List.getElem?_eq_some_iff.1 h1).1
   have:=t4 j o cs[j] x v h1 (by simp [hj]) h2 h3
   refine ⟨this.1,(c.conv (hK o (List.mem_of_getElem? h1)) this.2).keep (fun b _=>Same.refl w' b) (fun _ h=>h) (fun r=>by simp [csG,h1,hj]) (fun _ _ _=>Same.refl w' _)⟩)
  (fun j r b hj hb=>by
   obtain ⟨id,h1,h2,_⟩:=csG_some t5 hb
   have hO:=c.hr.oO _ _ _ h2
   have hg:=(c.hr.oA _ _ hO).1
   refine ⟨?_,fun hf=>?_,c.giveA hg,(c.hr.oA _ _ hO).2⟩
   ·cases hx:OS b.g with
    | none=>rfl
    | some x=>
     rcases ho _ _ hx with h3 | ⟨_,⟨m,q',h3,h4⟩|⟨m,h3,_⟩⟩
     ·exact absurd hg h3
     ·rw [hO] at h3;simp at h3;exact absurd (h3.1 ▸ h4) (hun id h1)
     ·rw [hO] at h3;simp at h3
   ·rw [c.f3g _ hf hg] at hO;simp at hO)
  (fun j j' r r' b b' hj hj' hb hb' e=>by
   obtain ⟨id,h1,h2,h3⟩:=csG_some t5 hb
   obtain ⟨id',h1',h2',h3'⟩:=csG_some t5 hb'
   obtain ⟨rfl,rfl⟩:=c.hr.inj h2 h2' e
   refine ⟨?_,rfl⟩
   rw [t5] at hnd
   exact flat_idx (x:=id) hnd h3 h3' (by simp) (by simp))
 refine ⟨O2,Go2,r1,r2,r3,fun b x hx=>?_,r6⟩
 rcases r4 b x hx with h1 | ⟨j,r,bk,hj,h1,h2⟩
 ·exact (ho.mono (fun n hn=>by simp [hn]) (fun n hn=>hn)) b x h1
 ·obtain ⟨id,h3,h4,_⟩:=csG_some t5 h1
  have hO:=c.hr.oO _ _ _ h4
  rw [h2] at hO
  exact .inr ⟨(c.hr.oA _ _ hO).1,.inl ⟨id,r,hO,by simp [h3]⟩⟩
theorem Ctx.takeRes (c:Ctx A pin pin0 w w' F F' F3 O O' Go Go' Gv Gv' st st' tm tm' hs vs K) (hm:Rel A pin w' F3 OS GoS GvS s tm) {uo uv:List Nat} (ho:Tr w O O' OS Go Gv hs vs uo uv) {rm:RM} {x:SV} {a:Arg} {us vs1:List Nat} {v:Value}
  (hv:SRel w' F' Go' Gv' st' v x) (hout:outR st' rm x=some (a,us,vs1)) (hnu:(uo++us).Nodup) (hnv:(uv++vs1).Nodup) (hK:rm.kinds K) {y:Bool×List C} {s2:St} (hin:inR s rm a=some (y,s2)) :
  ∃ O2 Go2 Gv2,Rel A pin w' F3 O2 Go2 Gv2 s2 tm∧Ext w' w' F3 F3 GoS Go2 GvS Gv2 s s2∧ARel w' F3 Go2 Gv2 s2 v y∧Tr w O O' O2 Go Gv hs vs (uo++us) (uv++vs1):=by
 have hun:∀ m,m ∈ us→m ∉ uo:=fun m hm h=>(List.nodup_append.1 hnu).2.2 m h m hm rfl
 unfold outR at hout
 split at hout
 ·rename_i ots agg cs
  split at hout
  ·rename_i ts us1 ht
   simp at hout
   obtain ⟨rfl,rfl,rfl⟩:=hout
   simp only [inR] at hin
   split at hin
   ·rename_i cs2 objs2 hi
    simp at hin
    obtain ⟨rfl,rfl⟩:=hin
    have hne:=toTs_ne ht
    have hcs:=slot_cells hv hne
    obtain ⟨O2,Go2,r1,r2,r3,r4,r5⟩:=c.takeCells hm ho ht (List.nodup_append.1 hnu).2.1 hun hK hcs hi
    exact ⟨O2,Go2,GvS,r1,r2,slot_of_cells hv hne r3,r4.mono (fun _ h=>h) (fun _ h=>by simp [h])⟩
   ·simp at hin
  ·simp at hout
 ·rename_i ots id
  split at hout
  ·rename_i cs hcs
   split at hout
   ·rename_i ts us1 ht
    simp at hout
    obtain ⟨rfl,rfl,rfl⟩:=hout
    simp only [inR] at hin
    split at hin
    ·rename_i cs2 objs2 hi
     simp at hin
     obtain ⟨rfl,rfl⟩:=hin
     obtain ⟨c1,e1,_,hv1⟩:=hv
     simp at e1
     subst e1
     obtain ⟨g,hg,e2⟩:=hv1.2 cs hcs
     obtain ⟨ws,w1,w2,w3⟩:=c.hr.varVals hcs hg
     obtain ⟨O2,Go2,r1,r2,r3,r4,r5⟩:=c.takeCells hm ho ht (List.nodup_append.1 hnu).2.1 hun hK w2 hi
     have hOg:=c.hr.oV _ _ hg
     have hgive:=(c.hr.oA _ _ hOg).1
     have hiv:id ∉ uv:=fun h=>(List.nodup_append.1 hnv).2.2 id h id (by simp) rfl
     have hO2:O2 g=none:=by
      cases hx:O2 g with
      | none=>rfl
      | some x=>
       rcases r4 g x hx with h2 | ⟨_,⟨m,q,h2,_⟩|⟨m,h2,h3⟩⟩
       ·exact absurd hgive h2
       ·rw [hOg] at h2;simp at h2
       ·rw [hOg] at h2;simp at h2;exact absurd (h2 ▸ h3) hiv
     have hF3 : ¬ F3 g:=fun hf=>by rw [c.f3g _ hf hgive] at hOg;simp at hOg
     have hnv1:=r1.newVar (g:=g) (vs:=ws) hO2 hF3 (c.giveA hgive) (c.hr.oA _ _ (c.hr.oV _ _ hg)).2 w3 r3
     refine ⟨_,Go2,_,hnv1,?_,⟨_,rfl,.inl (by rw [e2];rfl),?_⟩,?_⟩
     ·refine ⟨fun b _=>Same.refl w' b,fun _ h=>h,r2.ol,by simp,r2.obj,fun i hi' cs' hcs'=>?_⟩
      have hne : ¬ i=s.vars.length:=by omega
      simp only [var_eq,List.getElem?_append,hi',if_true] at hcs' ⊢
      exact ⟨⟨cs',hcs'⟩,by simp [newGv,hne]⟩
     ·exact ⟨by simp,fun cs' _=>⟨g,by simp [newGv],e2⟩⟩
     ·intro b x hx
      rcases newOV_some hx with h2 | rfl
      ·exact (r4.mono (fun _ h=>h) (fun n hn=>by simp [hn])) b x h2
      ·exact .inr ⟨hgive,.inr ⟨id,hOg,by simp⟩⟩
    ·simp at hin
   ·simp at hout
  ·simp at hout
 ·simp at hout
theorem ARel.ext' {w:World} {F:Nat→Prop} {Go Go2:Nat→Gh} {Gv Gv2:Nat→Option Nat} {s s2:St} (h:Ext w w F F Go Go2 Gv Gv2 s s2) {v:Value} {x:Bool×List C} (hc:ARel w F Go Gv s v x):ARel w F Go2 Gv2 s2 v x:=ARel.ext h hc
theorem Ctx.takeAll (c:Ctx A pin pin0 w w' F F' F3 O O' Go Go' Gv Gv' st st' tm tm' hs vs K):∀ {rms:List RM} {ks:List Nat} {ars:List Arg} {us vs1:List Nat} {l:List (Bool×List C)} {OS:Nat→Option Ow} {GoS:Nat→Gh} {GvS:Nat→Option Nat} {s s3:St} {uo uv:List Nat},
  Rel A pin w' F3 OS GoS GvS s tm→Tr w O O' OS Go Gv hs vs uo uv→outRs st' rms ks=some (ars,us,vs1)→(uo++us).Nodup→(uv++vs1).Nodup→(∀ rm,rm ∈ rms→rm.kinds K)→inRs s rms ars=some (l,s3)→
  ∃ O3 Go3 Gv3,Rel A pin w' F3 O3 Go3 Gv3 s3 tm∧Ext w' w' F3 F3 GoS Go3 GvS Gv3 s s3∧l.length=ks.length∧∀ (k:Nat) (v:Value) (y:Bool×List C),(ks.map fun k=>tm'.getD k undef)[k]? = some v→l[k]? = some y→ARel w' F3 Go3 Gv3 s3 v y
 | [],[],ars,us,vs1,l,OS,GoS,GvS,s,s3,uo,uv,hm,ho,hout,hnu,hnv,hK,hin=>by
  simp [outRs] at hout
  obtain ⟨rfl,rfl,rfl⟩:=hout
  simp [inRs] at hin
  obtain ⟨rfl,rfl⟩:=hin
  exact ⟨OS,GoS,GvS,hm,Ext.refl _ _ _ _ _,rfl,by simp⟩
 | [],_::_,_,_,_,_,_,_,_,_,_,_,_,_,_,hout,_,_,_,_ | _::_,[],_,_,_,_,_,_,_,_,_,_,_,_,_,hout,_,_,_,_=>by simp [outRs] at hout
 | rm::rms,k::ks,ars,us,vs1,l,OS,GoS,GvS,s,s3,uo,uv,hm,ho,hout,hnu,hnv,hK,hin=>by
  simp only [outRs] at hout
  split at hout
  ·rename_i a us1 vs2 as1 us2 vs3 h1 h2
   simp at hout
   obtain ⟨rfl,rfl,rfl⟩:=hout
   simp only [inRs] at hin
   split at hin
   ·rename_i y s1 hin1
    split at hin
    ·rename_i l2 s2 hin2
     simp at hin
     obtain ⟨rfl,rfl⟩:=hin
     obtain ⟨x,hx,hx2⟩:=Option.bind_eq_some_iff.1 h1
     have hk:k < tm'.size:=by rw [c.hr.size];exact (List.getElem?_eq_some_iff.1 hx).1
     have hv:=c.hr.slots k tm'[k] x (by simp [hk]) hx
     have hgd:tm'.getD k undef=tm'[k]:=by simp [hk]
     have hnu1:(uo++us1).Nodup:=by
      rw [←List.append_assoc] at hnu
      exact (List.nodup_append.1 hnu).1
     have hnv1:(uv++vs2).Nodup:=by
      rw [←List.append_assoc] at hnv
      exact (List.nodup_append.1 hnv).1
     obtain ⟨O2,Go2,Gv2,r1,r2,r3,r4⟩:=c.takeRes hm ho hv hx2 hnu1 hnv1 (hK rm (by simp)) hin1
     obtain ⟨O3,Go3,Gv3,q1,q2,q3,q4⟩:=Ctx.takeAll c r1 r4 h2 (by simpa [List.append_assoc] using hnu) (by simpa [List.append_assoc] using hnv) (fun rm' h=>hK rm' (by simp [h])) hin2
     refine ⟨O3,Go3,Gv3,q1,r2.trans q2,by simp [q3],fun j v y' hv' hy'=>?_⟩
     cases j with
     | zero=>
      simp only [List.map_cons,List.getElem?_cons_zero,Option.some.injEq] at hv' hy'
      subst hv';subst hy'
      rw [hgd]
      exact r3.ext' q2
     | succ j=>exact q4 j v y' (by simpa using hv') (by simpa using hy')
    ·simp at hin
   ·simp at hin
  ·simp at hout
end
end Go.Proofs.V

namespace Go.Proofs.V
open Go
variable {P:Program} {g:GInv}
def initTm (args:Array Value) (n:Nat):Array Value:=args++Array.replicate (n - args.size) undef
def pinsOf:List PM→List Value→Nat→List (Nat×Value)
 | pm::pms,v::vs,k=>(if pm.isBack then [(k,v)] else [])++pinsOf pms vs (k+1)
 | _,_,_=>[]
def resV:List Value→Value
 | [v]=>v
 | vs=>.tuple vs.toArray
def callable (P:Program) (f:FuncId):Bool:=
 match P.funcs[f]? with
 | some fn => fn.body.isSome && fn.name != "runtime.NumGoroutine"
 | none=>false
def Ret (vf:VF) (Ac:Nat→Prop) (pin0:List (Nat×Value)) (w:World) (Fc:Nat→Prop) (res:FRes) (v:Value) (w' : World):Prop:=
 ∃ F' O' Go' Gv' st' tm',Rel Ac pin0 w' F' O' Go' Gv' st' tm'∧Step Ac w w'∧(∀ b,Fc b→F' b)∧(∀ b,F' b→Fc b∨Ac b)∧leave vf st' = some res∧v=resV (vf.res.map fun k=>tm'.getD k undef)
def Does (g:GInv) (P:Program) (f:FuncId) (vf:VF) (st0:St) (res:FRes):Prop:=
 ∀ (args:Array Value) (w:World) (Fc Ac:Nat→Prop) (O:Nat→Option Ow) (Go:Nat→Gh) (Gv:Nat→Option Nat),args.size=vf.pm.length→GA g Ac Fc w→Rel Ac (pinsOf vf.pm args.toList 0) w Fc O Go Gv st0 (initTm args vf.nslots)→
  Calls P f args w fun e w'=>∃ v,e=.returned v∧Ret vf Ac (pinsOf vf.pm args.toList 0) w Fc res v w'
def FSound (g:GInv) (P:Program) (tbl:FuncId→Option VF) (run:FuncId→List Arg→Option FRes):Prop:=
 ∀ f vf ars res,tbl f=some vf→run f ars=some res→callable P f=true∧∃ st0,enter vf ars=some st0∧Does g P f vf st0 res
theorem Calls.mono {f:FuncId} {args:Array Value} {w:World} {R R' : Ending→World→Prop} (h:Calls P f args w R) (hr:∀ e w',R e w'→R' e w'):Calls P f args w R':=
 fun cs=>let ⟨e,w',fr,r,s⟩:=h cs;⟨e,w',fr,hr _ _ r,s⟩
theorem pinsOf_mem:∀ {pms:List PM} {vs:List Value} {k j:Nat} {v:Value},(j,v) ∈ pinsOf pms vs k→∃ i,j=k+i∧vs[i]? = some v∧∃ pm,pms[i]? = some pm∧pm.isBack=true
 | pm::pms,u::vs,k,j,v,h=>by
  simp only [pinsOf,List.mem_append] at h
  rcases h with h | h
  ·cases hb:pm.isBack with
   | false=>simp [hb] at h
   | true=>
    simp [hb] at h
    obtain ⟨rfl,rfl⟩:=h
    exact ⟨0,rfl,rfl,pm,rfl,hb⟩
  ·obtain ⟨i,h1,h2,pm',h3,h4⟩:=pinsOf_mem h
   exact ⟨i+1,by omega,by simpa using h2,pm',by simpa using h3,h4⟩
 | [],_,_,_,_,h | _::_,[],_,_,_,h=>by simp [pinsOf] at h
theorem pinsOf_in:∀ {pms:List PM} {vs:List Value} {k i:Nat} {v:Value} {pm:PM},pms[i]? = some pm→vs[i]? = some v→pm.isBack=true→(k+i,v) ∈ pinsOf pms vs k
 | pm::pms,u::vs,k,0,v,pm',h1,h2,h3=>by
  simp at h1 h2
  subst h1;subst h2
  simp [pinsOf,h3]
 | pm::pms,u::vs,k,i+1,v,pm',h1,h2,h3=>by
  simp only [pinsOf,List.mem_append]
  right
  have:=pinsOf_in (k:=k+1) (by simpa using h1) (by simpa using h2) h3
  rwa [show k+1+i=k+(i+1) by omega] at this
 | [],_,_,_,_,_,h1,_,_=>by simp at h1
 | _::_,[],_,_,_,_,_,h2,_=>by simp at h2
section
variable {A Ac:Nat→Prop} {pin:List (Nat×Value)} {w w' : World} {F Fc:Nat→Prop} {O Op:Nat→Option Ow} {Go Gop:Nat→Gh} {Gv Gvp:Nat→Option Nat} {st st' stp:St} {tm tmp:Array Value}
variable {tbl:FuncId→Option VF} {run:FuncId→List Arg→Option FRes}
theorem Rel.repin (h:Rel A pin w F O Go Gv st tm) {pin2:List (Nat×Value)} (hp:∀ k v,(k,v) ∈ pin2→tm[k]? = some v):Rel A pin2 w F O Go Gv st tm:={ h with pinned:=hp }
theorem Rel.pad:∀ (n:Nat) {st:St} {tm:Array Value},Rel A [] w F O Go Gv st tm→Rel A [] w F O Go Gv { st with slots:=st.slots++List.replicate n undefS } (tm++Array.replicate n undef)
 | 0,st,tm,h=>by simpa using h
 | n+1,st,tm,h=>by
  have h1:=Rel.pad n (h.pushSlot (v:=undef) (s:=undefS) undefRel)
  have e1:(st.slots++[undefS])++List.replicate n undefS=st.slots++List.replicate (n+1) undefS:=by simp [List.replicate_succ]
  have e2:tm.push undef++Array.replicate n undef=tm++Array.replicate (n+1) undef:=by
   apply Array.ext'
   simp [List.replicate_succ]
  simp only [e1,e2] at h1
  exact h1
theorem getAll_rel (h:Rel A pin w F O Go Gv st tm) (ds:List Deferred):∀ {xs:List Opd} {ys:List Operand} {l:List SV},getAll st xs=some l→opdsAre xs ys=true→
  ys.length=l.length∧∀ (k:Nat) (y:Operand) (x:SV),ys[k]? = some y→l[k]? = some x→SRel w F Go Gv st ((Act.mk tm ds).eval y) x
 | [],[],l,hl,_=>by simp [getAll] at hl;subst hl;exact ⟨rfl,by simp⟩
 | [],_::_,_,_,ho | _::_,[],_,_,ho=>by simp [opdsAre] at ho
 | x::xs,y::ys,l,hl,ho=>by
  simp [opdsAre] at ho
  simp only [getAll] at hl
  split at hl
  ·rename_i a b e1 e2
   simp at hl
   subst hl
   obtain ⟨h1,h2⟩:=getAll_rel h ds e2 ho.2
   refine ⟨by simp [h1],fun k y' x' hy hx=>?_⟩
   cases k with
   | zero=>simp at hy hx;subst hy;subst hx;exact h.get ho.1 e1 ds
   | succ k=>exact h2 k y' x' (by simpa using hy) (by simpa using hx)
  ·simp at hl
theorem passAll_len:∀ {pms:List PM} {xs:List SV} {ps:Pass},passAll st pms xs=some ps→xs.length=pms.length
 | [],[],_,_=>rfl
 | [],_::_,_,h | _::_,[],_,h=>by simp [passAll] at h
 | pm::pms,x::xs,ps,h=>by
  simp only [passAll] at h
  split at h
  ·rename_i a b h1 h2
   simp [passAll_len h2]
  ·simp at h
theorem passAll_ids (h:Rel A pin w F O Go Gv st tm):∀ {pms:List PM} {xs:List SV} {ps:Pass} {vals:List Value},passAll st pms xs=some ps→vals.length=xs.length→(∀ (j:Nat) (v:Value) (x:SV),vals[j]? = some v→xs[j]? = some x→SRel w F Go Gv st v x)→
  ∀ id,id ∈ ps.hs.map (·.1)→id < st.objs.length
 | [],[],ps,vals,hp,_,_=>by simp [passAll] at hp;subst hp;simp
 | [],_::_,_,_,hp,_,_ | _::_,[],_,_,hp,_,_=>by simp [passAll] at hp
 | pm::pms,x::xs,ps,vals,hp,hvl,hvr=>by
  simp only [passAll] at hp
  split at hp
  ·rename_i pa pb ha hb
   simp at hp
   subst hp
   cases vals with
   | nil=>simp at hvl
   | cons v vals=>
    intro id hid
    simp only [List.map_append,List.mem_append] at hid
    rcases hid with hid | hid
    ·have hv:=hvr 0 v x rfl rfl
     unfold passOne at ha
     split at ha
     ·split at ha
      ·simp at ha;subst ha;simp at hid
      ·simp at ha
     ·rename_i ots agg cs
      split at ha
      ·rename_i ts us ht
       simp at ha
       subst ha
       rw [roots_fst] at hid
       obtain ⟨_,_,_,_,_,t6⟩:=h.toTs ht (slot_cells hv (toTs_ne ht))
       obtain ⟨o,ho⟩:=t6 id hid
       exact obj_lt ho
      ·simp at ha
     ·rename_i ots i
      split at ha
      ·rename_i cs hcs
       split at ha
       ·rename_i ts us ht
        simp at ha
        subst ha
        rw [roots_fst] at hid
        obtain ⟨g,hg,_⟩:=h.vars i cs hcs
        obtain ⟨ws,w1,w2,_⟩:=h.varVals hcs hg
        obtain ⟨_,_,_,_,_,t6⟩:=h.toTs ht w2
        obtain ⟨o,ho⟩:=t6 id hid
        exact obj_lt ho
       ·simp at ha
      ·simp at ha
     ·rename_i ot i p len
      split at ha
      ·rename_i o ho
       split at ha
       ·split at ha
        ·simp at ha
         subst ha
         simp at hid
         subst hid
         exact obj_lt ho
        ·simp at ha
       ·simp at ha
      ·simp at ha
     ·rename_i ots agg cs
      split at ha
      ·rename_i ts us bs ht hbk
       split at ha
       ·simp at ha
        subst ha
        rw [roots_fst] at hid
        obtain ⟨_,_,_,_,_,t6⟩:=h.toTs ht (slot_cells hv (toTs_ne ht))
        obtain ⟨o,ho⟩:=t6 id hid
        exact obj_lt ho
       ·simp at ha
      ·simp at ha
     ·simp at ha
    ·exact passAll_ids h hb (by simpa using hvl) (fun j v' x' h1 h2=>hvr (j+1) v' x' (by simpa using h1) (by simpa using h2)) id hid
  ·simp at hp
theorem hasRos_mem:∀ {p:List OT},OT.hasRos p=false→∀ q,q ∈ p→q.hasRo=false
 | [],_,q,hq=>by simp at hq
 | a::p,h,q,hq=>by
  simp [OT.hasRos] at h
  rcases List.mem_cons.1 hq with rfl | hq
  ·exact h.1
  ·exact hasRos_mem h.2 q hq
theorem GA.give {A:Nat→Prop} {pin:List (Nat×Value)} {w:World} {F:Nat→Prop} {O:Nat→Option Ow} {Go:Nat→Gh} {Gv:Nat→Option Nat} {st:St} {tm:Array Value} {hs:List (Nat×Pth)} {vs:List Nat} {Fc:Nat→Prop} (ga:GA g A F w) (h:Rel A pin w F O Go Gv st tm) (hf:∀ b,F b→Fc b):GA g (Give w Go Gv hs vs) Fc w:=
 ⟨fun b hb=>hb.elim (fun hb=>Nat.le_trans ga.2.1 hb) (fun hb=>let ⟨x,hx⟩:=hb.owned h;ga.1 b (h.oA b x hx).1),ga.2.1,ga.2.2.1,fun b hb=>hb.elim FrOk.big fun hb=>let ⟨x,hx⟩:=hb.owned h;ga.2.2.2.1 b (h.oA b x hx).1,fun b hb=>hf b (ga.2.2.2.2 b hb)⟩
theorem sound_vcall (hf:FSound g P tbl run) (ga:GA g A F w) (h:Rel A pin w F O Go Gv st tm) {d:Nat} (hd:∀ x,(d,x) ∉ pin) {f:FuncId} {xs:List SV} {vals:List Value} (hvl:vals.length=xs.length) (hvr:∀ (j:Nat) (v:Value) (x:SV),vals[j]? = some v→xs[j]? = some x→SRel w F Go Gv st v x)
  (hv:vcall tbl run st d f xs=some st'):callable P f=true∧Calls P f vals.toArray w fun e w'=>∃ v,e=.returned v∧Good A pin w F st' (tm.setIfInBounds d v) w':=by
 unfold vcall at hv
 split at hv
 ·simp at hv
 ·rename_i vf hvf
  split at hv
  ·simp at hv
  ·rename_i ps hps
   simp only at hv
   split at hv
   ·rename_i hcond
    simp only [Bool.and_eq_true] at hcond
    obtain ⟨⟨⟨hdu,hdv⟩,hap⟩,hro⟩:=hcond
    split at hv
    ·simp at hv
    ·rename_i r hrun
     obtain ⟨hcall,st0,hent,hdoes⟩:=hf f vf _ r hvf hrun
     refine ⟨hcall,?_⟩
     have hndo:=distinct_nodup hdu
     have hndv:=distinct_nodup hdv
     have hnotin:∀ id,id ∈ ps.ls→id ∉ ps.hs.map (·.1):=by
      intro id hid hin
      simp only [apart,List.all_eq_true] at hap
      have:=hap id hid
      simp only [Bool.not_eq_true',List.contains_eq_mem,decide_eq_false_iff_not] at this
      exact this hin
     have hlen:=passAll_len hps
     have hFcO:∀ b,Hand Go Gv ps.hs ps.vs b→¬ (F b∨∃ id,id ∈ ps.ls∧∃ r bk,Go id r=some bk∧bk.g=b):=by
      rintro b hb (hF | ⟨id,hid,r,bk,e1,e2⟩)
      ·obtain ⟨x,hx⟩:=hb.owned h
       rw [h.oF b hF] at hx
       simp at hx
      ·have hO:=h.oO _ _ _ e1
       rw [e2] at hO
       rcases hb with ⟨x,hx,r',bk',e3,e4⟩|⟨i,hi,e3⟩
       ·have:=h.oO _ _ _ e3
        rw [e4,hO] at this
        simp at this
        exact hnotin id hid (List.mem_map.2 ⟨x,hx,this.1.symm⟩)
       ·have:=h.oV _ _ e3
        rw [hO] at this
        simp at this
     generalize hFc:(fun b=>F b∨∃ id,id ∈ ps.ls∧∃ r bk,Go id r=some bk∧bk.g=b)=Fc at *
     have hFcb:∀ b,Fc b↔(F b∨∃ id,id ∈ ps.ls∧∃ r bk,Go id r=some bk∧bk.g=b):=fun b=>by rw [←hFc]
     have hFsub:∀ b,F b→Fc b:=fun b hb=>(hFcb b).2 (.inl hb)
     unfold enter at hent
     split at hent
     ·rename_i ste hste
      split at hent
      ·rename_i hslots
       simp at hent
       have hinit:Rel (Give w Go Gv ps.hs ps.vs) [] w Fc (fun _=>none) (fun _ _=>none) (fun _=>none) ⟨[],[],[]⟩ #[]:=by
        refine ⟨rfl,by simp,?_,by simp,?_,by simp,by simp,by simp,by simp,by simp,?_,fun b hb=>.inl hb,by simp⟩
        ·intro id o ho;simp [obj_eq] at ho
        ·intro id cs hcs;simp [var_eq] at hcs
        ·intro b hb
         rcases (hFcb b).1 hb with hb | ⟨id,_,r,bk,e1,e2⟩
         ·exact h.fS b hb
         ·exact e2 ▸ (h.oA _ _ (h.oO _ _ _ e1)).2
       obtain ⟨O0,Go0,Gv0,hrel0⟩:=enter_rel h hFsub [] [] hinit hps hvl hvr (by simpa using hndo) (by simpa using hndv)
        (fun id hid r b hb=>(hFcb _).2 (.inr ⟨id,hid,r,b,hb,rfl⟩)) (fun b hb=>⟨fun hc=>hFcO b hb ((hFcb b).1 hc),.inr hb⟩) (fun b x hx=>by simp at hx) hste
       have hsz:(#[]++vals.toArray:Array Value).size=ste.slots.length:=hrel0.size
       have hvs:vals.toArray.size=ste.slots.length:=by simpa using hsz
       have hpad:=hrel0.pad (vf.nslots - ste.slots.length)
       have hargs:(#[]++vals.toArray)++Array.replicate (vf.nslots - ste.slots.length) undef=initTm vals.toArray vf.nslots:=by
        unfold initTm
        rw [hvs]
        simp
       rw [hargs,hent] at hpad
       have hpin0:Rel (Give w Go Gv ps.hs ps.vs) (pinsOf vf.pm vals.toArray.toList 0) w Fc O0 Go0 Gv0 st0 (initTm vals.toArray vf.nslots):=by
        refine hpad.repin (fun k v hk=>?_)
        obtain ⟨i,e1,e2,_⟩:=pinsOf_mem hk
        have hk' : k=i:=by omega
        subst hk'
        have hkl:k < vals.length:=(List.getElem?_eq_some_iff.1 (by simpa using e2)).1
        unfold initTm
        rw [Array.getElem?_append]
        have:k < vals.toArray.size:=by simpa using hkl
        simp only [this,if_true]
        simpa using e2
       refine (hdoes vals.toArray w Fc (Give w Go Gv ps.hs ps.vs) O0 Go0 Gv0 (by simp [hvl,hlen]) (ga.give h fun b hb=>(hFcb b).2 (.inl hb)) hpin0).mono ?_
       rintro e w' ⟨v,rfl,F',O',Go',Gv',stf,tm',hr',hs',hFF,hFF',hleave,hvres⟩
       refine ⟨v,rfl,?_⟩
       unfold leave at hleave
       split at hleave
       ·rename_i rs us1 vs1 ms us2 vs2 hout1 hout2
        split at hleave
        ·rename_i hdist
         simp only [Bool.and_eq_true] at hdist
         simp at hleave
         subst hleave
         have hnu:=distinct_nodup hdist.1
         have hnv:=distinct_nodup hdist.2
         have hgoal:∀ (F3:Nat→Prop) (K:OT→Prop),Ctx A pin (pinsOf vf.pm vals.toArray.toList 0) w w' F F' F3 O O' Go Go' Gv Gv' st stf tm tm' ps.hs ps.vs K→(∀ pm,pm ∈ vf.pm→pm.kinds K)→(∀ rm,rm ∈ vf.rm→rm.kinds K)→(∀ b,F3 b→F b∨A b)→
           Good A pin w F st' (tm.setIfInBounds d v) w':=by
          intro F3 K c hK1 hK2 hF3A
          obtain ⟨OS,GoS,GvS,hi0⟩:=c.start
          split at hv
          ·simp at hv
          ·rename_i st2 hback
           obtain ⟨OS2,GoS2,GvS2,D2,Rst2,RstV2,hi2⟩:=back_all c (k:=0) hps hout2 hvl hvr
            (fun j pm v' h1 h2 h3=>by
             have:=hr'.pinned (0+j) v' (pinsOf_in h1 (by simpa using h2) h3)
             exact this)
            (fun x hx=>hx) (fun x hx=>hx) (by simpa using hndo) (by simpa using hndv) (by simpa using (List.nodup_append.1 hnu).2.1) (by simpa using (List.nodup_append.1 hnv).2.1) hK1 hi0 hback
           have hrel2:=hi2.rel c
           have htr:Tr w O O' OS2 Go Gv ps.hs ps.vs us2 vs2:=by
            intro b x hx
            rcases hi2.own b x hx with ⟨h1,_⟩ | h1
            ·exact .inl h1
            ·exact .inr (by simpa using h1)
           have hnu' : (us2++us1).Nodup:=(List.perm_append_comm.nodup_iff).1 hnu
           have hnv' : (vs2++vs1).Nodup:=(List.perm_append_comm.nodup_iff).1 hnv
           have hstep:Step A w w':=⟨hs'.size,fun b hb ha=>hs'.heap b hb (fun hg=>ha (c.giveA hg)),hs'.tape,hs'.os,hs'.output,hs'.fr⟩
           split at hv
           ·rename_i agg cs st3 hin
            simp at hv
            subst hv
            obtain ⟨O3,Go3,Gv3,q1,q2,q3,q4⟩:=c.takeAll hrel2 htr hout1 hnu' hnv' hK2 hin
            have hl1:vf.res.length=1:=by simpa using q3.symm
            match hres:vf.res,hl1 with
            | [k0],_=>
             rw [hres] at hvres q4
             simp only [List.map_cons,List.map_nil,resV] at hvres
             have:=q4 0 v (agg,cs) (by simp [hvres]) rfl
             exact ⟨F3,O3,Go3,Gv3,q1.put (s:=.v agg cs) this hd,hstep,c.hF,hF3A⟩
           ·rename_i l st3 hne hin
            simp at hv
            subst hv
            obtain ⟨O3,Go3,Gv3,q1,q2,q3,q4⟩:=c.takeAll hrel2 htr hout1 hnu' hnv' hK2 hin
            have hvt:v=.tuple (vf.res.map fun k=>tm'.getD k undef).toArray:=by
             rw [hvres]
             unfold resV
             split
             ·rename_i u he
              have hl1:vf.res.length=1:=by
               have:=congrArg List.length he
               simpa using this
              rw [hl1] at q3
              match l,q3 with
              | [(agg,cs)],_=>exact (hne _ _ rfl).elim
             ·rfl
            refine ⟨F3,O3,Go3,Gv3,q1.put (s:=.tup l) ⟨_,hvt,by simp [q3],fun k u x hu hx=>q4 k u x (by simpa using hu) hx⟩ hd,hstep,c.hF,hF3A⟩
           ·simp at hv
         have hnotF:∀ b,F b→¬ Give w Go Gv ps.hs ps.vs b:=by
          rintro b hb (h1 | h1)
          ·have:=h.fS b hb;omega
          ·obtain ⟨x,hx⟩:=h1.owned h
           rw [h.oF b hb] at hx
           simp at hx
         have hgiveA:∀ b,Give w Go Gv ps.hs ps.vs b→A b:=by
          rintro b (hb | hb)
          ·exact h.aN b hb
          ·obtain ⟨x,hx⟩:=hb.owned h
           exact (h.oA b x hx).1
         have hids:=passAll_ids h hps hvl hvr
         simp only [Bool.or_eq_true] at hro
         rcases hro with hls | hnr
         ·have hls' : ps.ls=[]:=by simpa using hls
          have hFcF:∀ b,Fc b→F b:=by
           intro b hb
           rcases (hFcb b).1 hb with hb | ⟨id,hid,_⟩
           ·exact hb
           ·rw [hls'] at hid;simp at hid
          refine hgoal F' (fun _=>True) ⟨h,hr',hs',hndo,hndv,hids,fun b hb=>hFF b (hFsub b hb),hr'.fS,fun b hb hn=>?_,fun b hb _=>hr'.oF b hb,fun _ h=>h⟩ ?_ ?_ ?_
          ·rcases hFF' b hb with h1 | h1
           ·exact h.oF b (hFcF b h1)
           ·exact absurd h1 hn
          ·intro pm _
           cases pm <;> simp [PM.kinds]
          ·intro rm _
           cases rm <;> simp [RM.kinds]
          ·intro b hb
           rcases hFF' b hb with h1 | h1
           ·exact .inl (hFcF b h1)
           ·exact .inr (hgiveA b h1)
         ·simp only [Bool.not_eq_true',Bool.or_eq_false_iff] at hnr
          refine hgoal F (fun q=>q.hasRo=false) ⟨h,hr',hs',hndo,hndv,hids,fun b hb=>hb,fun b hb=>Nat.lt_of_lt_of_le (h.fS b hb) hs'.size,fun b hb _=>h.oF b hb,fun b hb hg=>absurd hg (hnotF b hb),fun hq ho=>ho.noRo hq⟩ ?_ ?_ (fun b hb=>.inl hb)
          ·intro pm hpm
           have:=hnr.1
           simp only [List.any_eq_false] at this
           have:=this pm hpm
           cases pm with
           | mb ots=>intro o ho;exact hasRos_mem (by simpa [PM.hasRo] using this) o ho
           | ms ot=>simpa [PM.kinds,PM.hasRo,OT.hasRo] using this
           | mg ots=>intro o ho;exact hasRos_mem (by simpa [PM.hasRo] using this) o ho
           | _=>trivial
          ·intro rm hrm
           have:=hnr.2
           simp only [List.any_eq_false] at this
           have:=this rm hrm
           cases rm with
           | v ots=>intro o ho;exact hasRos_mem (by simpa [RM.hasRo] using this) o ho
           | p ots=>intro o ho;exact hasRos_mem (by simpa [RM.hasRo] using this) o ho
        ·simp at hleave
       ·simp at hleave
      ·simp at hent
     ·simp at hent
   ·simp at hv
theorem run_callFunc {f:FuncId} (h:callable P f=true) (args:Array Value) (w:World):(callFunc f args).run P w=.ok (.enter f args) w:=by
 unfold callable at h
 split at h
 ·rename_i fn hfn
  simp only [Bool.and_eq_true,bne_iff_ne,ne_eq] at h
  unfold callFunc
  have h1 : ¬ (fn.name == "runtime.NumGoroutine") = true := by simpa using h.2
  have h2:fn.body.isNone=false:=by
   cases hb:fn.body <;> simp_all
  simp only [Sem.run_bind,run_program,Result.andThen_ok,hfn,h1,if_false,h2,Bool.false_eq_true]
  rfl
 ·simp at h
def TabOk (g:GInv) (tbl:FuncId→Option VF):Prop:=
 ∀ r vf,tbl (gBase+r)=some vf→r < g.gl∧∀ w,g.I w→∀ k v,vf.tab[k]? = some v→w.cell? ⟨r,k,none⟩=some v∧isLit v=true
theorem callOk (ht:TabOk g tbl) (hf:FSound g P tbl run):CallOk g P tbl run:=by
 intro A pin w F O Go Gv st st' tm ds v o ga h hop hv hcall hd hdst next Q hn
 cases v with
 | gix d r len i n=>
  simp only [opIs] at hop
  split at hop
  ·rename_i t x i' heq
   simp only [Bool.and_eq_true] at hop
   obtain ⟨⟨h1,h2⟩,h3⟩:=hop
   split at h1
   ·rename_i g0
    simp at h1
    subst h1
    obtain ⟨u,hu1,hu2⟩:=underIs_some h3
    split at hu2
    ·rename_i l e
     simp only [Bool.and_eq_true,beq_iff_eq] at hu2
     obtain ⟨rfl,hn2⟩:=hu2
     simp only [vop] at hv
     split at hv
     ·rename_i vf k hvf hnum
      split at hv
      ·rename_i hk
       simp only [Option.some.injEq] at hv
       subst hv
       obtain ⟨kd,hkd⟩:=h.num ds h2 hnum
       obtain ⟨hlt,htab⟩:=ht _ _ hvf
       have hrun:=run_gix (P:=P) (w:=w) hu1 hn2 g0 kd ⟨hk.1,hk.2.1⟩
       unfold Oper.wp
       have hr2:(execOp (Act.mk tm ds).eval o).run P w=.ok (.value (.pointer (some ⟨g0,k.toNat*n,none⟩))) w:=by
        simp only [execOp,heq]
        rw [hkd]
        exact run_next hrun
       rw [hr2,Oper.upon_value,hdst]
       refine hn _ _ (Good.set h ⟨_,rfl,.inl rfl,g0,k.toNat*n,rfl,ga.2.2.2.2 _ hlt,?_,?_⟩ hd)
       ·have h5:(k.toNat+1)*n≤l*n:=Nat.mul_le_mul_right n (by omega)
        rw [Nat.add_mul] at h5
        rw [List.length_map,List.length_take,List.length_drop,List.length_replicate]
        omega
       ·intro j x q hj hq
        simp only [List.getElem?_map,Option.map_eq_some_iff] at hj
        obtain ⟨y,hy,rfl⟩:=hj
        rw [List.getElem?_take] at hy
        split at hy
        ·rw [List.getElem?_drop] at hy
         obtain ⟨c1,c2⟩:=htab w ga.2.2.1 _ _ hy
         have hq2:q=.sc:=(List.mem_replicate.1 (List.mem_of_getElem? hq)).2
         subst hq2
         exact ⟨y,c1,.sc c2⟩
        ·simp at hy
      ·simp at hv
     ·simp at hv
    ·simp at hu2
   ·simp at h1
  ·simp at hop
 | call d f xs=>
  simp only [opIs] at hop
  split at hop
  ·rename_i f' args ts heq
   simp only [Bool.and_eq_true,beq_iff_eq] at hop
   obtain ⟨rfl,hargs⟩:=hop
   simp only [vop,Option.bind_eq_some_iff] at hv
   obtain ⟨l,hl,hv⟩:=hv
   obtain ⟨h1,h2⟩:=getAll_rel h ds hl hargs
   obtain ⟨hc,hcalls⟩:=sound_vcall hf ga h (d:=d) hd (vals:=args.toList.map (Act.mk tm ds).eval) (by simpa using h1) (fun j v x hj hx=>by
    simp only [List.getElem?_map,Option.map_eq_some_iff] at hj
    obtain ⟨y,hy,rfl⟩:=hj
    exact h2 j y x hy hx) hv
   have hrun:(execOp (Act.mk tm ds).eval o).run P w=.ok (.enter f (args.toList.map (Act.mk tm ds).eval).toArray) w:=by
    have e:(args.toList.map (Act.mk tm ds).eval).toArray=args.map (Act.mk tm ds).eval:=by apply Array.ext';simp
    rw [e]
    have:=run_callFunc hc (args.map (Act.mk tm ds).eval) w
    simp only [execOp,heq,resolve,Act.eval,Deferred.ofValue,Sem.run_bind,Sem.run_pure,Result.andThen_ok,invoke]
    simpa using this
   unfold Oper.wp
   rw [hrun,Oper.upon_enter]
   refine hcalls.mono ?_
   rintro e w' ⟨v,rfl,hg⟩
   simp only [hdst]
   exact hn _ _ hg
  ·simp at hop
 | callc d x xs=>
  simp only [opIs] at hop
  split at hop
  ·rename_i x' args ts heq
   simp only [Bool.and_eq_true] at hop
   obtain ⟨hx,hargs⟩:=hop
   simp only [vop] at hv
   split at hv
   ·rename_i f caps l hcx hl
    split at hv
    ·rename_i hcaps
     obtain ⟨h1,h2⟩:=getAll_rel h ds hl hargs
     obtain ⟨ws,e1,e2,e3⟩:=(h.cell hx hcx ds).1
     obtain ⟨hc,hcalls⟩:=sound_vcall hf ga h (d:=d) hd (vals:=args.toList.map (Act.mk tm ds).eval++ws.toList) (by simp [h1,e2]) (fun j v x hj hx'=>by
     rw [List.getElem?_append] at hj hx'
     simp only [List.length_map,h1] at hj
     split at hj
     ·rename_i hlt
      simp only [hlt,if_true] at hx'
      simp only [List.getElem?_map,Option.map_eq_some_iff] at hj
      obtain ⟨y,hy,rfl⟩:=hj
      exact h2 j y x hy hx'
     ·rename_i hlt
      simp only [hlt,if_false] at hx'
      simp only [List.getElem?_map,Option.map_eq_some_iff] at hx'
      obtain ⟨id,hid,rfl⟩:=hx'
      have hvr:=e3 _ v id (by simpa using hj) hid
      have hal:(st.var id).isSome=true:=by
       simp only [List.all_eq_true] at hcaps
       exact hcaps id (List.mem_of_getElem? hid)
      obtain ⟨cs,hcs⟩:=Option.isSome_iff_exists.1 hal
      obtain ⟨g,_,e4⟩:=hvr.2 cs hcs
      exact ⟨_,rfl,.inl (by rw [e4];rfl),hvr⟩) hv
     have hrun:(execOp (Act.mk tm ds).eval o).run P w=.ok (.enter f (args.toList.map (Act.mk tm ds).eval++ws.toList).toArray) w:=by
      have e:(args.toList.map (Act.mk tm ds).eval++ws.toList).toArray=args.map (Act.mk tm ds).eval++ws:=by apply Array.ext';simp
      rw [e]
      have:=run_callFunc hc (args.map (Act.mk tm ds).eval++ws) w
      simp only [execOp,heq,resolve,e1,Deferred.ofValue,Sem.run_bind,Sem.run_pure,Result.andThen_ok,invoke]
      simpa using this
     unfold Oper.wp
     rw [hrun,Oper.upon_enter]
     refine hcalls.mono ?_
     rintro e w' ⟨v,rfl,hg⟩
     simp only [hdst]
     exact hn _ _ hg
    ·simp at hv
   ·simp at hv
  ·simp at hop
 | _=>simp [VOp.isCall] at hcall
end
end Go.Proofs.V

namespace Go.Proofs.V
open Go
variable {P:Program}
def resAre (P:Program) (pins:List Nat):List Nat→List (Option (Nat×Bool))→List ResultVar→Bool
 | [],_,[]=>true
 | k::ks,[],.tmp t::rs=>k==t&&resAre P pins ks [] rs
 | k::ks,none::rc,.tmp t::rs=>k==t&&resAre P pins ks rc rs
 | k::ks,some (n,agg)::rc,.cell a t::rs=>k==a && !pins.contains k&&sizeIs P t n&&underIs P t (fun d=>isAggD d==agg)&&resAre P pins ks rc rs
 | _,_,_=>false
def pinIdx:List PM→Nat→List Nat
 | [],_=>[]
 | pm::pms,k=>(if pm.isBack then [k] else [])++pinIdx pms (k+1)
def funcIs (P:Program) (tbl:FuncId→Option VF) (f:FuncId) (vf:VF):Bool:=
 match P.funcs[f]? with
 | some fn=>
  match fn.body with
  | some c => fn.name != "runtime.NumGoroutine" && fn.ntmps == vf.nslots && distinct vf.res && resAre P (pinIdx vf.pm 0) vf.res vf.rc fn.results.toList && chk P tbl (pinIdx vf.pm 0) vf.code c
  | none=>false
 | none=>false
theorem pinIdx_of:∀ {pms:List PM} {vs:List Value} {k j:Nat} {v:Value},(j,v) ∈ pinsOf pms vs k→j ∈ pinIdx pms k
 | pm::pms,u::vs,k,j,v,h=>by
  simp only [pinsOf,List.mem_append] at h
  simp only [pinIdx,List.mem_append]
  rcases h with h | h
  ·left
   cases hb:pm.isBack with
   | false=>simp [hb] at h
   | true=>simp [hb] at h;simp [h.1]
  ·exact .inr (pinIdx_of h)
 | [],_,_,_,_,h | _::_,[],_,_,_,h=>by simp [pinsOf] at h
theorem loadAt_asAddr {t:TypeId} {x v:Value} {w w' : World} (h:(Instr.loadAt t x).run P w=.ok v w'):(do loadVar t (←asAddr x):Sem Value).run P w=.ok v w':=by
 unfold Instr.loadAt at h
 cases x with
 | pointer a=>
  cases a with
  | some a=>
   simp only [Sem.run_bind,asAddr,Instr.sureAddr,Sem.run_pure,Result.andThen_ok] at h ⊢
   exact h
  | none=>cases h
 | _=>cases h
section
variable {A:Nat→Prop} {pin:List (Nat×Value)} {w:World} {F:Nat→Prop} {O:Nat→Option Ow} {Go:Nat→Gh} {Gv:Nat→Option Nat}
theorem results_list (pins:List Nat) (hpins:pinsOk pins pin) (tm0:Array Value):∀ (ks:List Nat) (rc:List (Option (Nat×Bool))) (rs:List ResultVar) {st st2:St} {tm:Array Value},resAre P pins ks rc rs=true→ks.Nodup→Rel A pin w F O Go Gv st tm→
  (∀ k,k ∈ ks→tm[k]? = tm0[k]?)→resLoad ks rc st=some st2→
  ∃ tm2,Rel A pin w F O Go Gv st2 tm2∧(∀ k,k ∉ ks→tm2[k]? = tm[k]?)∧∀ g:ResultVar→Sem Value,(∀ t,g (.tmp t)=pure (tm0.getD t undef))→(∀ a t,g (.cell a t)=do loadVar t (←asAddr (tm0.getD a undef)))→(rs.mapM g).run P w=.ok (ks.map fun k=>tm2.getD k undef) w
 | [],rc,rs,st,st2,tm,h,hnd,hr,htm,hl=>by
  have e:st2=st:=by cases rc <;> simp [resLoad] at hl <;> exact hl.symm
  subst e
  cases rs with
  | nil=>exact ⟨tm,hr,fun _ _=>rfl,fun g _ _=>by simp [Sem.run_pure]⟩
  | cons r rs=>cases rc <;> simp [resAre] at h
 | k::ks,rc,[],st,st2,tm,h,hnd,hr,htm,hl=>by
  cases rc with
  | nil=>simp [resAre] at h
  | cons o rc=>cases o <;> simp [resAre] at h
 | k::ks,rc,.tmp t::rs,st,st2,tm,h,hnd,hr,htm,hl=>by
  have hk:∃ rc',k=t∧resAre P pins ks rc' rs=true∧resLoad ks rc' st=some st2:=by
   cases rc with
   | nil=>
    simp only [resAre,Bool.and_eq_true,beq_iff_eq] at h
    refine ⟨[],h.1,h.2,?_⟩
    simp [resLoad] at hl
    cases ks <;> simp [resLoad,hl]
   | cons o rc=>
    cases o with
    | none=>
     simp only [resAre,Bool.and_eq_true,beq_iff_eq] at h
     exact ⟨rc,h.1,h.2,by simpa [resLoad] using hl⟩
    | some x=>simp [resAre] at h
  obtain ⟨rc',rfl,h1,h2⟩:=hk
  have hnd':=List.nodup_cons.1 hnd
  obtain ⟨tm2,hr2,hs2,hg2⟩:=results_list pins hpins tm0 ks rc' rs h1 hnd'.2 hr (fun j hj=>htm j (by simp [hj])) h2
  refine ⟨tm2,hr2,fun j hj=>hs2 j (fun h=>hj (by simp [h])),fun g hg hg'=>?_⟩
  have:tm2[k]? = tm0[k]?:=(hs2 k hnd'.1).trans (htm k (by simp))
  have e:tm2.getD k undef=tm0.getD k undef:=by simp only [Array.getD_eq_getD_getElem?,this]
  rw [List.mapM_cons,Sem.run_bind,hg,Sem.run_pure,Result.andThen_ok,Sem.run_bind,hg2 g hg hg',Result.andThen_ok,Sem.run_pure,List.map_cons,e]
 | k::ks,rc,.cell a t::rs,st,st2,tm,h,hnd,hr,htm,hl=>by
  cases rc with
  | nil=>simp [resAre] at h
  | cons o rc=>
   cases o with
   | none=>simp [resAre] at h
   | some x=>
    obtain ⟨n,agg⟩:=x
    simp only [resAre,Bool.and_eq_true,beq_iff_eq,Bool.not_eq_true'] at h
    obtain ⟨⟨⟨⟨rfl,hp⟩,hn⟩,hag⟩,hrest⟩:=h
    simp only [resLoad] at hl
    split at hl
    ·rename_i st1 h1
     split at h1
     ·rename_i h4
      simp only [Bool.or_eq_true,decide_eq_true_eq] at h4
      have hd:∀ x,(k,x) ∉ pin:=fun x hx=>by
       have:=hpins _ _ hx
       simp at hp
       exact hp this
      obtain ⟨v,hv,hr1⟩:=sound_load (P:=P) hr (x:=.s k) (y:=.tmp k) (by simp [opdIs]) h1 hn hag h4 hd []
      have hnd':=List.nodup_cons.1 hnd
      have hks:k < tm.size:=by
       rcases Nat.lt_or_ge k tm.size with h5 | h5
       ·exact h5
       ·exfalso
        have:st.slots[k]? = none:=by rw [List.getElem?_eq_none];rw [←hr.size];exact h5
        unfold vload at h1
        simp [St.cell,St.get,this] at h1
      obtain ⟨tm2,hr2,hs2,hg2⟩:=results_list pins hpins tm0 ks rc rs hrest hnd'.2 hr1 (fun j hj=>by
       have:k≠j:=fun e=>hnd'.1 (e ▸ hj)
       rw [Array.getElem?_setIfInBounds_ne this]
       exact htm j (by simp [hj])) hl
      refine ⟨tm2,hr2,fun j hj=>?_,fun g hg hg'=>?_⟩
      ·have h1:j ∉ ks:=fun h=>hj (by simp [h])
       have h2:k≠j:=fun e=>hj (by simp [e])
       rw [hs2 j h1,Array.getElem?_setIfInBounds_ne h2]
      ·have e2:tm2.getD k undef=v:=by
        simp only [Array.getD_eq_getD_getElem?,hs2 k hnd'.1]
        simp [Array.getElem?_setIfInBounds,hks]
       have e3:tm0.getD k undef=tm.getD k undef:=by simp only [Array.getD_eq_getD_getElem?,htm k (by simp)]
       have hv' : (do loadVar t (←asAddr (tm0.getD k undef)):Sem Value).run P w=.ok v w:=by
        rw [e3]
        exact loadAt_asAddr hv
       rw [List.mapM_cons,Sem.run_bind,hg',hv',Result.andThen_ok,Sem.run_bind,hg2 g hg hg',Result.andThen_ok,Sem.run_pure,List.map_cons,e2]
     ·simp at h1
    ·simp at hl
end
theorem run_results {A:Nat→Prop} {pin:List (Nat×Value)} {w:World} {F:Nat→Prop} {O:Nat→Option Ow} {Go:Nat→Gh} {Gv:Nat→Option Nat} {st st2:St} {tm:Array Value} {pins:List Nat} (hpins:pinsOk pins pin) {fn:Func} {ks:List Nat} {rc:List (Option (Nat×Bool))}
  (h:resAre P pins ks rc fn.results.toList=true) (hd:distinct ks=true) (hr:Rel A pin w F O Go Gv st tm) (hl:resLoad ks rc st=some st2) :
  ∃ tm2,Rel A pin w F O Go Gv st2 tm2∧(results fn tm).run P w=.ok (resV (ks.map fun k=>tm2.getD k undef)) w:=by
 obtain ⟨tm2,hr2,_,hg⟩:=results_list pins hpins tm ks rc _ h (distinct_nodup hd) hr (fun _ _=>rfl) hl
 refine ⟨tm2,hr2,?_⟩
 unfold results
 rw [Array.mapM_eq_mapM_toList]
 simp only [Sem.run_bind,map_eq_pure_bind]
 rw [hg _ (fun t=>rfl) (fun a t=>rfl)]
 simp only [Result.andThen_ok,Sem.run_pure]
 congr 1
 match ks with
 | [k]=>rfl
 | []=>rfl
 | a::b::l=>simp [resV]
variable {tbl:FuncId→Option VF} {ext:FuncId→List Arg→Option FRes}
theorem vrun_sound {g:GInv} (htab:TabOk g tbl) (hext:∀ f vf ars res st0,tbl f=some vf→vf.given=true→enter vf ars=some st0→ext f ars=some res→callable P f=true∧Does g P f vf st0 res)
  (htbl:∀ f vf,tbl f=some vf→vf.given=false→funcIs P tbl f vf=true):∀ n,FSound g P tbl (vrun ext tbl n)
 | 0=>by intro f vf ars res _ h;simp [vrun] at h
 | n+1=>by
  intro f vf ars res hvf h
  simp only [vrun,hvf] at h
  split at h
  ·simp at h
  ·rename_i st0 hst0
   by_cases hg:vf.given=true
   ·simp only [hg,if_true] at h
    obtain ⟨h1,h2⟩:=hext f vf ars res st0 hvf hg hst0 h
    exact ⟨h1,st0,hst0,h2⟩
   ·have hg' : vf.given=false:=by simpa using hg
    simp only [hg',Bool.false_eq_true,if_false] at h
    have hfi:=htbl f vf hvf hg'
    unfold funcIs at hfi
    split at hfi
    ·rename_i fn hfn
     split at hfi
     ·rename_i c hc
      simp only [Bool.and_eq_true,bne_iff_ne,ne_eq,beq_iff_eq] at hfi
      obtain ⟨⟨⟨⟨hname,hnt⟩,hdist⟩,hres⟩,hchk⟩:=hfi
      refine ⟨?_,st0,hst0,?_⟩
      ·unfold callable
       simp [hfn,hc,hname]
      ·intro args w Fc Ac O Go Gv hargs ga hrel
       have hpins:pinsOk (pinIdx vf.pm 0) (pinsOf vf.pm args.toList 0):=fun k x hx=>pinIdx_of hx
       have hcall:CallOk g P tbl (vrun ext tbl n):=callOk htab (vrun_sound htab hext htbl n)
       refine calls_of_wp hfn hc ?_
       have hend:∀ x st1,vexec tbl (vrun ext tbl n) n vf.code st0=some (x,st1)→leave2 vf st1=some res→(exitOf x=.normal∨exitOf x=.ret)→
         c.wp P (bodyPost P fn fun e w'=>∃ v,e=.returned v∧Ret vf Ac (pinsOf vf.pm args.toList 0) w Fc res v w') ⟨args++Array.replicate (fn.ntmps - args.size) undef,[]⟩ w:=by
        intro x st1 hx hl he
        rw [hnt]
        refine sound_code hcall hpins [] n vf.code _ hchk ga hrel hx ?_
        rintro tm' w' ⟨F1,O1,Go1,Gv1,hr1,hs1,hf1,hf1'⟩
        obtain ⟨st2,hl1,hl2⟩:=Option.bind_eq_some_iff.1 hl
        obtain ⟨tm2,hr2,hrun⟩:=run_results hpins hres hdist hr1 hl1
        have hpost:([]:List Deferred)=[]∧∃ v,(results fn tm').run P w'=.ok v w'∧∃ v',Ending.returned v=.returned v'∧Ret vf Ac (pinsOf vf.pm args.toList 0) w Fc res v' w':=
         ⟨rfl,_,hrun,_,rfl,F1,O1,Go1,Gv1,st2,tm2,hr2,hs1,hf1,hf1',hl2,rfl⟩
        rcases he with he | he
        ·rw [he];exact hpost
        ·rw [he];exact hpost
       split at h
       ·rename_i st1 hx
        exact hend _ _ hx h (.inl rfl)
       ·rename_i st1 hx
        exact hend _ _ hx h (.inr rfl)
       ·simp at h
     ·simp at hfi
    ·simp at hfi
end Go.Proofs.V

namespace Go.Proofs.V
open Go
inductive Ty where
 | int (k:IntKind)
 | bool
 | str
 | sl (p:List Ty)
 deriving Inhabited
mutual
def Ty.ot:Ty→OT
 | .int _=>.sc
 | .bool=>.sc
 | .str=>.sc
 | .sl p=>.ro (Ty.ots p)
def Ty.ots:List Ty→List OT
 | []=>[]
 | a::x=>Ty.ot a::Ty.ots x
end
theorem Ty.ots_length:∀ p:List Ty,(Ty.ots p).length=p.length
 | []=>rfl
 | _::x=>by simp [Ty.ots,Ty.ots_length x]
theorem Ty.ots_get:∀ (p:List Ty) (j:Nat) (q:OT),(Ty.ots p)[j]? = some q→∃ y,p[j]? = some y∧q=y.ot
 | [],j,q,h=>by simp [Ty.ots] at h
 | a::x,0,q,h=>by simp [Ty.ots] at h;exact ⟨a,rfl,h.symm⟩
 | a::x,j+1,q,h=>by
  simp [Ty.ots] at h
  obtain ⟨y,h1,h2⟩:=Ty.ots_get x j q h
  exact ⟨y,by simpa using h1,h2⟩
inductive Wt:Ty→T→Prop
 | int {k:IntKind} {n:Int} (h:(Lit.int k n).wf=true):Wt (.int k) (.lit (.int k n))
 | bool {b:Bool} : Wt .bool (.lit (.bool b))
 | str {s:ByteArray} (h:s.size≤maxLen):Wt .str (.lit (.string s))
 | sl {p:List Ty} {es:List (List T)} (hl:es.length≤maxLen) (hr:∀ (i:Nat) (row:List T),es[i]? = some row→row.length=p.length)
   (hs:∀ (i j:Nat) (row:List T) (x:T) (q:Ty),es[i]? = some row→row[j]? = some x→p[j]? = some q→Wt q x):Wt (.sl p) (.sl es)
def tyIs (P:Program):Nat→TypeId→List Ty→Bool
 | 0,_,_=>false
 | n+1,t,p=>
  match P.underlying t with
  | some .bool=>(match p with | [.bool]=>P.cellsOf t==1 | _=>false)
  | some (.int k)=>(match p with | [.int k']=>k==k' && P.cellsOf t==1 | _=>false)
  | some .string=>(match p with | [.str]=>P.cellsOf t==1 | _=>false)
  | some (.slice e)=>(match p with | [.sl q]=>P.cellsOf t==1&&P.cellsOf e==q.length&&decide (0 < q.length)&&tyIs P n e q | _=>false)
  | some (.struct fs)=>
   P.cellsOf t==p.length &&
   (fs.toList.foldl (fun (x:Bool×Nat) f=>(x.1&&f.offset==x.2&&tyIs P n f.type ((p.drop x.2).take (P.cellsOf f.type))&&decide (x.2+P.cellsOf f.type≤p.length),x.2+P.cellsOf f.type)) (true,0))==(true,p.length)
  | some (.array m e)=>P.cellsOf t==p.length&&p.length==m*P.cellsOf e&&decide (0 < P.cellsOf e)&&(List.range m).all fun i=>tyIs P n e ((p.drop (i*P.cellsOf e)).take (P.cellsOf e))
  | _=>false
section
variable {P:Program} {H:Type} {enc:TypeId×Value→H} {w:World} {spare:Nat→Bool} {held:Bool}
def CellOk (w:World) (q:Ty) (v:Value) (x:T):Prop:=v.oneCell' = true∧Rd w (fun b=>b < w.heap.size) q.ot v x∧Wt q x
def CellsOk (w:World) (p:List Ty) (cs:List Value):Prop:=cs.length=p.length∧∀ (j:Nat) (q:Ty) (v:Value),p[j]? = some q→cs[j]? = some v→∃ x,CellOk w q v x
theorem fields_all (n:Nat) (p:List Ty):∀ (fs:List Field) (b:Bool) (off:Nat) (r:Bool×Nat),
  fs.foldl (fun (x:Bool×Nat) f=>(x.1&&f.offset==x.2&&tyIs P n f.type ((p.drop x.2).take (P.cellsOf f.type))&&decide (x.2+P.cellsOf f.type≤p.length),x.2+P.cellsOf f.type)) (b,off)=r→r.1=true→
  b=true∧off≤r.2∧∀ k,off≤k→k < r.2→∃ (i:Nat) (f:Field),fs[i]? = some f∧f.offset≤k∧k < f.offset+P.cellsOf f.type∧f.offset+P.cellsOf f.type≤p.length∧tyIs P n f.type ((p.drop f.offset).take (P.cellsOf f.type))=true
 | [],b,off,r,h,hr=>by
  simp at h
  subst h
  exact ⟨hr,Nat.le_refl _,fun k h1 h2=>by simp only at h2;omega⟩
 | f::fs,b,off,r,h,hr=>by
  simp only [List.foldl_cons] at h
  obtain ⟨h1,h2,h3⟩:=fields_all n p fs _ _ r h hr
  simp only [Bool.and_eq_true,beq_iff_eq,decide_eq_true_eq] at h1
  obtain ⟨⟨⟨h4,h5⟩,h6⟩,h7⟩:=h1
  refine ⟨h4,by omega,fun k hk1 hk2=>?_⟩
  by_cases hk:k < off+P.cellsOf f.type
  ·exact ⟨0,f,rfl,by omega,by omega,by omega,by rw [h5];exact h6⟩
  ·obtain ⟨i,f',a,c⟩:=h3 k (by omega) hk2
   exact ⟨i+1,f',by simpa using a,c⟩
theorem trod_cells:∀ (n:Nat) {t:TypeId} {p:List Ty} {fuel:Nat} {cs:List Value} {x:DataW H×List MemPlace},tyIs P n t p=true→DataW.trod enc P w 0 spare held fuel t cs=some x→CellsOk w p cs
 | 0,t,p,fuel,cs,x,ht,_=>by simp [tyIs] at ht
 | n+1,t,p,fuel,cs,x,ht,h=>by
  unfold tyIs at ht
  split at ht
  ·rename_i hu
   obtain ⟨b,rfl,_⟩:=DataW.trod_bool hu h
   split at ht
   ·refine ⟨rfl,fun j q v hq hv=>?_⟩
    cases j with
    | zero=>simp at hq hv;subst hq;subst hv;exact ⟨.lit (.bool b),rfl,.sc rfl,.bool⟩
    | succ j=>simp at hq
   ·simp at ht
  ·rename_i k hu
   obtain ⟨m,rfl,_,hwf⟩:=DataW.trod_int hu h
   split at ht
   ·simp only [Bool.and_eq_true,beq_iff_eq] at ht
    obtain ⟨rfl,_⟩:=ht
    refine ⟨rfl,fun j q v hq hv=>?_⟩
    cases j with
    | zero=>simp at hq hv;subst hq;subst hv;exact ⟨.lit (.int k m),rfl,.sc rfl,.int hwf⟩
    | succ j=>simp at hq
   ·simp at ht
  ·rename_i hu
   obtain ⟨s,rfl,_,hs⟩:=DataW.trod_string hu h
   split at ht
   ·refine ⟨rfl,fun j q v hq hv=>?_⟩
    cases j with
    | zero=>simp at hq hv;subst hq;subst hv;exact ⟨.lit (.string s),rfl,.sc rfl,.str hs⟩
    | succ j=>simp at hq
   ·simp at ht
  ·rename_i e hu
   split at ht
   ·rename_i q
    simp only [Bool.and_eq_true,beq_iff_eq,decide_eq_true_eq] at ht
    obtain ⟨⟨⟨_,hce⟩,hq0⟩,hte⟩:=ht
    have key:∃ x,CellOk w (.sl q) (cs.headD undef) x:=by
     rcases Deep.open_slice hu h with ⟨rfl,_⟩|⟨a,len,cap,m,n',D,Pl,rfl,_,hl,hm,hmm,_,hel⟩
     ·exact ⟨.sl [],rfl,.emp (by simp [maxLen]),.sl (by simp [maxLen]) (by simp) (by simp)⟩
     ·have hlm:len≤m:=by subst hmm;split <;> omega
      by_cases h0:len=0
      ·subst h0
       exact ⟨.sl [],rfl,.emp hm,.sl (by simp) (by simp) (by simp)⟩
      ·have hc:∀ i,i < len→∃ cs' : List Value,cs'.length=q.length∧(∀ j,j < q.length→w.cell? ((a.add (i*q.length)).add j)=cs'[j]?)∧CellsOk w q cs':=by
        intro i hi
        obtain ⟨cs',h1,h2⟩:=hel i (by omega)
        obtain ⟨_,h3,h4⟩:=World.cells?_some h1
        rw [hce] at h1 h3 h4
        exact ⟨cs',h3,h4,trod_cells n hte h2⟩
       obtain ⟨g,o,spot⟩:=a
       have hspot:spot=none:=by
        obtain ⟨cs',h1,h2,_⟩:=hc 0 (by omega)
        have:=h2 0 hq0
        have hlt:0 < cs'.length:=by omega
        rw [List.getElem?_eq_getElem hlt] at this
        simp only [Nat.zero_mul,Addr.add,if_true] at this
        unfold World.cell? at this
        split at this
        ·split at this
         ·simp at this
         ·rename_i hs
          simpa using hs
        ·simp at this
       subst hspot
       have hg:g < w.heap.size:=by
        obtain ⟨cs',h1,h2,_⟩:=hc 0 (by omega)
        have:=h2 0 hq0
        have hlt:0 < cs'.length:=by omega
        rw [List.getElem?_eq_getElem hlt] at this
        simp only [Nat.zero_mul,Addr.add,if_true] at this
        unfold World.cell? at this
        rcases Nat.lt_or_ge g w.heap.size with h5 | h5
        ·exact h5
        ·simp [Array.getElem?_eq_none h5] at this
       obtain ⟨css,hcl,hcs⟩:=list_of (Q:=fun i (cs' : List Value)=>cs'.length=q.length∧(∀ j,j < q.length→w.cell? ⟨g,o+i*q.length+j,none⟩=cs'[j]?)∧CellsOk w q cs') len (fun i hi=>by
        obtain ⟨cs',h1,h2,h3⟩:=hc i hi
        exact ⟨cs',h1,fun j hj=>by rw [←h2 j hj,addr_add,addr_add],h3⟩)
       obtain ⟨es,hel2,hes⟩:=list_of (Q:=fun i (row:List T)=>row.length=q.length∧∀ (j:Nat) (y:Ty) (v:Value) (x:T),q[j]? = some y→(css[i]?).bind (·[j]?)=some v→row[j]? = some x→CellOk w y v x) len (fun i hi=>by
        obtain ⟨h1,h2,h3⟩:=hcs i css[i] (by simp)
        obtain ⟨row,r1,r2⟩:=list_of (Q:=fun j (x:T)=>∀ (y:Ty) (v:Value),q[j]? = some y→css[i][j]? = some v→CellOk w y v x) q.length (fun j hj=>by
         obtain ⟨x,hx⟩:=h3.2 j q[j] (css[i][j]'(by omega)) (by simp [hj]) (by simp)
         exact ⟨x,fun y v hy hv=>by simp [hj] at hy;subst hy;rw [List.getElem?_eq_getElem (by omega)] at hv;simp at hv;subst hv;exact hx⟩)
        refine ⟨row,r1,fun j y v x hy hv hx=>?_⟩
        have hci:css[i]? = some css[i]:=by simp
        rw [hci] at hv
        exact r2 j x hx y v hy (by simpa using hv))
       have hrow:∀ (i:Nat) (row:List T),es[i]? = some row→row.length=q.length:=fun i row hi=>(hes i row hi).1
       refine ⟨.sl es,rfl,?_,.sl (by omega) hrow ?_⟩
       ·show Rd w _ (.ro (Ty.ots q)) _ _
        have:=Rd.sl (w:=w) (F:=fun b=>b < w.heap.size) (p:=Ty.ots q) (g:=g) (o:=o) (cap:=cap) (es:=es) (fun i j=>((css[i]?).bind (·[j]?)).getD undef) hg (by omega) hm
         (fun i row hi=>by rw [Ty.ots_length];exact hrow i row hi) (fun i j hi hj=>by
          rw [Ty.ots_length] at hj ⊢
          have hi' : i < css.length:=by omega
          obtain ⟨h1,h2,h3⟩:=hcs i css[i] (by simp [hi'])
          rw [h2 j hj]
          have hj' : j < css[i].length:=by omega
          simp [hi',hj'])
         (fun i j row x y hi hx hy=>by
          obtain ⟨y',hy',rfl⟩:=Ty.ots_get _ _ _ hy
          have hi' : i < css.length:=by
           have:=(List.getElem?_eq_some_iff.1 hi).1
           omega
          obtain ⟨h1,h2,h3⟩:=hcs i css[i] (by simp [hi'])
          have hj' : j < css[i].length:=by
           have:=(List.getElem?_eq_some_iff.1 hy').1
           omega
          have:=((hes i row hi).2 j y' css[i][j] x hy' (by simp [hi',hj']) hx).2.1
          simpa [hi',hj'] using this)
        rw [hel2] at this
        exact this
       ·intro i j row x y hi hx hy
        have hi' : i < css.length:=by
         have:=(List.getElem?_eq_some_iff.1 hi).1
         omega
        obtain ⟨h1,h2,h3⟩:=hcs i css[i] (by simp [hi'])
        have hj' : j < css[i].length:=by
         have:=(List.getElem?_eq_some_iff.1 hy).1
         omega
        exact ((hes i row hi).2 j y css[i][j] x hy (by simp [hi',hj']) hx).2.2
    have hlen:∃ v,cs=[v]:=by
     rcases Deep.open_slice hu h with ⟨rfl,_⟩|⟨a,len,cap,m,n',D,Pl,rfl,_⟩
     ·exact ⟨_,rfl⟩
     ·exact ⟨_,rfl⟩
    obtain ⟨v,rfl⟩:=hlen
    refine ⟨rfl,fun j y u hy hu'=>?_⟩
    cases j with
    | zero=>simp at hy hu';subst hy;subst hu';simpa using key
    | succ j=>simp at hy
   ·simp at ht
  ·rename_i fs hu
   simp only [Bool.and_eq_true,beq_iff_eq] at ht
   obtain ⟨hc,hf⟩:=ht
   obtain ⟨xs,m,_,_,hl,_,hx⟩:=DataW.trod_struct hu h
   obtain ⟨_,_,hall⟩:=fields_all n p fs.toList true 0 _ hf rfl
   refine ⟨by omega,fun j q v hq hv=>?_⟩
   have hj:j < p.length:=(List.getElem?_eq_some_iff.1 hq).1
   obtain ⟨i,f,h1,h2,h3,h4,h5⟩:=hall j (Nat.zero_le _) hj
   have hxf:=hx i f (by simpa using h1)
   have hi:i < xs.length:=by
    have:=(List.getElem?_eq_some_iff.1 h1).1
    simp at this
    omega
   rw [List.getElem?_eq_getElem hi] at hxf
   have:=trod_cells n h5 hxf
   have hg:j - f.offset < P.cellsOf f.type:=by omega
   refine this.2 (j - f.offset) q v ?_ ?_
   ·rw [List.getElem?_take,if_pos hg,List.getElem?_drop,show f.offset+(j - f.offset)=j by omega];exact hq
   ·rw [List.getElem?_take,if_pos hg,List.getElem?_drop,show f.offset+(j - f.offset)=j by omega];exact hv
  ·rename_i m e hu
   simp only [Bool.and_eq_true,beq_iff_eq,decide_eq_true_eq,List.all_eq_true,List.mem_range] at ht
   obtain ⟨⟨⟨hc,hpl⟩,he0⟩,hall⟩:=ht
   obtain ⟨xs,m',_,_,hl,hxl,hx⟩:=DataW.trod_array hu h
   refine ⟨by omega,fun j q v hq hv=>?_⟩
   have hj:j < p.length:=(List.getElem?_eq_some_iff.1 hq).1
   have hdm:=Nat.div_add_mod j (P.cellsOf e)
   have hmod:=Nat.mod_lt j he0
   have hi:j / P.cellsOf e < m:=Nat.div_lt_of_lt_mul (by rw [Nat.mul_comm];omega)
   have hxf:=hx (j / P.cellsOf e) hi
   rw [List.getElem?_eq_getElem (by omega)] at hxf
   have:=trod_cells n (hall _ hi) hxf
   have hjj:j / P.cellsOf e*P.cellsOf e+j % P.cellsOf e=j:=by rw [Nat.mul_comm];exact hdm
   refine this.2 (j % P.cellsOf e) q v ?_ ?_
   ·rw [List.getElem?_take,if_pos hmod,List.getElem?_drop,hjj];exact hq
   ·rw [List.getElem?_take,if_pos hmod,List.getElem?_drop,hjj];exact hv
  ·simp at ht
end
end Go.Proofs.V

namespace Go.Proofs.V
open Go Go.RowKit
variable {P:Program}
theorem cells_one {v:Value} (h:v.oneCell' = true):v.cells = #[v]:=by
 cases v <;> first | rfl | simp [Value.oneCell'] at h
def Wts (p:List Ty) (ts:List T):Prop:=ts.length=p.length∧∀ (j:Nat) (q:Ty) (x:T),p[j]? = some q→ts[j]? = some x→Wt q x
def shapeIs (P:Program) (t:TypeId) (agg:Bool):Bool:=
 match P.underlying t with
 | some (.struct _)=>agg
 | some (.array _ _)=>agg
 | some .bool=>!agg
 | some (.int _)=>!agg
 | some .string=>!agg
 | some (.slice _)=>!agg
 | _=>false
def ParOk (w:World) (p:Bool×List Ty) (v:Value):Prop:=CellsOk w p.2 v.cells.toList∧(p.1=true→∃ cs,v=.agg cs)∧(p.1=false→v.oneCell' = true)
theorem par_ok {H:Type} {enc:TypeId×Value→H} {w:World} {spare:Nat→Bool} {held:Bool} {r:Reach} {base n:Nat} {t:TypeId} {p:Bool×List Ty} {v:Value} {d:DataW H} {ps:List MemPlace} (h1:tyIs P n t p.2=true) (h2:shapeIs P t p.1=true)
  (hd:DataW.Trod enc P w 0 spare held t v d ps) (hv:Value.okWide P w r base t v):ParOk w p v:=by
 obtain ⟨fuel,hd⟩:=hd
 refine ⟨trod_cells n h1 hd,fun hp=>?_,fun hp=>?_⟩
 ·unfold shapeIs at h2
  unfold Value.okWide at hv
  split at h2
  ·rename_i hu;rw [hu] at hv;obtain ⟨cs,e,_⟩:=hv;exact ⟨cs,e⟩
  ·rename_i hu;rw [hu] at hv;obtain ⟨cs,e,_⟩:=hv;exact ⟨cs,e⟩
  all_goals simp [hp] at h2
 ·unfold shapeIs at h2
  split at h2
  ·simp [hp] at h2
  ·simp [hp] at h2
  ·rename_i hu
   simp only [Value.okWide,hu,Cell.okWide] at hv
   cases v <;> simp_all [Cell.ok,Value.oneCell']
  ·rename_i hu
   simp only [Value.okWide,hu,Cell.okWide] at hv
   cases v <;> simp_all [Cell.ok,Value.oneCell']
  ·rename_i hu
   simp only [Value.okWide,hu,Cell.okWide] at hv
   cases v <;> simp_all [Cell.ok,Value.oneCell']
  ·rename_i hu
   obtain ⟨a,l,c,rfl⟩:=WideShapes.okWide_slice hu hv
   rfl
  ·simp at h2
theorem CellsOk.trees {w:World} {p:List Ty} {cs:List Value} (h:CellsOk w p cs):∃ ts:List T,Wts p ts∧∀ (j:Nat) (o:OT) (x:T) (v:Value),(Ty.ots p)[j]? = some o→ts[j]? = some x→cs[j]? = some v→v.oneCell' = true∧Rd w (fun b=>b < w.heap.size) o v x:=by
 obtain ⟨ts,h1,h2⟩:=list_of (Q:=fun j (x:T)=>∀ (q:Ty) (v:Value),p[j]? = some q→cs[j]? = some v→CellOk w q v x) p.length (fun j hj=>by
  have hj' : j < cs.length:=by rw [h.1];exact hj
  obtain ⟨x,hx⟩:=h.2 j p[j] cs[j] (by simp [hj]) (by simp [hj'])
  exact ⟨x,fun q v hq hv=>by simp [hj] at hq;simp [hj'] at hv;subst hq;subst hv;exact hx⟩)
 refine ⟨ts,⟨h1,fun j q x hq hx=>?_⟩,fun j o x v ho hx hv=>?_⟩
 ·have hj' : j < cs.length:=by rw [h.1];exact (List.getElem?_eq_some_iff.1 hq).1
  exact (h2 j x hx q cs[j] hq (by simp [hj'])).2.2
 ·obtain ⟨q,hq,rfl⟩:=Ty.ots_get _ _ _ ho
  have:=h2 j x hx q v hq hv
  exact ⟨this.1,this.2.1⟩
def argsOf (ps:List (Bool×List Ty)) (tss:List (List T)):List Arg:=List.zipWith (fun p ts=>Arg.v p.1 ts) ps tss
def parsOf (ps:List (Bool×List Ty)):List PM:=ps.map fun p=>.ro (Ty.ots p.2)
def trueRes:FRes:=⟨[.v false [.lit (.bool true)]],[]⟩
def LawPure (ext:FuncId→List Arg→Option FRes) (tbl:FuncId→Option VF) (f:FuncId) (ps:List (Bool×List Ty)):Prop:=
 ∀ tss:List (List T),tss.length=ps.length→(∀ (i:Nat) (p:Bool×List Ty) (ts:List T),ps[i]? = some p→tss[i]? = some ts→Wts p.2 ts)→∃ n,vrun ext tbl n f (argsOf ps tss)=some trueRes
theorem pinsOf_ro:∀ (ps:List (Bool×List Ty)) (vs:List Value) (k:Nat),pinsOf (parsOf ps) vs k=[]
 | [],vs,k=>by cases vs <;> rfl
 | p::ps,[],k=>rfl
 | p::ps,v::vs,k=>by simp [parsOf,pinsOf,PM.isBack];exact pinsOf_ro ps vs (k+1)
theorem enter_law {w:World} {Ac:Nat→Prop} {F:Nat→Prop} {O:Nat→Option Ow} {Go:Nat→Gh} {Gv:Nat→Option Nat} : ∀ {ps:List (Bool×List Ty)} {tss:List (List T)} {vals:List Value} {st st0:St} {tm:Array Value},
  Rel Ac [] w F O Go Gv st tm→vals.length=ps.length→tss.length=ps.length→(∀ (i:Nat) (p:Bool×List Ty) (ts:List T) (v:Value),ps[i]? = some p→tss[i]? = some ts→vals[i]? = some v→
   (p.1=true→∃ cs,v=.agg cs)∧(p.1=false→v.oneCell' = true)∧v.cells.toList.length=p.2.length∧ts.length=p.2.length∧∀ (j:Nat) (o:OT) (x:T) (u:Value),(Ty.ots p.2)[j]? = some o→ts[j]? = some x→v.cells.toList[j]? = some u→u.oneCell' = true∧Rd w F o u x)→
  enterAll st (parsOf ps) (argsOf ps tss)=some st0→Rel Ac [] w F O Go Gv st0 (tm++vals.toArray)
 | [],tss,vals,st,st0,tm,h,hv,ht,_,he=>by
  have:vals=[]:=List.eq_nil_of_length_eq_zero (by simpa using hv)
  subst this
  have:tss=[]:=List.eq_nil_of_length_eq_zero (by simpa using ht)
  subst this
  simp [parsOf,argsOf,enterAll] at he
  subst he
  simpa using h
 | p::ps,[],vals,st,st0,tm,h,hv,ht,_,he=>by simp at ht
 | p::ps,ts::tss,[],st,st0,tm,h,hv,ht,_,he=>by simp at hv
 | p::ps,ts::tss,v::vals,st,st0,tm,h,hv,ht,hh,he=>by
  simp only [parsOf,argsOf,List.map_cons,List.zipWith_cons_cons,enterAll,enter1] at he
  split at he
  ·rename_i st1 h1
   split at h1
   ·simp at h1
    subst h1
    obtain ⟨a1,a2,a3,a4,a5⟩:=hh 0 p ts v rfl rfl rfl
    have hs:SRel w F Go Gv st v (.v p.1 (roCs (Ty.ots p.2) ts)):=by
     have hcs:CsRel w F Go Gv st v.cells.toList (roCs (Ty.ots p.2) ts):=roCs_rel (by rw [Ty.ots_length];exact a4) (by rw [Ty.ots_length];exact a3) a5
     cases hp:p.1 with
     | true=>
      obtain ⟨cs,rfl⟩:=a1 hp
      exact ⟨cs,rfl,hcs⟩
     | false=>
      have ho:=a2 hp
      have hvc:v.cells = #[v]:=cells_one ho
      rw [hvc] at hcs
      match hr:roCs (Ty.ots p.2) ts,hcs with
      | [c],hcs=>exact ⟨c,rfl,.inl ho,(hcs.2 0 v c rfl rfl).2⟩
      | [],hcs=>exact absurd hcs.1 (by simp)
      | _::_::_,hcs=>exact absurd hcs.1 (by simp)
    have:=enter_law (h.pushSlot hs) (by simpa using hv) (by simpa using ht) (fun i p' ts' v' x y z=>hh (i+1) p' ts' v' (by simpa using x) (by simpa using y) (by simpa using z)) he
    have e:tm++(v::vals).toArray=tm.push v++vals.toArray:=by simp
    rw [e]
    exact this
   ·simp at h1
  ·simp at he
variable {ext:FuncId→List Arg→Option FRes} {tbl:FuncId→Option VF}
theorem law_calls {g:GInv} (hs:∀ n,FSound g P tbl (vrun ext tbl n)) {f:FuncId} {vf:VF} (hvf:tbl f=some vf) {ps:List (Bool×List Ty)} (hpm:vf.pm=parsOf ps) (hrm:vf.rm=[.v [.sc]]) (hp:LawPure ext tbl f ps) {w:World} (hgl:g.gl≤w.heap.size) (hgi:g.I w) {vals:List Value} (hl:vals.length=ps.length)
  (hv:∀ (i:Nat) (p:Bool×List Ty) (v:Value),ps[i]? = some p→vals[i]? = some v→ParOk w p v):Calls P f vals.toArray w fun e w'=>e=.returned (.bool true)∧Below w.heap.size w w':=by
 obtain ⟨tss,t1,t2⟩:=list_of (Q:=fun i (ts:List T)=>∀ (p:Bool×List Ty) (v:Value),ps[i]? = some p→vals[i]? = some v→Wts p.2 ts∧∀ (j:Nat) (o:OT) (x:T) (u:Value),(Ty.ots p.2)[j]? = some o→ts[j]? = some x→v.cells.toList[j]? = some u→u.oneCell' = true∧Rd w (fun b=>b < w.heap.size) o u x) ps.length (fun i hi=>by
  have hi' : i < vals.length:=by omega
  obtain ⟨ts,h1,h2⟩:=(hv i ps[i] vals[i] (by simp [hi]) (by simp [hi'])).1.trees
  exact ⟨ts,fun p v hp' hv'=>by simp [hi] at hp';simp [hi'] at hv';subst hp';subst hv';exact ⟨h1,h2⟩⟩)
 obtain ⟨n,hrun⟩:=hp tss t1 (fun i p ts hp' ht'=>by
  have hi:i < vals.length:=by rw [hl];exact (List.getElem?_eq_some_iff.1 hp').1
  exact (t2 i ts ht' p vals[i] hp' (by simp [hi])).1)
 obtain ⟨_,st0,hent,hdoes⟩:=hs n f vf _ _ hvf hrun
 unfold enter at hent
 split at hent
 ·rename_i ste hste
  split at hent
  ·simp at hent
   have hinit:Rel (fun b=>w.heap.size≤b) [] w (fun b=>b < w.heap.size) (fun _=>none) (fun _ _=>none) (fun _=>none) ⟨[],[],[]⟩ #[]:=by
    refine ⟨rfl,by simp,?_,by simp,?_,by simp,by simp,by simp,by simp,by simp,fun b hb=>hb,fun b hb=>hb,by simp⟩
    ·intro id o ho;simp [obj_eq] at ho
    ·intro id cs hcs;simp [var_eq] at hcs
   rw [hpm] at hste
   have hrel:=enter_law hinit hl t1 (fun i p ts v hp' ht' hv'=>by
    have h1:=hv i p v hp' hv'
    have h2:=t2 i ts ht' p v hp' hv'
    exact ⟨h1.2.1,h1.2.2,h1.1.1,h2.1.1,h2.2⟩) hste
   have hsz:(#[]++vals.toArray:Array Value).size=ste.slots.length:=hrel.size
   have hvs:vals.toArray.size=ste.slots.length:=by simpa using hsz
   have hpad:=hrel.pad (vf.nslots - ste.slots.length)
   have hargs:(#[]++vals.toArray)++Array.replicate (vf.nslots - ste.slots.length) undef=initTm vals.toArray vf.nslots:=by
    unfold initTm
    rw [hvs]
    simp
   rw [hargs,hent] at hpad
   have hpins:pinsOf vf.pm vals.toArray.toList 0=[]:=by rw [hpm];exact pinsOf_ro ps _ 0
   refine (hdoes vals.toArray w _ _ _ _ _ (by simp [hpm,parsOf,hl]) ⟨fun b hb=>Nat.le_trans hgl hb,hgl,hgi,fun b hb=>FrOk.big hb,fun b hb=>Nat.lt_of_lt_of_le hb hgl⟩ (by rw [hpins];exact hpad)).mono ?_
   rintro e w' ⟨v,rfl,F',O',Go',Gv',st',tm',hr,hstep,_,_,hleave,hvv⟩
   refine ⟨?_,hstep.os,hstep.tape,hstep.output,hstep.size,fun k hk=>hstep.heap k hk (by omega)⟩
   congr 1
   unfold leave at hleave
   rw [hrm] at hleave
   split at hleave
   ·rename_i rs us1 vs1 ms us2 vs2 h1 h2
    split at hleave
    ·simp only [Option.some.injEq,trueRes,FRes.mk.injEq] at hleave
     obtain ⟨rfl,rfl⟩:=hleave
     match hres:vf.res,h1 with
     | [],h1=>simp [outRs] at h1
     | k::k2::ks,h1=>
      simp only [outRs] at h1
      split at h1
      ·rename_i h3;simp at h3
      ·simp at h1
     | [k],h1=>
      simp only [outRs] at h1
      split at h1
      ·rename_i a us vs ars us' vs' e1 e2
       simp at h1 e2
       obtain ⟨⟨rfl,rfl⟩,_,_⟩:=h1
       obtain ⟨s,hs1,hs2⟩:=Option.bind_eq_some_iff.1 e1
       have hk:k < tm'.size:=by rw [hr.size];exact (List.getElem?_eq_some_iff.1 hs1).1
       have hsr:=hr.slots k tm'[k] s (by simp [hk]) hs1
       unfold outR at hs2
       split at hs2
       ·rename_i ots agg cs e3
        simp at e3
        subst e3
        split at hs2
        ·rename_i ts us3 ht
         simp at hs2
         obtain ⟨⟨rfl,rfl⟩,_⟩:=hs2
         obtain ⟨c,hc1,_,hc2⟩:=hsr
         simp at hc1
         subst hc1
         simp only [V.toTs] at ht
         split at ht
         ·rename_i x u xs us4 h3 h4
          simp at ht
          obtain ⟨⟨rfl,_⟩,_⟩:=ht
          cases c with
          | lit y=>
           simp only [V.toT] at h3
           split at h3
           ·simp at h3
            rw [hvv,hres]
            simp only [CRel] at hc2
            simp [resV,hk,hc2,h3.1]
           ·simp at h3
          | _=>simp [V.toT] at h3
         ·simp at ht
        ·simp at hs2
       ·rename_i e3;simp at e3
       ·simp at hs2
      ·simp at h1
    ·simp at hleave
   ·simp at hleave
  ·simp at hent
 ·simp at hent
end Go.Proofs.V

namespace Go.Proofs.V
open Go
inductive Orc where
 | row (r:List T)
 | rows (es:List (List T))
 | num (n:Nat)
 | int (n:Int)
 | bit (b:Bool)
 | res (r:FRes)
 | str (s:ByteArray)
def X (α:Type):Type:=List Orc→Option (α×List Orc×List Prop)
def xpure {α:Type} (a:α):X α:=fun os=>some (a,os,[])
def xbind {α β:Type} (x:X α) (f:α→X β):X β:=fun os=>
 match x os with
 | none=>none
 | some (a,os1,p)=>
  match f a os1 with
  | none=>none
  | some (b,os2,q)=>some (b,os2,p++q)
def xfail {α:Type} : X α:=fun _=>none
def xof {α:Type} : Option α→X α
 | some a=>xpure a
 | none=>xfail
def xask (p:Prop):X Unit:=fun os=>some ((),os,[p])
def xnum:X Nat
 | .num n::os=>some (n,os,[])
 | _=>none
def xint:X Int
 | .int n::os=>some (n,os,[])
 | _=>none
def xrow:X (List T)
 | .row r::os=>some (r,os,[])
 | _=>none
def xrows:X (List (List T))
 | .rows r::os=>some (r,os,[])
 | _=>none
def xbit:X Bool
 | .bit b::os=>some (b,os,[])
 | _=>none
def xres:X FRes
 | .res r::os=>some (r,os,[])
 | _=>none
def xstr:X ByteArray
 | .str r::os=>some (r,os,[])
 | _=>none
def xtell (es:List (List T)):X (List (List T)):=xbind xrows fun es'=>xbind (xask (es=es')) fun _=>xpure es'
def xsize (n:Nat):X Nat:=xbind xnum fun m=>xbind (xask (n=m)) fun _=>xpure m
def xtruth:Option Value→X Bool
 | some (.bool e)=>xbind xbit fun b=>xbind (xask (e=b)) fun _=>xpure b
 | _=>xfail
def binX (op:BinOp):Value→Value→X Value
 | .int k a,.int k' b=>
  match op with
  | .shl=>xbind (xask (0≤b)) fun _=>xpure (.int k (k.wrap (a*2 ^ min b.toNat k.bits)))
  | .shr=>xbind (xask (0≤b)) fun _=>xpure (.int k (a.fdiv (2 ^ min b.toNat k.bits)))
  | .quo=>if k=k' then xbind (xask (b≠0)) fun _=>xpure (.int k (k.wrap (a.tdiv b))) else xfail
  | .rem=>if k=k' then xbind (xask (b≠0)) fun _=>xpure (.int k (a.tmod b)) else xfail
  | op=>xof (vbin op (.int k a) (.int k' b))
 | .string a,.string b=>
  match op with
  | .add=>xbind (xask (a.size+b.size≤9223372036854775807)) fun _=>xpure (.string (a++b))
  | op=>xof (vbin op (.string a) (.string b))
 | .float k a,.float k' b=>if k=k' then xbind xnum fun r=>xbind (xask (vfl op k a b=some r)) fun _=>xpure (.float k r) else xfail
 | _,_=>xfail
def idxX:Value→Value→X Value
 | .string s,.int _ i=>xbind xint fun b=>xbind (xask (0≤i)) fun _=>xbind (xask ((s[i.toNat]?).map (fun c=>(c.toNat:Int))=some b)) fun _=>xpure (.int .u8 b)
 | _,_=>xfail
def loX (st:St) (h:Nat):Option Opd→X (Nat×Nat)
 | none=>xpure (0,h)
 | some o=>xbind (xof (st.num o)) fun k=>xbind (xask (0≤k∧k≤h)) fun _=>xpure (k.toNat,h)
def boundsX (st:St) (n:Nat) (lo:Option Opd):Option Opd→X (Nat×Nat)
 | none=>loX st n lo
 | some o=>xbind (xof (st.num o)) fun k=>xbind (xask (0≤k∧k≤n)) fun _=>loX st k.toNat lo
def subX:List OT→List (List T)→Pth→X (List OT×List (List T))
 | ot,es,[]=>xpure (ot,es)
 | ot,es,(i,j)::r=>
  xbind xrow fun rw=>xbind (xask (es[i]? = some rw)) fun _=>
  match ot[j]?,rw[j]? with
  | some (.own ot'),some (.sl es')=>subX ot' es' r
  | _,_=>xfail
def updX:List OT→List (List T)→Pth→List (List T)→X (List (List T))
 | _,_,[],new=>xpure new
 | ot,es,(i,j)::r,new=>
  xbind xrow fun rw=>xbind (xask (es[i]? = some rw)) fun _=>
  match ot[j]?,rw[j]? with
  | some (.own ot'),some (.sl es')=>xbind (updX ot' es' r new) fun es''=>xtell (es.set i (rw.set j (.sl es'')))
  | _,_=>xfail
def rdCX (id:Nat) (p:Pth) (i j:Nat):OT→T→X C
 | .own _,.sl es=>xbind (xsize es.length) fun n=>xpure (.ref id (p++[(i,j)]) 0 n)
 | o,t=>xpure (rdC id p i j o t)
def rdCsX (id:Nat) (p:Pth) (i:Nat):Nat→List OT→List T→X (List C)
 | j,o::ot,x::row=>xbind (rdCX id p i j o x) fun c=>xbind (rdCsX id p i (j+1) ot row) fun cs=>xpure (c::cs)
 | _,_,_=>xpure []
def toTX (st:St):OT→C→X (T×List Nat)
 | .own ot,.ref id [] 0 len=>
  xbind (xof (st.obj id)) fun o=>
  if OT.beqs ot o.ot then xbind (xask (len≤o.es.length)) fun _=>xbind (xtell (o.es.take len)) fun es=>xpure (.sl es,[id]) else xfail
 | .hol ot,.ref id [] 0 len=>
  xbind (xof (st.obj id)) fun o=>
  if OT.beqs ot o.ot then xbind (xask (len≤o.es.length)) fun _=>xbind (xtell (o.es.take len)) fun es=>xpure (.sl es,[id]) else xfail
 | o,c=>xof (toT st o c)
def toTsX (st:St):List OT→List C→X (List T×List Nat)
 | [],[]=>xpure ([],[])
 | o::ot,c::cs=>xbind (toTX st o c) fun x=>xbind (toTsX st ot cs) fun y=>xpure (x.1::y.1,x.2++y.2)
 | _,_=>xfail
def lendTX (st:St):OT→C→X (T×List Nat)
 | .ro q,.ref id p off len=>
  xbind (xof (st.obj id)) fun o=>xbind (subX o.ot o.es p) fun x=>
  if OT.beqs q (OT.lends x.1) then xbind (xask (off+len≤x.2.length)) fun _=>xbind (xtell ((x.2.drop off).take len)) fun es=>xpure (.sl es,[id]) else xfail
 | o,c=>xof (lendT st o c)
def lendTsX (st:St):List OT→List C→X (List T×List Nat)
 | [],[]=>xpure ([],[])
 | o::ot,c::cs=>xbind (lendTX st o c) fun x=>xbind (lendTsX st ot cs) fun y=>xpure (x.1::y.1,x.2++y.2)
 | _,_=>xfail
def inCX (objs:List (Option Ob)):OT→T→X (C×List (Option Ob))
 | .own ot,.sl es=>xbind (xsize es.length) fun n=>xpure (.ref objs.length [] 0 n,objs++[some ⟨ot,es⟩])
 | o,t=>xof (inC objs o t)
def inCsX (objs:List (Option Ob)):List OT→List T→X (List C×List (Option Ob))
 | [],[]=>xpure ([],objs)
 | o::ot,x::xs=>xbind (inCX objs o x) fun c=>xbind (inCsX c.2 ot xs) fun cs=>xpure (c.1::cs.1,cs.2)
 | _,_=>xfail
def frzCX (i:Nat) (o:Ob):C→X C
 | .ref id p off len=>
  if id=i then xbind (subX o.ot o.es p) fun x=>if OT.beqs (OT.lends x.1) (OT.lends x.1)=true then xbind (xask (off+len≤x.2.length)) fun _=>xbind (xtell ((x.2.drop off).take len)) fun es=>xpure (.ro (OT.lends x.1) es) else xpure .dead
  else xpure (.ref id p off len)
 | c=>xpure c
def mapX {α β:Type} (f:α→X β):List α→X (List β)
 | []=>xpure []
 | a::l=>xbind (f a) fun b=>xbind (mapX f l) fun bs=>xpure (b::bs)
def fzcCX (i c:Nat) (o:Ob):C→X C
 | .ref id [(r,c')] 0 len=>
  if id=i then
   if c' = c then xbind (subX o.ot o.es [(r,c)]) fun x=>xbind (xask (len=x.2.length)) fun _=>xbind (xtell x.2) fun es=>xpure (.ro (OT.lends x.1) es)
   else xpure .dead
  else xpure (.ref id [(r,c')] 0 len)
 | x=>xpure (staleC i 0 x)
def SV.mapX (f:C→X C):SV→X SV
 | .v a cs=>xbind (V.mapX f cs) fun cs=>xpure (.v a cs)
 | .tup ss=>xbind (V.mapX (fun x=>xbind (V.mapX f x.2) fun cs=>xpure (x.1,cs)) ss) fun ss=>xpure (.tup ss)
 | .ifc t c=>xbind (f c) fun c=>xpure (.ifc t c)
 | .any=>xpure .any
def optX {α β:Type} (f:α→X β):Option α→X (Option β)
 | none=>xpure none
 | some a=>xbind (f a) fun b=>xpure (some b)
def St.mapX (st:St) (f:C→X C):X St:=xbind (V.mapX (SV.mapX f) st.slots) fun sl=>xbind (V.mapX (optX (V.mapX f)) st.vars) fun vs=>xpure { st with slots:=sl,vars:=vs }
def freezeX (st:St) (k j:Nat):X St:=
 match (st.slots[k]?).bind SV.cells with
 | some (_,cs)=>
  match cs[j]? with
  | some (.ref id _ _ _)=>xbind (xof (st.obj id)) fun o=>xbind (St.mapX st (frzCX id o)) fun st1=>xpure { st1 with objs:=st.objs.set id none }
  | _=>xfail
 | none=>xfail
def frzCoX (st:St) (id c:Nat):X St:=
 xbind (xof (st.obj id)) fun o=>
 match o.ot[c]? with
 | some (.own q)=>xbind (St.mapX st (fzcCX id c o)) fun st1=>xpure { st1 with objs:=st.objs.set id (some ⟨o.ot.set c (.ro (OT.lends q)),o.es⟩) }
 | _=>xfail
def takeX (st:St) (k j:Nat):X St:=
 match st.slots[k]? with
 | some (.v agg cs)=>
  match cs[j]? with
  | some (.ref id [(r,c)] off len)=>
   xbind (xof (st.obj id)) fun o=>xbind xrow fun rw=>xbind (xask (o.es[r]? = some rw)) fun _=>
   match o.ot[c]?,rw[c]? with
   | some (.own q),some (.sl es)=>
    xpure ⟨(st.slots.map (SV.map (staleC id 0))).set k (.v agg ((cs.map (staleC id 0)).set j (.ref st.objs.length [] off len))),st.objs.set id (some ⟨o.ot.set c (.hol q),o.es.set r (rw.set c (.pt []))⟩)++[some ⟨q,es⟩],st.vars.map (Option.map (List.map (staleC id 0)))⟩
   | _,_=>xfail
  | some _=>xpure st
  | none=>xfail
 | _=>xfail
def closeX (st:St) (id j:Nat):X St:=
 match st.obj id with
 | some o=>
  match o.ot[j]? with
  | some (.hol q)=>xbind (xask (noPt j o.es=true)) fun _=>xpure { st with objs:=st.objs.set id (some ⟨o.ot.set j (.own q),o.es⟩) }
  | _=>xpure st
 | none=>xpure st
def closeAtX (c:Option C) (st:St):X St:=
 match c with
 | some (.ptr id [] _ j)=>closeX st id j
 | _=>xpure st
def preOneX (st:St):Pre→X St
 | .tk k j=>takeX st k j
 | .fz k j=>
  match (st.slots[k]?).bind SV.cells with
  | some (_,cs)=>
   match cs[j]? with
   | some (.ref _ _ _ _)=>freezeX st k j
   | some _=>xpure st
   | none=>xfail
  | none=>xfail
 | .fzc k j c=>
  match st.slots[k]? with
  | some (.v _ cs)=>
   match cs[j]? with
   | some (.ref id _ _ _)=>
    match (st.obj id).bind (·.ot[c]?) with
    | some (.own _)=>frzCoX st id c
    | _=>xpure st
   | _=>xpure st
  | _=>xpure st
 | .fzv k j=>
  match st.slots[k]? with
  | some (.v false [.vptr id 0])=>
   match (st.var id).bind (·[j]?) with
   | some (.ref o _ _ _)=>xbind (xof (st.obj o)) fun ob=>xbind (St.mapX st (frzCX o ob)) fun st1=>xpure { st1 with objs:=st.objs.set o none }
   | some _=>xpure st
   | none=>xfail
  | _=>xfail
 | x=>xof (preOne st x)
def preAllX (st:St):List Pre→X St
 | []=>xpure st
 | x::r=>xbind (preOneX st x) fun st1=>preAllX st1 r
def pushX (st:St) (d:Nat) (ot:List OT) (es:List (List T)):X St:=
 xbind (xtell es) fun es=>xbind (xsize es.length) fun n=>xpure { st with slots:=st.slots.set d (.v false [.ref st.objs.length [] 0 n]),objs:=st.objs++[some ⟨ot,es⟩] }
def loadX (st:St) (d:Nat) (x:Opd) (n:Nat) (agg:Bool):X St:=
 let put (cs:List C):X St:=if cs.length=n then xpure (st.set d (.v agg cs)) else xfail
 match st.cell x with
 | some (.rptr p cs)=>put ((roCs p cs).take n)
 | some (.ptr id p i j)=>
  xbind (xof (st.obj id)) fun o=>xbind (subX o.ot o.es p) fun y=>xbind xrow fun rw=>xbind (xask (y.2[i]? = some rw)) fun _=>
  xbind (rdCsX id p i j ((y.1.drop j).take n) ((rw.drop j).take n)) put
 | some (.vptr id j)=>xbind (xof (st.var id)) fun cs=>put ((cs.drop j).take n)
 | _=>xfail
def putOX (st:St) (id:Nat) (p:Pth) (i j:Nat) (c:C):X St:=
 xbind (xof (st.obj id)) fun o=>xbind (subX o.ot o.es p) fun y=>
 xbind (xof (y.1[j]?)) fun oc=>xbind (toTX st oc c) fun x=>
 if x.2.contains id then xfail else
 xbind xrows fun es1=>xbind (xask (∃ row,y.2[i]? = some row∧j < row.length∧y.2.set i (row.set j x.1)=es1)) fun _=>
 xbind (updX o.ot o.es p es1) fun es'=>
 let st1:=match oc with | .sc | .ro _=>st | _=>st.mapC (staleC id p.length)
 xpure { st1 with objs:=(killO st1.objs x.2).set id (some ⟨o.ot,es'⟩) }
def putOsX (st:St) (id:Nat) (p:Pth) (i:Nat):Nat→List C→X St
 | _,[]=>xpure st
 | j,c::cs=>xbind (putOX st id p i j c) fun st1=>putOsX st1 id p i (j+1) cs
def storeX (st:St) (x:Opd) (n:Nat) (y:SV):X St:=
 match st.cell x,y.cells with
 | some (.ptr id p i j),some (_,cs)=>if cs.length=n then putOsX st id p i j cs else xfail
 | _,_=>xof (vstore st x n y)
def srcX (st:St) (p:List OT):C→X (List (List T)×List Nat)
 | .ref id q off len=>
  xbind (xof (st.obj id)) fun o=>xbind (subX o.ot o.es q) fun y=>
  if OT.beqs p y.1&&OT.beqs p (OT.lends p) then xbind (xask (off+len≤y.2.length)) fun _=>xpure ((y.2.drop off).take len,[])
  else if OT.beqs p y.1&&q.isEmpty&&decide (off=0) then xbind (xask (len=y.2.length)) fun _=>xbind (xask (off+len≤y.2.length)) fun _=>xpure (y.2,[id])
  else xfail
 | c=>xof (srcRows st p c)
def appX (st:St) (d:Nat) (x y:Opd) (p:List OT) (lim:Nat):X St:=
 xbind (xof (st.cell x)) fun cx=>xbind (xof (st.cell y)) fun cy=>xbind (srcX st p cy) fun s=>
 match cx with
 | .lit (.slice none 0 0)=>xbind (xask (s.1.length≤lim)) fun _=>pushX (st.kill s.2) d p s.1
 | .ref id [] 0 len=>
  xbind (xof (st.obj id)) fun o=>
  if OT.beqs p o.ot && !s.2.contains id then xbind (xask (len≤o.es.length∧len+s.1.length≤lim)) fun _=>pushX (st.kill (id::s.2)) d p (o.es.take len++s.1) else xfail
 | _=>xfail
def apprX (st:St) (d:Nat) (x y:Opd) (p:List OT) (lim:Nat):X St:=
 xbind (xof (st.cell x)) fun cx=>xbind (xof (st.cell y)) fun cy=>xbind (srcX st p cy) fun s=>
 match cx,s.2 with
 | .ref id [(r,c)] 0 len,[]=>
  xbind (xof (st.obj id)) fun o=>xbind (subX o.ot o.es [(r,c)]) fun z=>
  if OT.beqs p z.1&&OT.beqs p (OT.lends p) then xbind (xask (len=z.2.length∧len+s.1.length≤lim)) fun _=>
   xbind (frzCoX st id c) fun st1=>xbind (xtell (z.2++s.1)) fun es=>xpure (st1.set d (.v false [.ro p es])) else xfail
 | _,_=>xfail
def appSX (st:St) (d:Nat) (x y:Opd) (lim:Nat):X St:=
 xbind (xof (st.cell x)) fun cx=>
 match st.val y with
 | some (.string s)=>
  match cx with
  | .lit (.slice none 0 0)=>xbind (xask (s.size≤lim)) fun _=>pushX st d [.sc] (bytesT s)
  | .ref id [] 0 len=>
   xbind (xof (st.obj id)) fun o=>
   if OT.beqs [.sc] o.ot then xbind (xask (len≤o.es.length∧len+s.size≤lim)) fun _=>pushX (st.kill [id]) d [.sc] (o.es.take len++bytesT s) else xfail
  | _=>xfail
 | _=>xfail
def cpyX (st:St) (d:Nat) (x y:Opd):X St:=
 xbind (xof (st.cell x)) fun cx=>xbind (xof (st.cell y)) fun cy=>xbind (srcX st [.sc] cy) fun s=>
 match cx with
 | .ref id [] off len=>
  xbind (xof (st.obj id)) fun o=>
  if OT.beqs [.sc] o.ot then xbind (xask (s.1.length≤len∧off+len≤o.es.length)) fun _=>xbind (xtell (o.es.take off++s.1++o.es.drop (off+s.1.length))) fun es=>xbind (xsize s.1.length) fun n=>
   xpure { st with slots:=st.slots.set d (litS (.int .i64 n)),objs:=st.objs.set id (some ⟨[.sc],es⟩) } else xfail
 | _=>xfail
def iadrX (st:St) (k:Int) (n:Nat):C→X C
 | .ro p es=>if p.length=n then xbind xrow fun rw=>xbind (xask (0≤k)) fun _=>xbind (xask (es[k.toNat]? = some rw)) fun _=>xpure (.rptr p rw) else xfail
 | .ref id q off len=>
  xbind (xask (0≤k∧k < len)) fun _=>
  match (st.obj id).bind fun o=>subOT o.ot q with
  | some ot=>if ot.length=n then xpure (.ptr id q (off+k.toNat) 0) else xfail
  | none=>xfail
 | _=>xfail
def slcX (st:St) (lo hi:Option Opd) (n:Nat):C→X SV
 | .ro p es=>if p.length=n then xbind (boundsX st es.length lo hi) fun b=>xbind (xtell ((es.take b.2).drop b.1)) fun es=>xpure (.v false [.ro p es]) else xfail
 | .ref id q off len=>
  match (st.obj id).bind fun o=>subOT o.ot q with
  | some ot=>if ot.length=n then xbind (boundsX st len lo hi) fun b=>xpure (.v false [.ref id q (off+b.1) (b.2 - b.1)]) else xfail
  | none=>xfail
 | .lit (.slice none 0 0)=>xbind (boundsX st 0 lo hi) fun _=>xpure (litS (.slice none 0 0))
 | _=>xfail
def lenX (st:St):C→X Nat
 | .lit (.slice none 0 0)=>xpure 0
 | .ro _ es=>xsize es.length
 | .ref id _ _ len=>xbind (xof (st.obj id)) fun _=>xpure len
 | _=>xfail
def nilX (st:St):C→X Bool
 | .lit (.slice none 0 0)=>xpure true
 | .ro _ es=>xbind (xask (es.length≠0)) fun _=>xpure false
 | .ref id _ _ len=>xbind (xask (len≠0)) fun _=>xbind (xof (st.obj id)) fun _=>xpure false
 | _=>xfail
def rowsAllX (st:St) (p:List OT):List Opd→X (List (List T)×List Nat)
 | []=>xpure ([],[])
 | x::xs=>xbind (xof ((st.get x).bind SV.cells)) fun c=>xbind (rowsAllX st p xs) fun r=>xbind (toTsX st p c.2) fun t=>xpure (t.1::r.1,t.2++r.2)
def mgFullX (st:St):List C→X Unit
 | []=>xpure ()
 | .ref id _ _ len::cs=>xbind (xof (st.obj id)) fun o=>xbind (xask (len=o.es.length)) fun _=>mgFullX st cs
 | _::cs=>mgFullX st cs
def passOneX (st:St) (pm:PM) (x:SV):X Pass:=
 match pm,x with
 | .ro ots,.v agg cs=>xbind (lendTsX st ots cs) fun t=>xpure { args:=[.v agg t.1],ls:=t.2,bs:=[.no] }
 | .mv ots,.v agg cs=>xbind (toTsX st ots cs) fun t=>xpure { args:=[.v agg t.1],hs:=roots t.2,bs:=[.no] }
 | .mb ots,.v false [.vptr id 0]=>xbind (xof (st.var id)) fun cs=>xbind (toTsX st ots cs) fun t=>xpure { args:=[.m (.pt t.1)],hs:=roots t.2,vs:=[id],bs:=[.var id ots] }
 | .ms ot,.v false [.ref id p 0 len]=>
  xbind (xof (st.obj id)) fun o=>xbind (subX o.ot o.es p) fun y=>
  if OT.beqs ot y.1 then xbind (xask (len=y.2.length)) fun _=>xpure { args:=[.m (.sl y.2)],hs:=[(id,p)],bs:=[.obj id p ot] } else xfail
 | .mg ots,.v agg cs=>xbind (toTsX st ots cs) fun t=>xbind (xof (mgBack ots cs)) fun bs=>xbind (mgFullX st cs) fun _=>xpure { args:=[.v agg t.1],hs:=roots t.2,bs }
 | _,_=>xfail
def passAllX (st:St):List PM→List SV→X Pass
 | [],[]=>xpure {}
 | pm::pms,x::xs=>xbind (passOneX st pm x) fun a=>xbind (passAllX st pms xs) fun b=>xpure { args:=a.args++b.args,hs:=a.hs++b.hs,vs:=a.vs++b.vs,ls:=a.ls++b.ls,bs:=a.bs++b.bs }
 | _,_=>xfail
def giveBackX (os:List (Option Ob)):List Back→List T→St→X St
 | [],[],st=>xpure st
 | .no::bs,ms,st=>giveBackX os bs ms st
 | .var id ots::bs,.pt ts::ms,st=>xbind (inCsX st.objs ots ts) fun c=>giveBackX os bs ms { st with vars:=st.vars.set id (some c.1),objs:=c.2 }
 | .obj id p _::bs,.sl es::ms,st=>
  xbind (xof ((os[id]?).bind fun x=>x)) fun o=>xbind (subX o.ot o.es p) fun y=>xbind (xask (es.length=y.2.length)) fun _=>xbind (updX o.ot o.es p es) fun es'=>
  giveBackX os bs ms { st.mapC (staleC id p.length) with objs:=st.objs.set id (some ⟨o.ot,es'⟩) }
 | _,_,_=>xfail
def inRX (st:St):RM→Arg→X ((Bool×List C)×St)
 | .v ots,.v agg ts=>xbind (inCsX st.objs ots ts) fun c=>xpure ((agg,c.1),{ st with objs:=c.2 })
 | .p ots,.m (.pt ts)=>xbind (inCsX st.objs ots ts) fun c=>xpure ((false,[.vptr st.vars.length 0]),{ st with objs:=c.2,vars:=st.vars++[some c.1] })
 | _,_=>xfail
def inRsX (st:St):List RM→List Arg→X (List (Bool×List C)×St)
 | [],[]=>xpure ([],st)
 | m::ms,a::ars=>xbind (inRX st m a) fun x=>xbind (inRsX x.2 ms ars) fun y=>xpure (x.1::y.1,y.2)
 | _,_=>xfail
section
variable (ext:FuncId→List Arg→Option FRes) (tbl:FuncId→Option VF)
def callX (st:St) (d:Nat) (f:FuncId) (xs:List SV):X St:=
 match tbl f with
 | none=>xfail
 | some vf=>
  xbind (passAllX st vf.pm xs) fun ps=>
  let us:=ps.hs.map (·.1)
  if distinct us&&distinct ps.vs&&apart ps.ls us&&(ps.ls.isEmpty || !(vf.pm.any PM.hasRo||vf.rm.any RM.hasRo)) then
   xbind xres fun r=>xbind (xask (Runs ext tbl f ps.args r)) fun _=>
   xbind (giveBackX st.objs ps.bs r.ms { st with objs:=killO st.objs us,vars:=ps.vs.foldl (fun vs i=>vs.set i none) st.vars }) fun st2=>
   xbind (inRsX st2 vf.rm r.rs) fun y=>
   match y with
   | ([(agg,cs)],st3)=>xpure (st3.set d (.v agg cs))
   | (l,st3)=>xpure (st3.set d (.tup l))
  else xfail
def opX (st:St):VOp→X St
 | .pick d c a b=>xbind (xtruth (st.val c)) fun t=>xof ((st.get (if t then a else b)).map (st.set d))
 | .bin d op x y=>xbind (xof (st.val x)) fun a=>xbind (xof (st.val y)) fun b=>xbind (binX op a b) fun r=>xpure (st.set d (litS r))
 | .len d x=>xbind (xof (st.cell x)) fun c=>xbind (lenX st c) fun n=>xpure (st.set d (litS (.int .i64 n)))
 | .lenr d x=>
  match st.cell x with
  | some (.lit (.slice none 0 0))=>xpure (st.set d (litS (.int .i64 0)))
  | some (.ro _ es)=>xbind (xsize es.length) fun n=>xpure (st.set d (litS (.int .i64 n)))
  | _=>xfail
 | .idx d x i=>xbind (xof (st.val x)) fun a=>xbind (xof (st.val i)) fun b=>xbind (idxX a b) fun r=>xpure (st.set d (litS r))
 | .sstr d x lo hi=>
  match st.val x with
  | some (.string s)=>xbind (boundsX st s.size lo hi) fun b=>xpure (st.set d (litS (.string (s.extract b.1 b.2))))
  | _=>xfail
 | .iadr d x i n=>xbind (xof (st.cell x)) fun c=>xbind (xof (st.num i)) fun k=>xbind (iadrX st k n c) fun c=>xpure (st.set d (.v false [c]))
 | .ld d x n agg=>if agg||decide (n=1) then loadX st d x n agg else xfail
 | .ldo d x n agg=>
  match st.cell x with
  | some (.ptr _ _ _ _)=>if agg||decide (n=1) then loadX st d x n agg else xfail
  | _=>xfail
 | .ldv d x n agg=>
  match st.cell x with
  | some (.vptr _ _)=>if agg||decide (n=1) then loadX st d x n agg else xfail
  | some (.rptr _ _)=>if agg||decide (n=1) then loadX st d x n agg else xfail
  | _=>xfail
 | .st x y n=>xbind (xbind (xof (st.get y)) fun s=>storeX st x n s) (closeAtX (st.cell x))
 | .lits d p rs=>xbind (rowsAllX st p rs) fun r=>if distinct r.2 then pushX (st.kill r.2) d p r.1 else xfail
 | .mk d n p zero lim=>xbind (xof (st.num n)) fun k=>xbind (xask (0≤k∧k≤lim)) fun _=>pushX st d p (List.replicate k.toNat (zero.map zeroT))
 | .litr d vs=>if vs.all isLit then xbind (xtell (vs.map fun v=>[T.lit v])) fun es=>xpure (st.set d (.v false [.ro [.sc] es])) else xfail
 | .mkk d n p zero lim id=>xbind (xof (st.num n)) fun k=>xbind (xask (0≤k∧k≤lim)) fun _=>
  match st.objs[id]? with
  | some none=>xbind (xtell (List.replicate k.toNat (zero.map zeroT))) fun es=>xbind (xsize es.length) fun m=>xpure ⟨(st.slots.map (SV.map (deadO id))).set d (.v false [.ref id [] 0 m]),st.objs.set id (some ⟨p,es⟩),st.vars.map (Option.map (List.map (deadO id)))⟩
  | _=>xfail
 | .app d x y p lim=>appX st d x y p lim
 | .cpy d x y=>cpyX st d x y
 | .apps d x y lim=>appSX st d x y lim
 | .appr d x y p lim=>apprX st d x y p lim
 | .slc d x lo hi n=>xbind (xof (st.cell x)) fun c=>xbind (slcX st lo hi n c) fun s=>xpure (st.set d s)
 | .eqn d neg x=>xbind (xof (st.cell x)) fun c=>xbind (nilX st c) fun b=>xpure (st.set d (litS (.bool (b != neg))))
 | .s2b d x=>
  match st.val x with
  | some (.string s)=>xbind (xask (s.size≤140737488355328)) fun _=>pushX st d [.sc] (bytesT s)
  | _=>xfail
 | .gix d r len i n=>
  match tbl (gBase+r),st.num i with
  | some vf,some k=>xbind (xask (0≤k∧k < len∧len*n≤vf.tab.length)) fun _=>xbind xrow fun cs=>xbind (xask (((vf.tab.drop (k.toNat*n)).take n).map T.lit=cs)) fun _=>xpure (st.set d (.v false [.rptr (List.replicate n .sc) cs]))
  | _,_=>xfail
 | .cvf d c x=>xbind (xof (st.val x)) fun a=>
  match c,a with
  | .f2i k,.float s b=>xbind xint fun n=>xbind (xask (vf2i s b k=some n)) fun _=>xpure (st.set d (litS (.int k n)))
  | c,a=>xbind (xof (vcvf c a)) fun r=>xpure (st.set d (litS r))
 | .cvb d x=>
  match st.cell x with
  | some (.ref id p 0 (len+1))=>if (st.obj id).isSome then xpure (st.set d (.v false [.ref id p 0 (len+1)])) else xfail
  | _=>xfail
 | .b2s d x=>xbind (xof (st.cell x)) fun c=>xbind (lendTX st (.ro [.sc]) c) fun t=>
  match t.1 with
  | .sl es=>xbind xstr fun s=>xbind (xask (bytesOf es=some s.data.toList)) fun _=>xpure (st.set d (litS (.string s)))
  | _=>xfail
 | .call d f xs=>xbind (xof (getAll st xs)) fun l=>callX ext tbl st d f l
 | .callc d x xs=>
  match st.cell x,getAll st xs with
  | some (.clo f caps),some l=>if caps.all (fun i=>(st.var i).isSome) then callX ext tbl st d f (l++caps.map fun i=>.v false [.vptr i 0]) else xfail
  | _,_=>xfail
 | o=>xof (vop tbl (fun _ _=>none) st o)
def roX1 (st:St) (o:ROp):X St:=
 match o.g with
 | none=>xbind (preAllX st o.fz) fun st1=>opX ext tbl st1 o.op
 | some (s,want)=>
  match st.slots[s]? with
  | some (.v false [.lit v])=>
   match v with
   | .bool e=>xbind xbit fun b=>xbind (xask (e=b)) fun _=>if b=want then xbind (preAllX st o.fz) fun st1=>opX ext tbl st1 o.op else xpure (o.op.skipS st)
   | _=>xpure (o.op.skipS st)
  | _=>xfail
def roX (st:St) (o:ROp):X St:=
 match o.kp with
 | none=>roX1 ext tbl st o
 | some l=>xbind (roX1 ext tbl st o) fun st1=>if o.holds st st1 l then xpure st1 else xfail
def opsX (st:St):List ROp→X St
 | []=>xpure st
 | o::os=>xbind (roX ext tbl st o) fun st1=>opsX st1 os
end
end Go.Proofs.V
