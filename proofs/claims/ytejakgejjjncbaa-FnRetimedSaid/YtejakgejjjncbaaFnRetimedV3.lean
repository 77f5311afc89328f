import Derived.Test.YtejakgejjjncbaaFnRetimedV2
import Derived.Lib.Bytealg
import Derived.Lib.IndexMore
import Derived.IntWalk
import Derived.Lib.IndexBytes
import Derived.Test.YtejakgejjjncbaaProg
import Derived.KernelRfl
import Derived.Shelf.LaysM
import Derived.Shelf.Strings.Search3
import Derived.Shelf.Vars
set_option linter.unusedSimpArgs false
set_option linter.unusedVariables false
namespace Go.Proofs.V
open Go
def All : List Prop → Prop
  | [] => True
  | p :: ps => p ∧ All ps
theorem All.app : ∀ {ps qs : List Prop}, All (ps ++ qs) → All ps ∧ All qs
  | [], qs, h => ⟨trivial, h⟩
  | p :: ps, qs, h => ⟨⟨h.1, (All.app h.2).1⟩, (All.app h.2).2⟩
def Ok {α : Type} (x : X α) (r : α → Prop) : Prop := ∀ os a os' ps, x os = some (a, os', ps) → All ps → r a
section
variable {α β : Type} {r : α → Prop} {q : β → Prop}
theorem Ok.mono {x : X α} {r' : α → Prop} (h : Ok x r) (hr : ∀ a, r a → r' a) : Ok x r' := fun os a os' ps h1 h2 => hr a (h os a os' ps h1 h2)
theorem Ok.pure {a : α} (h : r a) : Ok (xpure a) r := fun os b os' ps h1 _ => by simp [xpure] at h1; rw [← h1.1]; exact h
theorem Ok.bind {x : X α} {f : α → X β} (h1 : Ok x r) (h2 : ∀ a, r a → Ok (f a) q) : Ok (xbind x f) q := by
  intro os b os' ps h hp
  unfold xbind at h
  split at h
  · simp at h
  · rename_i a os1 p hx
    split at h
    · simp at h
    · rename_i b' os2 p2 hf
      simp at h
      obtain ⟨rfl, rfl, rfl⟩ := h
      obtain ⟨hp1, hp2⟩ := hp.app
      exact h2 a (h1 _ _ _ _ hx hp1) _ _ _ _ hf hp2
theorem Ok.fail : Ok (xfail : X α) r := fun os a os' ps h _ => by simp [xfail] at h
theorem Ok.of {o : Option α} (h : ∀ a, o = some a → r a) : Ok (xof o) r := by
  cases o with
  | none => exact Ok.fail
  | some a => exact Ok.pure (h a rfl)
theorem Ok.ask {p : Prop} {r : Unit → Prop} (h : p → r ()) : Ok (xask p) r := fun os a os' ps h1 h2 => by
  simp [xask] at h1; obtain ⟨_, rfl⟩ := h1; exact h h2.1
theorem Ok.any {x : X α} (h : ∀ a, r a) : Ok x r := fun os a os' ps _ _ => h a
theorem Ok.true {x : X α} : Ok x fun _ => True := fun _ _ _ _ _ _ => trivial
theorem Ok.ite {c : Prop} [Decidable c] {x y : X α} (h1 : c → Ok x r) (h2 : ¬c → Ok y r) : Ok (if c then x else y) r := by
  split
  · exact h1 ‹_›
  · exact h2 ‹_›
theorem Ok.iteF {c : Prop} [Decidable c] {x : X α} (h1 : c → Ok x r) : Ok (if c then x else xfail) r := Ok.ite h1 fun _ => Ok.fail
end
theorem Ok.asked {β : Type} {p : Prop} {f : Unit → X β} {q : β → Prop} (h : p → Ok (f ()) q) : Ok (xbind (xask p) f) q := Ok.bind (r := fun _ => p) (Ok.ask fun h => h) fun _ hp => h hp
theorem Ok.took {α β : Type} {x : X α} {f : α → X β} {q : β → Prop} (h : ∀ a, Ok (f a) q) : Ok (xbind x f) q := Ok.bind Ok.true fun a _ => h a
theorem Ok.ofb {α β : Type} {o : Option α} {f : α → X β} {q : β → Prop} (h : ∀ a, o = some a → Ok (f a) q) : Ok (xbind (xof o) f) q := Ok.bind (r := fun a => o = some a) (Ok.of fun _ h => h) h
theorem tell_ok (es : List (List T)) : Ok (xtell es) fun x => x = es := Ok.took fun x => Ok.asked fun h => Ok.pure h.symm
theorem size_ok (n : Nat) : Ok (xsize n) fun x => x = n := Ok.took fun x => Ok.asked fun h => Ok.pure h.symm
theorem truth_ok (v : Option Value) : Ok (xtruth v) fun b => v = some (.bool b) := by
  unfold xtruth
  split
  · exact Ok.took fun b => Ok.asked fun h => Ok.pure (by rw [h])
  · exact Ok.fail
theorem binX_ok (op : BinOp) (a b : Value) : Ok (binX op a b) fun v => vbin op a b = some v := by
  unfold binX
  split
  · split
    · exact Ok.asked fun h => Ok.pure (by simp [vbin]; omega)
    · exact Ok.asked fun h => Ok.pure (by simp [vbin]; omega)
    · exact Ok.iteF fun hk => Ok.asked fun h => Ok.pure (by simp [vbin, hk, h])
    · exact Ok.iteF fun hk => Ok.asked fun h => Ok.pure (by simp [vbin, hk, h])
    · exact Ok.of fun a h => h
  · split
    · exact Ok.asked fun h => Ok.pure (by simp [vbin, h])
    · exact Ok.of fun a h => h
  · exact Ok.iteF fun hk => Ok.took fun r => Ok.asked fun h => Ok.pure (by simp only [vbin, if_pos hk, h]; rfl)
  · exact Ok.fail
theorem idxX_ok (a b : Value) : Ok (idxX a b) fun v => vidx a b = some v := by
  unfold idxX
  split
  · refine Ok.took fun x => Ok.asked fun h => Ok.asked fun h2 => Ok.pure ?_
    simp only [vidx, if_pos h]
    rw [Option.map_eq_some_iff] at h2 ⊢
    obtain ⟨c, h3, h4⟩ := h2
    exact ⟨c, h3, by rw [← h4]⟩
  · exact Ok.fail
theorem loX_ok (st : St) (h : Nat) (lo : Option Opd) : Ok (loX st h lo) fun x => vlo st h lo = some x := by
  cases lo with
  | none => exact Ok.pure rfl
  | some o =>
    unfold loX
    refine Ok.ofb fun k hk => Ok.asked fun h2 => Ok.pure ?_
    simp [vlo, hk, h2]
theorem boundsX_ok (st : St) (n : Nat) (lo hi : Option Opd) : Ok (boundsX st n lo hi) fun x => vbounds st n lo hi = some x := by
  cases hi with
  | none => exact loX_ok st n lo
  | some o => exact Ok.ofb fun k hk => Ok.asked fun h2 => (loX_ok st k.toNat lo).mono fun x hx => by simp [vbounds, hk, h2, hx]
theorem subX_ok : ∀ (p : Pth) (ot : List OT) (es : List (List T)), Ok (subX ot es p) fun x => subEs ot es p = some x
  | [], ot, es => Ok.pure rfl
  | (i, j) :: r, ot, es => by
    refine Ok.took fun rw => Ok.asked fun h => ?_
    split
    · rename_i ot' es' h1 h2
      exact (subX_ok r ot' es').mono fun x hx => by simp [subEs, h1, h, h2, hx]
    · exact Ok.fail
theorem updX_ok : ∀ (p : Pth) (ot : List OT) (es new : List (List T)), Ok (updX ot es p new) fun x => updEs ot es p new = some x
  | [], ot, es, new => Ok.pure rfl
  | (i, j) :: r, ot, es, new => by
    refine Ok.took fun rw => Ok.asked fun h => ?_
    split
    · rename_i ot' es' h1 h2
      refine Ok.bind (updX_ok r ot' es' new) fun x hx => (tell_ok _).mono fun y hy => ?_
      simp [updEs, h1, h, h2, hx, hy]
    · exact Ok.fail
theorem rdCX_ok (id : Nat) (p : Pth) (i j : Nat) (o : OT) (t : T) : Ok (rdCX id p i j o t) fun c => c = rdC id p i j o t := by
  unfold rdCX
  split
  · exact Ok.bind (size_ok _) fun n hn => Ok.pure (by simp [rdC, hn])
  · exact Ok.pure rfl
theorem rdCsX_ok (id : Nat) (p : Pth) (i : Nat) : ∀ (j : Nat) (ot : List OT) (row : List T), Ok (rdCsX id p i j ot row) fun cs => cs = rdCs id p i j ot row
  | j, o :: ot, x :: row => Ok.bind (rdCX_ok id p i j o x) fun c hc => Ok.bind (rdCsX_ok id p i (j + 1) ot row) fun cs hcs => Ok.pure (by simp [rdCs, hc, hcs])
  | j, [], _ => Ok.pure (by simp [rdCs])
  | j, _ :: _, [] => Ok.pure (by simp [rdCs])
theorem toTX_ok (st : St) (o : OT) (c : C) : Ok (toTX st o c) fun x => toT st o c = some x := by
  unfold toTX
  split
  · refine Ok.ofb fun ob hob => Ok.iteF fun hb => Ok.asked fun hl => Ok.bind (tell_ok _) fun es hes => Ok.pure ?_
    simp [toT, hob, hb, hl, hes]
  · refine Ok.ofb fun ob hob => Ok.iteF fun hb => Ok.asked fun hl => Ok.bind (tell_ok _) fun es hes => Ok.pure ?_
    simp [toT, hob, hb, hl, hes]
  · exact Ok.of fun x h => h
theorem toTsX_ok (st : St) : ∀ (o : List OT) (c : List C), Ok (toTsX st o c) fun x => toTs st o c = some x
  | [], [] => Ok.pure rfl
  | [], _ :: _ => Ok.fail
  | _ :: _, [] => Ok.fail
  | o :: ot, c :: cs => Ok.bind (toTX_ok st o c) fun x hx => Ok.bind (toTsX_ok st ot cs) fun y hy => Ok.pure (by simp [toTs, hx, hy])
theorem lendTX_ok (st : St) (o : OT) (c : C) : Ok (lendTX st o c) fun x => lendT st o c = some x := by
  unfold lendTX
  split
  · refine Ok.ofb fun ob hob => Ok.bind (subX_ok _ _ _) fun x hx => Ok.iteF fun hb => Ok.asked fun hl => Ok.bind (tell_ok _) fun es hes => Ok.pure ?_
    simp [lendT, hob, hb, hl, hes, hx]
  · exact Ok.of fun x h => h
theorem lendTsX_ok (st : St) : ∀ (o : List OT) (c : List C), Ok (lendTsX st o c) fun x => lendTs st o c = some x
  | [], [] => Ok.pure rfl
  | [], _ :: _ => Ok.fail
  | _ :: _, [] => Ok.fail
  | o :: ot, c :: cs => Ok.bind (lendTX_ok st o c) fun x hx => Ok.bind (lendTsX_ok st ot cs) fun y hy => Ok.pure (by simp [lendTs, hx, hy])
theorem inCX_ok (objs : List (Option Ob)) (o : OT) (t : T) : Ok (inCX objs o t) fun x => inC objs o t = some x := by
  unfold inCX
  split
  · exact Ok.bind (size_ok _) fun n hn => Ok.pure (by simp [inC, hn])
  · exact Ok.of fun x h => h
theorem inCsX_ok : ∀ (o : List OT) (t : List T) (objs : List (Option Ob)), Ok (inCsX objs o t) fun x => inCs objs o t = some x
  | [], [], objs => Ok.pure rfl
  | [], _ :: _, objs => Ok.fail
  | _ :: _, [], objs => Ok.fail
  | o :: ot, c :: cs, objs => Ok.bind (inCX_ok objs o c) fun x hx => Ok.bind (inCsX_ok ot cs x.2) fun y hy => Ok.pure (by simp [inCs, hx, hy])
theorem frzCX_ok (i : Nat) (o : Ob) (c : C) : Ok (frzCX i o c) fun x => x = frzC i o c := by
  unfold frzCX
  split
  · refine Ok.ite (fun hi => ?_) fun hi => Ok.pure (by simp [frzC, hi])
    refine Ok.bind (subX_ok _ _ _) fun x hx => Ok.ite (fun hb => Ok.asked fun hl => Ok.bind (tell_ok _) fun es hes => Ok.pure ?_) fun hb => Ok.pure ?_
    · simp [frzC, hi, hx, hl, hes, hb]
    · simp [frzC, hi, hx, hb]
  · exact Ok.pure (by cases c <;> first | rfl | (rename_i hne; exact absurd rfl (hne _ _ _ _)))
theorem fzcCX_ok (i c0 : Nat) (o : Ob) (c : C) : Ok (fzcCX i c0 o c) fun x => x = fzcC i c0 o c := by
  unfold fzcCX
  split
  · refine Ok.ite (fun hi => ?_) fun hi => Ok.pure (by simp [fzcC, hi])
    refine Ok.ite (fun hc => ?_) fun hc => Ok.pure (by simp [fzcC, hi, hc])
    refine Ok.bind (subX_ok _ _ _) fun x hx => Ok.asked fun hl => Ok.bind (tell_ok _) fun es hes => Ok.pure ?_
    simp [fzcC, hi, hc, hx, ← hl, hes]
  · rename_i hne
    refine Ok.pure ?_
    unfold fzcC
    split
    · exact absurd rfl (hne _ _ _ _)
    · rfl
theorem mapX_ok {α β : Type} {f : α → X β} {g : α → β} (h : ∀ a, Ok (f a) fun b => b = g a) : ∀ l : List α, Ok (mapX f l) fun l' => l' = l.map g
  | [] => Ok.pure rfl
  | a :: l => Ok.bind (h a) fun b hb => Ok.bind (mapX_ok h l) fun l' hl => Ok.pure (by simp [hb, hl])
theorem svmapX_ok {f : C → X C} {g : C → C} (h : ∀ a, Ok (f a) fun b => b = g a) (s : SV) : Ok (SV.mapX f s) fun x => x = s.map g := by
  cases s with
  | v a cs => exact Ok.bind (mapX_ok h cs) fun x hx => Ok.pure (by simp [SV.map, hx])
  | tup ss =>
    have h1 : ∀ x : Bool × List C, Ok (xbind (V.mapX f x.2) fun cs => xpure (x.1, cs)) fun y => y = (x.1, x.2.map g) := by
      intro x
      refine Ok.bind (mapX_ok h x.2) fun y hy => Ok.pure ?_
      rw [hy]
    unfold SV.mapX
    refine Ok.bind (mapX_ok h1 ss) fun x hx => Ok.pure ?_
    rw [hx]
    rfl
  | ifc t c => exact Ok.bind (h c) fun b hb => Ok.pure (by simp [SV.map, hb])
  | any => exact Ok.pure rfl
theorem optX_ok {α β : Type} {f : α → X β} {g : α → β} (h : ∀ a, Ok (f a) fun b => b = g a) (o : Option α) : Ok (optX f o) fun x => x = o.map g := by
  cases o with
  | none => exact Ok.pure rfl
  | some a => exact Ok.bind (h a) fun b hb => Ok.pure (by simp [hb])
theorem stmapX_ok {f : C → X C} {g : C → C} (h : ∀ a, Ok (f a) fun b => b = g a) (st : St) : Ok (St.mapX st f) fun x => x = st.mapC g :=
  Ok.bind (mapX_ok (svmapX_ok h) st.slots) fun sl hsl => Ok.bind (mapX_ok (optX_ok (mapX_ok h)) st.vars) fun vs hvs => Ok.pure (by simp [St.mapC, hsl, hvs])
theorem freezeX_ok (st : St) (k j : Nat) : Ok (freezeX st k j) fun x => st.freeze k j = some x := by
  unfold freezeX
  split
  · rename_i a cs h1
    split
    · rename_i id p off len h2
      exact Ok.ofb fun o ho => Ok.bind (stmapX_ok (frzCX_ok id o) st) fun x hx => Ok.pure (by simp [St.freeze, h1, h2, ho, hx])
    · exact Ok.fail
  · exact Ok.fail
theorem frzCoX_ok (st : St) (id c : Nat) : Ok (frzCoX st id c) fun x => st.frzCo id c = some x := by
  unfold frzCoX
  refine Ok.ofb fun o ho => ?_
  split
  · rename_i q hq
    exact Ok.bind (stmapX_ok (fzcCX_ok id c o) st) fun x hx => Ok.pure (by simp [St.frzCo, ho, hq, hx])
  · exact Ok.fail
theorem takeX_ok (st : St) (k j : Nat) : Ok (takeX st k j) fun x => st.take k j = some x := by
  unfold takeX
  split
  · rename_i agg cs h1
    split
    · rename_i id r c off len h2
      refine Ok.ofb fun o ho => Ok.took fun rw => Ok.asked fun hr => ?_
      split
      · rename_i q es hq hx
        exact Ok.pure (by simp [St.take, h1, h2, ho, hq, hr, hx])
      · exact Ok.fail
    · rename_i h2 h3
      exact Ok.pure (by
        unfold St.take
        rw [h1]
        simp only
        split
        · rename_i h4; rw [h3] at h4; simp at h4; exact absurd h4 (by first | exact h2 _ _ _ _ _ | simp_all)
        · rfl
        · rename_i h4; rw [h3] at h4; simp at h4)
    · exact Ok.fail
  · exact Ok.fail
theorem closeX_ok (st : St) (id j : Nat) : Ok (closeX st id j) fun x => st.close id j = some x := by
  unfold closeX
  split
  · rename_i o ho
    split
    · rename_i q hq
      exact Ok.asked fun h => Ok.pure (by simp [St.close, ho, hq, h])
    · rename_i hn
      exact Ok.pure (by
        unfold St.close
        rw [ho]
        show (match o.ot[j]? with
          | some (OT.hol q) => if noPt j o.es = true then some _ else none
          | _ => some st) = some st
        split
        · rename_i q hq; exact absurd hq (hn q)
        · rfl)
  · rename_i ho
    exact Ok.pure (by simp [St.close, ho])
theorem closeAtX_ok (c : Option C) (st : St) : Ok (closeAtX c st) fun x => closeAt c st = some x := by
  unfold closeAtX closeAt
  split
  · exact closeX_ok st _ _
  · rename_i hn
    refine Ok.pure ?_
    first
      | rfl
      | (split
         · rename_i id i j; exact absurd rfl (hn id i j)
         · rfl)
theorem preOneX_ok (st : St) (x : Pre) : Ok (preOneX st x) fun y => preOne st x = some y := by
  cases x with
  | tk k j => exact takeX_ok st k j
  | pado n => exact (show Ok (xof (preOne st (.pado n))) _ from Ok.of fun x hx => hx)
  | pad n => exact (show Ok (xof (preOne st (.pad n))) _ from Ok.of fun x hx => hx)
  | fzi k j c => exact (show Ok (xof (preOne st (.fzi k j c))) _ from Ok.of fun x hx => hx)
  | fziv k j c => exact (show Ok (xof (preOne st (.fziv k j c))) _ from Ok.of fun x hx => hx)
  | fzc k j c =>
    simp only [preOneX, preOne]
    split
    · rename_i a cs h1
      split
      · rename_i id _ _ _ h2
        split
        · rename_i q h3
          simp only [h1, h2, h3]
          exact frzCoX_ok st _ c
        · rename_i h3
          refine Ok.pure ?_
          simp only [h1, h2]
      · rename_i h2
        refine Ok.pure ?_
        simp only [h1]
    · rename_i h1
      refine Ok.pure ?_
      simp only []
  | dd k j => exact (show Ok (xof (preOne st (.dd k j))) _ from Ok.of fun x hx => hx)
  | fz k j =>
    simp only [preOneX, preOne]
    split
    · rename_i a cs h1
      split
      · rename_i h2
        simp only [h1, h2]
        exact freezeX_ok st k j
      · rename_i c hne h2
        refine Ok.pure ?_
        simp only [h1, h2]
      · exact Ok.fail
    · exact Ok.fail
  | fzv k j =>
    simp only [preOneX, preOne]
    split
    · rename_i id h1
      split
      · rename_i o _ _ _ h2
        refine Ok.ofb fun ob ho => Ok.bind (stmapX_ok (frzCX_ok o ob) st) fun x hx => Ok.pure ?_
        simp only [h1, h2, ho, Option.map_some, hx]
      · rename_i c hne h2
        refine Ok.pure ?_
        simp only [h1, h2]
      · exact Ok.fail
    · exact Ok.fail
  | nl k j p => exact Ok.of fun x hx => hx
  | nlv k j p => exact Ok.of fun x hx => hx
theorem preAllX_ok : ∀ (l : List Pre) (st : St), Ok (preAllX st l) fun x => preAll st l = some x
  | [], st => Ok.pure rfl
  | x :: l, st => Ok.bind (preOneX_ok st x) fun y hy => (preAllX_ok l y).mono fun z hz => by simp [preAll, hy, hz]
theorem pushX_ok (st : St) (d : Nat) (ot : List OT) (es : List (List T)) : Ok (pushX st d ot es) fun x => x = st.push d ⟨ot, es⟩ :=
  Ok.bind (tell_ok es) fun es' he => Ok.bind (size_ok _) fun n hn => Ok.pure (by subst he; subst hn; rfl)
theorem rdCs_take (id : Nat) (p : Pth) (i : Nat) : ∀ (n j : Nat) (ot : List OT) (row : List T), rdCs id p i j (ot.take n) (row.take n) = (rdCs id p i j ot row).take n
  | 0, j, ot, row => by simp [rdCs]
  | n + 1, j, [], row => by simp [rdCs]
  | n + 1, j, o :: ot, [] => by simp [rdCs]
  | n + 1, j, o :: ot, x :: row => by simp [rdCs, rdCs_take id p i n]
theorem loadX_ok (st : St) (d : Nat) (x : Opd) (n : Nat) (agg : Bool) : Ok (loadX st d x n agg) fun y => vload st d x n agg = some y := by
  unfold loadX
  simp only
  split
  · rename_i p cs h1
    exact Ok.iteF fun h => Ok.pure (by unfold vload; simp only [h1]; rw [if_pos h])
  · rename_i id p i j h1
    refine Ok.ofb fun o ho => Ok.bind (subX_ok _ _ _) fun y hy => Ok.took fun rw' => Ok.asked fun hrw => Ok.bind (rdCsX_ok _ _ _ _ _ _) fun cs hcs => Ok.iteF fun hl => Ok.pure ?_
    rw [rdCs_take] at hcs
    subst hcs
    unfold vload
    simp only [h1, ho, hy, hrw]
    rw [if_pos hl]
  · rename_i id j h1
    exact Ok.ofb fun cs hcs => Ok.iteF fun h => Ok.pure (by unfold vload; simp only [h1, hcs]; rw [if_pos h])
  · exact Ok.fail
theorem putOX_ok (st : St) (id : Nat) (p : Pth) (i j : Nat) (c : C) : Ok (putOX st id p i j c) fun x => st.putO id p i j c = some x := by
  unfold putOX
  refine Ok.ofb fun o ho => Ok.bind (subX_ok _ _ _) fun y hy => Ok.ofb fun oc hoc => Ok.bind (toTX_ok _ _ _) fun x hx => Ok.ite (fun _ => Ok.fail) fun hu => Ok.took fun es1 => Ok.asked fun h1 => Ok.bind (updX_ok _ _ _ _) fun es' he => Ok.pure ?_
  obtain ⟨row, h2, h3, h4⟩ := h1
  unfold St.putO
  have hn : ¬ row.length ≤ j := by omega
  simp only [ho, hy, hoc, h2, hx]
  rw [if_neg (by simp [hn]; simpa using hu), h4, he]
  rfl
theorem putOsX_ok (id : Nat) (p : Pth) (i : Nat) : ∀ (cs : List C) (j : Nat) (st : St), Ok (putOsX st id p i j cs) fun x => st.putOs id p i j cs = some x
  | [], j, st => Ok.pure rfl
  | c :: cs, j, st => Ok.bind (putOX_ok st id p i j c) fun x hx => (putOsX_ok id p i cs (j + 1) x).mono fun y hy => by simp [St.putOs, hx, hy]
theorem storeX_ok (st : St) (x : Opd) (n : Nat) (y : SV) : Ok (storeX st x n y) fun z => vstore st x n y = some z := by
  unfold storeX
  split
  · rename_i id p i j a cs h1 h2
    exact Ok.iteF fun h => (putOsX_ok id p i cs j st).mono fun z hz => by unfold vstore; simp only [h1, h2, if_pos h]; exact hz
  · exact Ok.of fun z h => h
theorem srcX_ok (st : St) (p : List OT) (c : C) : Ok (srcX st p c) fun x => srcRows st p c = some x := by
  unfold srcX
  split
  · refine Ok.ofb fun o ho => Ok.bind (subX_ok _ _ _) fun y hy => Ok.ite (fun hb => ?_) fun hb => Ok.iteF fun hb2 => ?_
    · exact Ok.asked fun hl => Ok.pure (by simp only [srcRows, ho, hy, if_pos hl, if_pos hb])
    · refine Ok.asked fun h1 => Ok.asked fun hl => Ok.pure ?_
      simp only [srcRows, ho, hy, if_pos hl]
      rw [if_neg hb, if_pos]
      simp only [Bool.and_eq_true, decide_eq_true_eq] at hb2 ⊢
      exact ⟨hb2.1, hb2.2, h1⟩
  · exact Ok.of fun x h => h
theorem appX_ok (st : St) (d : Nat) (x y : Opd) (p : List OT) (lim : Nat) : Ok (appX st d x y p lim) fun z => vappend st d x y p lim = some z := by
  unfold appX
  refine Ok.ofb fun cx hx => Ok.ofb fun cy hy => Ok.bind (srcX_ok st p cy) fun s hs => ?_
  split
  · exact Ok.asked fun h => (pushX_ok _ _ _ _).mono fun z hz => by simp only [vappend, hx, hy, hs, if_pos h, hz]
  · refine Ok.ofb fun o ho => Ok.iteF fun hb => Ok.asked fun h => (pushX_ok _ _ _ _).mono fun z hz => ?_
    simp only [vappend, hx, hy, hs, ho]
    simp only [Bool.and_eq_true] at hb
    rw [if_pos (by simp only [hb.1, hb.2, Bool.true_and, Bool.and_true, decide_eq_true_eq]; exact h), hz]
  · exact Ok.fail
theorem apprX_ok (st : St) (d : Nat) (x y : Opd) (p : List OT) (lim : Nat) : Ok (apprX st d x y p lim) fun z => vappr st d x y p lim = some z := by
  unfold apprX
  refine Ok.ofb fun cx hx => Ok.ofb fun cy hy => Ok.bind (srcX_ok st p cy) fun s hs => ?_
  split
  · rename_i id r c len hus
    refine Ok.ofb fun o ho => Ok.bind (subX_ok _ _ _) fun z hz => Ok.iteF fun hb => Ok.asked fun h => Ok.bind (frzCoX_ok st id c) fun st1 h1 => Ok.bind (tell_ok _) fun es hes => Ok.pure ?_
    obtain ⟨rows, us⟩ := s
    simp only at hus h hes
    subst hus
    simp only [Bool.and_eq_true] at hb
    simp only [vappr, hx, hy, hs, ho, hz]
    rw [if_pos (by simp only [hb.1, hb.2, Bool.true_and, decide_eq_true_eq]; exact h), h1, hes]
    rfl
  · exact Ok.fail
theorem cpyX_ok (st : St) (d : Nat) (x y : Opd) : Ok (cpyX st d x y) fun z => vcopy st d x y = some z := by
  unfold cpyX
  refine Ok.ofb fun cx hx => Ok.ofb fun cy hy => Ok.bind (srcX_ok st [.sc] cy) fun s hs => ?_
  split
  · refine Ok.ofb fun o ho => Ok.iteF fun hb => Ok.asked fun h => Ok.bind (tell_ok _) fun es he => Ok.bind (size_ok _) fun n hn => Ok.pure ?_
    subst he
    subst hn
    simp only [vcopy, hx, hy, hs, ho]
    rw [if_pos (by simp only [hb, Bool.true_and, decide_eq_true_eq]; exact h)]
  · exact Ok.fail
theorem appSX_ok (st : St) (d : Nat) (x y : Opd) (lim : Nat) : Ok (appSX st d x y lim) fun z => vappendS st d x y lim = some z := by
  unfold appSX
  refine Ok.ofb fun cx hx => ?_
  split
  · rename_i s hs
    split
    · exact Ok.asked fun h => (pushX_ok _ _ _ _).mono fun z hz => by simp only [vappendS, hx, hs, if_pos h, hz]
    · refine Ok.ofb fun o ho => Ok.iteF fun hb => Ok.asked fun h => (pushX_ok _ _ _ _).mono fun z hz => ?_
      simp only [vappendS, hx, hs, ho]
      rw [if_pos (by simp only [hb, Bool.true_and, decide_eq_true_eq]; exact h), hz]
    · exact Ok.fail
  · exact Ok.fail
theorem iadrX_ok (st : St) (k : Int) (n : Nat) (c : C) : Ok (iadrX st k n c) fun x => iadrC st k n c = some x := by
  unfold iadrX
  split
  · exact Ok.iteF fun hp => Ok.took fun rw' => Ok.asked fun h1 => Ok.asked fun h2 => Ok.pure (by simp only [iadrC, if_pos h1, h2, if_pos hp])
  · refine Ok.asked fun h1 => ?_
    split
    · rename_i ot ho
      exact Ok.iteF fun hn => Ok.pure (by simp only [iadrC, if_pos h1, ho, if_pos hn])
    · exact Ok.fail
  · exact Ok.fail
theorem slcX_ok (st : St) (lo hi : Option Opd) (n : Nat) (c : C) : Ok (slcX st lo hi n c) fun x => slcR st lo hi n c = some x := by
  unfold slcX
  split
  · exact Ok.iteF fun hp => Ok.bind (boundsX_ok _ _ _ _) fun b hb => Ok.bind (tell_ok _) fun es he => Ok.pure (by simp only [slcR, if_pos hp, hb, Option.map_some, he])
  · split
    · rename_i ot ho
      exact Ok.iteF fun hn => Ok.bind (boundsX_ok _ _ _ _) fun b hb => Ok.pure (by simp only [slcR, ho, if_pos hn, hb, Option.map_some])
    · exact Ok.fail
  · exact Ok.bind (boundsX_ok _ _ _ _) fun b hb => Ok.pure (by simp only [slcR, hb, Option.map_some])
  · exact Ok.fail
theorem nilX_ok (st : St) (c : C) : Ok (nilX st c) fun x => nilC st c = some x := by
  unfold nilX
  split
  · exact Ok.pure rfl
  · exact Ok.asked fun h => Ok.pure (by simp [nilC, h])
  · exact Ok.asked fun h => Ok.ofb fun o ho => Ok.pure (by simp [nilC, h, ho])
  · exact Ok.fail
theorem rowsAllX_ok (st : St) (p : List OT) : ∀ xs : List Opd, Ok (rowsAllX st p xs) fun r => rowsAll st p xs = some r
  | [] => Ok.pure rfl
  | x :: xs => Ok.ofb fun c hc => Ok.bind (rowsAllX_ok st p xs) fun r hr => Ok.bind (toTsX_ok st p c.2) fun t ht => Ok.pure (by simp [rowsAll, hc, hr, ht])
theorem mgFullX_ok (st : St) : ∀ cs : List C, Ok (mgFullX st cs) fun _ => mgFull st cs = true
  | [] => Ok.pure rfl
  | .ref id p off len :: cs => Ok.ofb fun o ho => Ok.asked fun hl => (mgFullX_ok st cs).mono fun _ h => by simp [mgFull, ho, hl, h]
  | .lit _ :: cs => (mgFullX_ok st cs).mono fun _ h => by simpa [mgFull] using h
  | .ro .. :: cs => (mgFullX_ok st cs).mono fun _ h => by simpa [mgFull] using h
  | .ptr .. :: cs => (mgFullX_ok st cs).mono fun _ h => by simpa [mgFull] using h
  | .rptr .. :: cs => (mgFullX_ok st cs).mono fun _ h => by simpa [mgFull] using h
  | .vptr .. :: cs => (mgFullX_ok st cs).mono fun _ h => by simpa [mgFull] using h
  | .clo .. :: cs => (mgFullX_ok st cs).mono fun _ h => by simpa [mgFull] using h
  | .dead :: cs => (mgFullX_ok st cs).mono fun _ h => by simpa [mgFull] using h
theorem passOneX_ok (st : St) (pm : PM) (x : SV) : Ok (passOneX st pm x) fun a => passOne st pm x = some a := by
  unfold passOneX
  split
  · exact Ok.bind (lendTsX_ok _ _ _) fun t ht => Ok.pure (by simp [passOne, ht])
  · exact Ok.bind (toTsX_ok _ _ _) fun t ht => Ok.pure (by simp [passOne, ht])
  · exact Ok.ofb fun cs hcs => Ok.bind (toTsX_ok _ _ _) fun t ht => Ok.pure (by simp [passOne, ht, hcs])
  · exact Ok.ofb fun o ho => Ok.bind (subX_ok _ _ _) fun y hy => Ok.iteF fun hb => Ok.asked fun hl => Ok.pure (by simp [passOne, ho, hy, hb, hl])
  · exact Ok.bind (toTsX_ok _ _ _) fun t ht => Ok.ofb fun bs hb => Ok.bind (mgFullX_ok _ _) fun _ hf => Ok.pure (by simp [passOne, ht, hb, hf])
  · exact Ok.fail
theorem passAllX_ok (st : St) : ∀ (pms : List PM) (xs : List SV), Ok (passAllX st pms xs) fun a => passAll st pms xs = some a
  | [], [] => Ok.pure rfl
  | [], _ :: _ => Ok.fail
  | _ :: _, [] => Ok.fail
  | pm :: pms, x :: xs => Ok.bind (passOneX_ok st pm x) fun a ha => Ok.bind (passAllX_ok st pms xs) fun b hb => Ok.pure (by simp [passAll, ha, hb])
theorem giveBackX_ok (os : List (Option Ob)) : ∀ (bs : List Back) (ms : List T) (st : St), Ok (giveBackX os bs ms st) fun x => giveBack os bs ms st = some x
  | [], [], st => Ok.pure rfl
  | [], _ :: _, st => Ok.fail
  | .no :: bs, ms, st => (giveBackX_ok os bs ms st).mono fun x hx => by simpa [giveBack] using hx
  | .var id ots :: bs, [], st => Ok.fail
  | .var id ots :: bs, .lit _ :: ms, st => Ok.fail
  | .var id ots :: bs, .sl _ :: ms, st => Ok.fail
  | .var id ots :: bs, .pt ts :: ms, st => Ok.bind (inCsX_ok _ _ _) fun c hc => (giveBackX_ok os bs ms _).mono fun x hx => by simp [giveBack, hc, hx]
  | .obj id p ot :: bs, [], st => Ok.fail
  | .obj id p ot :: bs, .lit _ :: ms, st => Ok.fail
  | .obj id p ot :: bs, .pt _ :: ms, st => Ok.fail
  | .obj id p ot :: bs, .sl es :: ms, st => Ok.ofb fun o ho => Ok.bind (subX_ok _ _ _) fun y hy => Ok.asked fun hl => Ok.bind (updX_ok _ _ _ _) fun es' he => (giveBackX_ok os bs ms _).mono fun x hx => by
      simp only [giveBack, ho, hy, he, if_pos hl]
      exact hx
theorem inRX_ok (st : St) (m : RM) (a : Arg) : Ok (inRX st m a) fun x => inR st m a = some x := by
  unfold inRX
  split
  · exact Ok.bind (inCsX_ok _ _ _) fun c hc => Ok.pure (by simp [inR, hc])
  · exact Ok.bind (inCsX_ok _ _ _) fun c hc => Ok.pure (by simp [inR, hc])
  · exact Ok.fail
theorem inRsX_ok : ∀ (ms : List RM) (ars : List Arg) (st : St), Ok (inRsX st ms ars) fun x => inRs st ms ars = some x
  | [], [], st => Ok.pure rfl
  | [], _ :: _, st => Ok.fail
  | _ :: _, [], st => Ok.fail
  | m :: ms, a :: ars, st => Ok.bind (inRX_ok st m a) fun x hx => Ok.bind (inRsX_ok ms ars x.2) fun y hy => Ok.pure (by simp [inRs, hx, hy])
section
variable {ext : FuncId → List Arg → Option FRes} {tbl : FuncId → Option VF}
theorem callX_ok (st : St) (d : Nat) (f : FuncId) (xs : List SV) : Ok (callX ext tbl st d f xs) fun x => ∃ n, vcall tbl (vrun ext tbl n) st d f xs = some x := by
  unfold callX
  split
  · exact Ok.fail
  · rename_i vf hvf
    refine Ok.bind (passAllX_ok _ _ _) fun ps hps => Ok.iteF fun hc => Ok.took fun r => Ok.asked fun hr => Ok.bind (giveBackX_ok _ _ _ _) fun st2 hst2 => Ok.bind (inRsX_ok _ _ _) fun y hy => ?_
    obtain ⟨n, hr⟩ := hr
    split
    · exact Ok.pure ⟨n, by simp only [vcall, hvf, hps]; rw [if_pos hc]; simp only [hr, hst2, hy]⟩
    · rename_i l st3 hne
      refine Ok.pure ⟨n, ?_⟩
      simp only [vcall, hvf, hps]
      rw [if_pos hc]
      simp only [hr, hst2, hy]
theorem opX_ok (st : St) (o : VOp) : Ok (opX ext tbl st o) fun x => ∃ n, vop tbl (vrun ext tbl n) st o = some x := by
  have base : ∀ o : VOp, (∀ x, vop tbl (fun _ _ => none) st o = some x → ∃ n, vop tbl (vrun ext tbl n) st o = some x) := fun o x h => ⟨0, vop_mono (fun _ _ _ h => by simp at h) h⟩
  cases o with
  | pick d c a b =>
    refine Ok.bind (truth_ok _) fun t ht => Ok.of fun x hx => ⟨0, ?_⟩
    simp only [vop, ht]
    cases t <;> exact hx
  | bin d op x y => exact Ok.ofb fun a ha => Ok.ofb fun b hb => Ok.bind (binX_ok op a b) fun r hr => Ok.pure ⟨0, by simp [vop, ha, hb, hr]⟩
  | len d x =>
    refine Ok.ofb fun c hc => ?_
    unfold lenX
    split
    · exact Ok.bind (r := fun n => n = 0) (Ok.pure rfl) fun n hn => Ok.pure ⟨0, by subst hn; simp [vop, hc]⟩
    · exact Ok.bind (size_ok _) fun n hn => Ok.pure ⟨0, by subst hn; simp [vop, hc]⟩
    · rename_i id p off len
      refine Ok.bind (r := fun n => n = len ∧ ∃ o, st.obj id = some o) (Ok.ofb fun o ho => Ok.pure ⟨rfl, o, ho⟩) fun n hn => Ok.pure ⟨0, ?_⟩
      obtain ⟨rfl, o, ho⟩ := hn
      simp [vop, hc, ho]
    · exact Ok.bind (r := fun _ => False) Ok.fail fun _ h => h.elim
  | lenr d x =>
    simp only [opX]
    split
    · rename_i hc
      exact Ok.pure ⟨0, by simp [vop, hc]⟩
    · rename_i p es hc
      exact Ok.bind (size_ok _) fun n hn => Ok.pure ⟨0, by subst hn; simp [vop, hc]⟩
    · exact Ok.fail
  | idx d x i => exact Ok.ofb fun a ha => Ok.ofb fun b hb => Ok.bind (idxX_ok a b) fun r hr => Ok.pure ⟨0, by simp [vop, ha, hb, hr]⟩
  | sstr d x lo hi =>
    simp only [opX]
    split
    · rename_i s hs
      exact Ok.bind (boundsX_ok _ _ _ _) fun b hb => Ok.pure ⟨0, by simp [vop, hs, hb]⟩
    · exact Ok.fail
  | iadr d x i n => exact Ok.ofb fun c hc => Ok.ofb fun k hk => Ok.bind (iadrX_ok st k n c) fun r hr => Ok.pure ⟨0, by simp [vop, hc, hk, hr]⟩
  | ld d x n agg =>
    simp only [opX]
    exact Ok.iteF fun h => (loadX_ok st d x n agg).mono fun y hy => ⟨0, by simp only [vop, if_pos h, hy]⟩
  | ldo d x n agg =>
    simp only [opX]
    split
    · rename_i id j a b h1
      exact Ok.iteF fun h => (loadX_ok st d x n agg).mono fun y hy => ⟨0, by simp only [vop, h1, if_pos h, hy]⟩
    · exact Ok.fail
  | ldv d x n agg =>
    simp only [opX]
    split
    · rename_i id j h1
      exact Ok.iteF fun h => (loadX_ok st d x n agg).mono fun y hy => ⟨0, by simp only [vop, h1, if_pos h, hy]⟩
    · rename_i id j h1
      exact Ok.iteF fun h => (loadX_ok st d x n agg).mono fun y hy => ⟨0, by simp only [vop, h1, if_pos h, hy]⟩
    · exact Ok.fail
  | st x y n => exact Ok.bind (r := fun z => (st.get y).bind (vstore st x n) = some z) (Ok.ofb fun s hs => (storeX_ok st x n s).mono fun z hz => by simp [hs, hz]) fun z hz => (closeAtX_ok (st.cell x) z).mono fun z2 hz2 => ⟨0, by simp only [vop, hz, Option.bind_some, hz2]⟩
  | lits d p rs => exact Ok.bind (rowsAllX_ok st p rs) fun r hr => Ok.iteF fun hd => (pushX_ok _ _ _ _).mono fun z hz => ⟨0, by simp [vop, hr, hd, hz]⟩
  | mk d n p zero lim => exact Ok.ofb fun k hk => Ok.asked fun h => (pushX_ok _ _ _ _).mono fun z hz => ⟨0, by simp only [vop, hk, if_pos h, hz]⟩
  | litr d vs => exact Ok.iteF fun h => Ok.bind (tell_ok _) fun es he => Ok.pure ⟨0, by subst he; simp only [vop, if_pos h]⟩
  | mkk d n p zero lim id =>
    refine Ok.ofb fun k hk => Ok.asked fun h => ?_
    split
    · rename_i ho
      exact Ok.bind (tell_ok _) fun es he => Ok.bind (size_ok _) fun m hm => Ok.pure ⟨0, by subst he; subst hm; simp only [vop, hk, if_pos h, ho]; rfl⟩
    · exact Ok.fail
  | app d x y p lim => exact (appX_ok st d x y p lim).mono fun z hz => ⟨0, hz⟩
  | appr d x y p lim => exact (apprX_ok st d x y p lim).mono fun z hz => ⟨0, hz⟩
  | apps d x y lim => exact (appSX_ok st d x y lim).mono fun z hz => ⟨0, hz⟩
  | slc d x lo hi n => exact Ok.ofb fun c hc => Ok.bind (slcX_ok st lo hi n c) fun s hs => Ok.pure ⟨0, by simp [vop, hc, hs]⟩
  | eqn d neg x => exact Ok.ofb fun c hc => Ok.bind (nilX_ok st c) fun b hb => Ok.pure ⟨0, by simp [vop, hc, hb]⟩
  | s2b d x =>
    simp only [opX]
    split
    · rename_i s hs
      exact Ok.asked fun h => (pushX_ok _ _ _ _).mono fun z hz => ⟨0, by simp only [vop, hs, if_pos h, hz]⟩
    · exact Ok.fail
  | gix d r len i n =>
    simp only [opX]
    split
    · rename_i vf k h1 h2
      exact Ok.asked fun h => Ok.took fun cs => Ok.asked fun hc => Ok.pure ⟨0, by simp only [vop, h1, h2, if_pos h, hc]⟩
    · exact Ok.fail
  | cvf d c x =>
    refine Ok.ofb fun a ha => ?_
    split
    · exact Ok.took fun n => Ok.asked fun h => Ok.pure ⟨0, by simp [vop, ha, vcvf, h]⟩
    · exact Ok.ofb fun r hr => Ok.pure ⟨0, by simp [vop, ha, hr]⟩
  | cvb d x =>
    simp only [opX]
    split
    · rename_i id p len hs
      refine Ok.iteF fun h => Ok.pure ⟨0, ?_⟩
      obtain ⟨o, ho⟩ := Option.isSome_iff_exists.1 h
      simp [vop, hs, ho]
    · exact Ok.fail
  | b2s d x =>
    refine Ok.ofb fun c hc => Ok.bind (lendTX_ok _ _ _) fun t ht => ?_
    split
    · rename_i es he
      refine Ok.took fun s => Ok.asked fun hs => Ok.pure ⟨0, ?_⟩
      obtain ⟨t1, t2⟩ := t
      simp only at he
      subst he
      simp [vop, hc, ht, hs]
    · exact Ok.fail
  | call d f xs => exact Ok.ofb fun l hl => (callX_ok st d f l).mono fun z ⟨n, hz⟩ => ⟨n, by simp [vop, hl, hz]⟩
  | callc d x xs =>
    simp only [opX]
    split
    · rename_i f caps l h1 h2
      exact Ok.iteF fun h => (callX_ok st d f _).mono fun z ⟨n, hz⟩ => ⟨n, by simp only [vop, h1, h2, if_pos h, hz]⟩
    · exact Ok.fail
  | nil d p => exact (show Ok (xof (vop tbl (fun _ _ => none) st (.nil d p))) _ from Ok.of fun x hx => base _ x hx)
  | cpy d x y => exact (cpyX_ok st d x y).mono fun z hz => ⟨0, hz⟩
  | _ => exact Ok.of fun x hx => base _ x hx
theorem roX1_ok (st : St) (o : ROp) : Ok (roX1 ext tbl st o) fun x => ∃ n, vro1 tbl (vrun ext tbl n) st o = some x := by
  have hdo : Ok (xbind (preAllX st o.fz) fun st1 => opX ext tbl st1 o.op) fun x => ∃ n, (preAll st o.fz).bind (fun st1 => vop tbl (vrun ext tbl n) st1 o.op) = some x :=
    Ok.bind (preAllX_ok _ _) fun st1 h1 => (opX_ok st1 o.op).mono fun x ⟨n, hx⟩ => ⟨n, by simp [h1, hx]⟩
  unfold roX1 vro1
  split
  · rename_i hg
    simp only [hg]
    exact hdo
  · rename_i s want hg
    simp only [hg]
    split
    · rename_i v hs
      split
      · rename_i e
        refine Ok.took fun b => Ok.asked fun he => Ok.ite (fun hb => ?_) fun hb => ?_
        · refine hdo.mono fun x ⟨n, hx⟩ => ⟨n, ?_⟩
          simp only [hs]
          rw [if_pos (he.trans hb)]
          exact hx
        · exact Ok.pure ⟨0, by simp only [hs]; rw [if_neg (by rw [he]; exact hb)]⟩
      · rename_i hne
        refine Ok.pure ⟨0, ?_⟩
        simp only [hs]
    · exact Ok.fail
theorem roX_ok (st : St) (o : ROp) : Ok (roX ext tbl st o) fun x => ∃ n, vro tbl (vrun ext tbl n) st o = some x := by
  unfold roX vro
  cases o.kp with
  | none => exact roX1_ok st o
  | some l => exact Ok.bind (roX1_ok st o) fun st1 ⟨n, h1⟩ => Ok.iteF fun h => Ok.pure ⟨n, by simp only [h1, Option.bind_some]; rw [if_pos h]⟩
theorem opsX_ok : ∀ (l : List ROp) (st : St), Ok (opsX ext tbl st l) fun x => ∃ n, vops tbl (vrun ext tbl n) st l = some x
  | [], st => Ok.pure ⟨0, rfl⟩
  | o :: l, st => Ok.bind (roX_ok st o) fun st1 ⟨n, h1⟩ => (opsX_ok l st1).mono fun x ⟨m, hx⟩ => ⟨max n m, by
      simp only [vops, vro_mono (runs_le (Nat.le_max_left n m)) h1]
      exact vops_mono (runs_le (Nat.le_max_right n m)) hx⟩
end
end Go.Proofs.V

namespace Go.Proofs.V
open Go
inductive Fr where
 | sq (b:VC)
 | bk (id:Nat)
 | lp (keep:List Nat) (c:VC)
inductive Cu where
 | c (c:VC)
 | x (x:VX)
section
variable {ext:FuncId→List Arg→Option FRes} {tbl:FuncId→Option VF}
def EvK (ext:FuncId→List Arg→Option FRes) (tbl:FuncId→Option VF):VX→List Fr→St→(VX→St→Prop)→Prop
 | x,[],st,Q=>Q x st
 | .n,.sq b::K,st,Q=>Ev ext tbl b st fun x st=>EvK ext tbl x K st Q
 | .e i,.sq _::K,st,Q=>EvK ext tbl (.e i) K st Q
 | .r,.sq _::K,st,Q=>EvK ext tbl .r K st Q
 | .n,.bk _::K,st,Q=>EvK ext tbl .n K st Q
 | .e i,.bk id::K,st,Q=>if i=id then EvK ext tbl .n K st Q else EvK ext tbl (.e i) K st Q
 | .r,.bk _::K,st,Q=>EvK ext tbl .r K st Q
 | .n,.lp keep c::K,st,Q=>Ev ext tbl (.loop keep c) st fun x st=>EvK ext tbl x K st Q
 | .e i,.lp _ _::K,st,Q=>EvK ext tbl (.e i) K st Q
 | .r,.lp _ _::K,st,Q=>EvK ext tbl .r K st Q
def EvU (ext:FuncId→List Arg→Option FRes) (tbl:FuncId→Option VF) (u:Cu) (K:List Fr) (st:St) (Q:VX→St→Prop):Prop:=
 match u with
 | .c c=>Ev ext tbl c st fun x st=>EvK ext tbl x K st Q
 | .x x=>EvK ext tbl x K st Q
theorem Ev.loop1 {keep:List Nat} {a:VC} {st:St} {Q:VX→St→Prop} (h:Ev ext tbl a (st.sweep keep) (VX.then (fun st1=>Ev ext tbl (.loop keep a) st1 Q) Q)):Ev ext tbl (.loop keep a) st Q:=by
 obtain ⟨n,x,st1,h1,h2⟩:=h
 cases x with
 | n=>
  obtain ⟨m,y,st2,h3,h4⟩:=h2
  refine ⟨max n m+1,y,st2,?_,h4⟩
  simp only [vexec] at h3 ⊢
  have hb:vexec tbl (vrun ext tbl (max n m+1)) (max n m+1) a (st.sweep keep)=some (.n,st1):=ex_le (by omega) h1
  simp only [vloop,hb]
  exact vloop_mono (fun st r hr=>ex_le (by omega) hr) (by omega) h3
 | e i=>
  refine ⟨n+1,.e i,st1,?_,h2⟩
  have hb:=ex_le (Nat.le_succ n) h1
  simp only [vexec,vloop,hb]
 | r=>
  refine ⟨n+1,.r,st1,?_,h2⟩
  have hb:=ex_le (Nat.le_succ n) h1
  simp only [vexec,vloop,hb]
variable (ext) (tbl) in
def runX:Nat→Cu→List Fr→St→X (Cu×List Fr×St)
 | 0,_,_,_=>xfail
 | n+1,.c c,K,st=>
  match c with
  | .skip=>runX n (.x .n) K st
  | .r _ ops=>xbind (opsX ext tbl st ops) fun st1=>runX n (.x .n) K st1
  | .d _ ops=>xbind (opsX ext tbl st (ops.map (·.2))) fun st1=>runX n (.x .n) K st1
  | .kp keep c=>xpure (.c c,K,st.sweep keep)
  | .pre ps c=>xbind (preAllX st ps) fun st1=>runX n (.c c) K st1
  | .seq a b=>runX n (.c a) (.sq b::K) st
  | .ite o a b=>xbind (xtruth (st.val o)) fun t=>runX n (.c (match t with | true=>a | false=>b)) K st
  | .blk id a=>runX n (.c a) (.bk id::K) st
  | .loop keep a=>xpure (.c a,.lp keep a::K,st.sweep keep)
  | .exit id=>runX n (.x (.e id)) K st
  | .ret=>runX n (.x .r) K st
 | n+1,.x x,K,st=>
  match K with
  | []=>xpure (.x x,[],st)
  | .sq b::K=>
   match x with
   | .n=>runX n (.c b) K st
   | x=>runX n (.x x) K st
  | .bk id::K=>
   match x with
   | .e i=>if i=id then runX n (.x .n) K st else runX n (.x (.e i)) K st
   | x=>runX n (.x x) K st
  | .lp keep a::K=>
   match x with
   | .n=>xpure (.c a,.lp keep a::K,st.sweep keep)
   | x=>runX n (.x x) K st
theorem runX_ok {Q:VX→St→Prop} : ∀ (n:Nat) (u:Cu) (K:List Fr) (st:St),Ok (runX ext tbl n u K st) fun y=>EvU ext tbl y.1 y.2.1 y.2.2 Q→EvU ext tbl u K st Q
 | 0,u,K,st=>Ok.fail
 | n+1,.c c,K,st=>by
  cases c with
  | skip=>exact (runX_ok n (.x .n) K st).mono fun y h hy=>Ev.skip (h hy)
  | r id ops=>
   refine Ok.bind (opsX_ok ops st) fun st1 ⟨m,h1⟩=>(runX_ok (Q:=Q) n (.x .n) K st1).mono fun y h hy=>?_
   exact Ev.r ⟨m,st1,h1,h hy⟩
  | d id ops=>
   refine Ok.bind (opsX_ok (ops.map (·.2)) st) fun st1 ⟨m,h1⟩=>(runX_ok (Q:=Q) n (.x .n) K st1).mono fun y h hy=>?_
   exact ⟨m,.n,st1,by simp [vexec,h1],h hy⟩
  | kp keep c=>
   refine Ok.pure fun hy=>?_
   obtain ⟨m,x,st1,h1,h2⟩:=hy
   exact ⟨m,x,st1,h1,h2⟩
  | pre ps c=>
   refine Ok.bind (preAllX_ok ps st) fun st1 h1=>(runX_ok (Q:=Q) n (.c c) K st1).mono fun y h hy=>?_
   obtain ⟨m,x,st2,h3,h4⟩:=h hy
   exact ⟨m,x,st2,by simp only [vexec,h1,Option.bind_some];exact h3,h4⟩
  | seq a b=>
   refine (runX_ok n (.c a) (.sq b::K) st).mono fun y h hy=>Ev.seq ((h hy).mono fun x st1 hx=>?_)
   cases x <;> exact hx
  | ite o a b=>
   refine Ok.bind (truth_ok _) fun t ht=>(runX_ok (Q:=Q) n _ K st).mono fun y h hy=>?_
   refine Ev.ite ht (fun e=>?_) fun e=>?_
   ·subst e;exact h hy
   ·subst e;exact h hy
  | blk id a=>
   refine (runX_ok n (.c a) (.bk id::K) st).mono fun y h hy=>Ev.blk ((h hy).mono fun x st1 hx=>?_)
   cases x <;> exact hx
  | loop keep a=>
   refine Ok.pure fun hy=>Ev.loop1 (Ev.mono hy fun x st1 hx=>?_)
   cases x <;> exact hx
  | exit id=>exact (runX_ok n (.x (.e id)) K st).mono fun y h hy=>Ev.exit (h hy)
  | ret=>exact (runX_ok n (.x .r) K st).mono fun y h hy=>Ev.ret (h hy)
 | n+1,.x x,K,st=>by
  cases K with
  | nil=>exact Ok.pure fun hy=>hy
  | cons fr K=>
   cases fr with
   | sq b=>
    cases x with
    | n=>exact (runX_ok n (.c b) K st).mono fun y h hy=>h hy
    | e i=>exact (runX_ok n (.x (.e i)) K st).mono fun y h hy=>h hy
    | r=>exact (runX_ok n (.x .r) K st).mono fun y h hy=>h hy
   | bk id=>
    cases x with
    | n=>exact (runX_ok n (.x .n) K st).mono fun y h hy=>h hy
    | e i=>
     simp only [runX]
     refine Ok.ite (fun hi=>(runX_ok (Q:=Q) n (.x .n) K st).mono fun y h hy=>?_) fun hi=>(runX_ok (Q:=Q) n (.x (.e i)) K st).mono fun y h hy=>?_
     ·simp only [EvU,EvK];rw [if_pos hi];exact h hy
     ·simp only [EvU,EvK];rw [if_neg hi];exact h hy
    | r=>exact (runX_ok n (.x .r) K st).mono fun y h hy=>h hy
   | lp keep a=>
    cases x with
    | n=>
     refine Ok.pure fun hy=>Ev.loop1 (Ev.mono hy fun x st1 hx=>?_)
     cases x <;> exact hx
    | e i=>exact (runX_ok n (.x (.e i)) K st).mono fun y h hy=>h hy
    | r=>exact (runX_ok n (.x .r) K st).mono fun y h hy=>h hy
def lenCX:C→X C
 | .ref id p off len=>xbind (xsize len) fun n=>xpure (.ref id p off n)
 | c=>xpure c
theorem lenCX_ok (c:C):Ok (lenCX c) fun x=>x=id c:=by
 cases c with
 | ref id p off len=>exact Ok.bind (size_ok len) fun n hn=>Ok.pure (by rw [hn];rfl)
 | _=>exact Ok.pure rfl
theorem SV.map_id:∀ s:SV,s.map id=s
 | .v a cs=>by simp [SV.map]
 | .tup ss=>by simp [SV.map]
 | .ifc _ _=>by simp [SV.map]
 | .any=>rfl
theorem mapC_id (st:St):st.mapC id=st:=by
 have h1:SV.map (id:C→C)=id:=funext SV.map_id
 have h2:(Option.map (List.map (id:C→C)))=id:=by funext o;cases o <;> simp
 simp [St.mapC,h1,h2]
def relenX (st:St):X St:=St.mapX st lenCX
theorem relenX_ok (st:St):Ok (relenX st) fun x=>x=st:=(stmapX_ok lenCX_ok st).mono fun x hx=>by rw [hx,mapC_id]
variable (ext) (tbl) in
def stepX (n:Nat) (u:Cu) (K:List Fr) (st:St):X (Cu×List Fr×St):=
 xbind (runX ext tbl n u K st) fun y=>xbind (relenX y.2.2) fun st1=>xpure (y.1,y.2.1,st1)
theorem stepX_ok {Q:VX→St→Prop} (n:Nat) (u:Cu) (K:List Fr) (st:St):Ok (stepX ext tbl n u K st) fun y=>EvU ext tbl y.1 y.2.1 y.2.2 Q→EvU ext tbl u K st Q:=
 Ok.bind (runX_ok n u K st) fun y h=>Ok.bind (relenX_ok _) fun st1 h1=>Ok.pure fun hy=>h (by subst h1;exact hy)
def outRX (st:St):RM→SV→X (Arg×List Nat×List Nat)
 | .v ots,.v agg cs=>xbind (toTsX st ots cs) fun t=>xpure (.v agg t.1,t.2,[])
 | .p ots,.v false [.vptr id 0]=>xbind (xof (st.var id)) fun cs=>xbind (toTsX st ots cs) fun t=>xpure (.m (.pt t.1),t.2,[id])
 | _,_=>xfail
def outRsX (st:St):List RM→List Nat→X (List Arg×List Nat×List Nat)
 | [],[]=>xpure ([],[],[])
 | m::ms,k::ks=>xbind (xof (st.slots[k]?)) fun s=>xbind (outRX st m s) fun a=>xbind (outRsX st ms ks) fun b=>xpure (a.1::b.1,a.2.1++b.2.1,a.2.2++b.2.2)
 | _,_=>xfail
def outMX (st:St):List PM→Nat→X (List T×List Nat×List Nat)
 | [],_=>xpure ([],[],[])
 | .ro _::ms,k=>outMX st ms (k+1)
 | .mv _::ms,k=>outMX st ms (k+1)
 | .mb ots::ms,k=>
  xbind (xof (st.slots[k]?)) fun s=>xbind (outMX st ms (k+1)) fun r=>
  match s with
  | .v false [.vptr id 0]=>xbind (xof (st.var id)) fun cs=>xbind (toTsX st ots cs) fun t=>xpure (.pt t.1::r.1,t.2++r.2.1,id::r.2.2)
  | _=>xfail
 | .ms ot::ms,k=>
  xbind (xof (st.slots[k]?)) fun s=>xbind (outMX st ms (k+1)) fun r=>
  match s with
  | .v false [.ref id [] 0 _]=>xbind (xof (st.obj id)) fun o=>if OT.beqs ot o.ot then xpure (.sl o.es::r.1,id::r.2.1,r.2.2) else xfail
  | _=>xfail
 | .mg ots::ms,k=>
  xbind (xof (st.slots[k]?)) fun s=>xbind (outMX st ms (k+1)) fun r=>
  match s with
  | .v _ cs=>xbind (xof (mgOut st ots cs)) fun e=>xpure (e.1++r.1,e.2++r.2.1,r.2.2)
  | _=>xfail
def leaveX (vf:VF) (st:St):X FRes:=
 xbind (outRsX st vf.rm vf.res) fun a=>xbind (outMX st vf.pm 0) fun b=>if distinct (a.2.1++b.2.1)&&distinct (a.2.2++b.2.2) then xpure ⟨a.1,b.1⟩ else xfail
theorem outRX_ok (st:St) (m:RM) (s:SV):Ok (outRX st m s) fun x=>outR st m s=some x:=by
 unfold outRX
 split
 ·exact Ok.bind (toTsX_ok _ _ _) fun t ht=>Ok.pure (by simp [outR,ht])
 ·exact Ok.ofb fun cs hcs=>Ok.bind (toTsX_ok _ _ _) fun t ht=>Ok.pure (by simp [outR,ht,hcs])
 ·exact Ok.fail
theorem outRsX_ok (st:St):∀ (ms:List RM) (ks:List Nat),Ok (outRsX st ms ks) fun x=>outRs st ms ks=some x
 | [],[]=>Ok.pure rfl
 | [],_::_=>Ok.fail
 | _::_,[]=>Ok.fail
 | m::ms,k::ks=>Ok.ofb fun s hs=>Ok.bind (outRX_ok st m s) fun a ha=>Ok.bind (outRsX_ok st ms ks) fun b hb=>Ok.pure (by simp [outRs,hs,ha,hb])
theorem outMX_ok (st:St):∀ (ms:List PM) (k:Nat),Ok (outMX st ms k) fun x=>outM st ms k=some x
 | [],k=>Ok.pure rfl
 | .ro _::ms,k=>(outMX_ok st ms (k+1)).mono fun x hx=>by simpa [outM] using hx
 | .mv _::ms,k=>(outMX_ok st ms (k+1)).mono fun x hx=>by simpa [outM] using hx
 | .mb ots::ms,k=>by
  refine Ok.ofb fun s hs=>Ok.bind (outMX_ok st ms (k+1)) fun r hr=>?_
  split
  ·refine Ok.ofb fun cs hcs=>Ok.bind (toTsX_ok _ _ _) fun t ht=>Ok.pure ?_
   simp [outM,hs,hr,hcs,ht]
  ·exact Ok.fail
 | .ms ot::ms,k=>by
  refine Ok.ofb fun s hs=>Ok.bind (outMX_ok st ms (k+1)) fun r hr=>?_
  split
  ·refine Ok.ofb fun o ho=>Ok.iteF fun hb=>Ok.pure ?_
   simp [outM,hs,hr,ho,hb]
  ·exact Ok.fail
 | .mg ots::ms,k=>by
  refine Ok.ofb fun s hs=>Ok.bind (outMX_ok st ms (k+1)) fun r hr=>?_
  split
  ·refine Ok.ofb fun e he=>Ok.pure ?_
   simp [outM,hs,hr,he]
  ·exact Ok.fail
theorem leaveX_ok (vf:VF) (st:St):Ok (leaveX vf st) fun x=>leave vf st=some x:=by
 unfold leaveX
 refine Ok.bind (outRsX_ok _ _ _) fun a ha=>Ok.bind (outMX_ok _ _ _) fun b hb=>Ok.iteF fun hd=>Ok.pure ?_
 simp only [leave,ha,hb,if_pos hd]
def resX:List Nat→List (Option (Nat×Bool))→St→X St
 | k::ks,some (n,agg)::rc,st=>xbind (if agg||decide (n=1) then loadX st k (.s k) n agg else xfail) fun st1=>resX ks rc st1
 | _::ks,none::rc,st=>resX ks rc st
 | [],_,st=>xpure st
 | _::_,[],st=>xpure st
theorem resX_ok:∀ (ks:List Nat) (rc:List (Option (Nat×Bool))) (st:St),Ok (resX ks rc st) fun x=>resLoad ks rc st=some x
 | k::ks,some (n,agg)::rc,st=>Ok.bind (r:=fun st1=>(if agg||decide (n=1) then vload st k (.s k) n agg else none)=some st1) (Ok.iteF fun h=>(loadX_ok st k (.s k) n agg).mono fun y hy=>by rw [if_pos h,hy]) fun st1 h1=>(resX_ok ks rc st1).mono fun x hx=>by simp only [resLoad,h1,hx]
 | _::ks,none::rc,st=>resX_ok ks rc st
 | [],_,st=>Ok.pure (by simp [resLoad])
 | _::_,[],st=>Ok.pure (by simp [resLoad])
def leave2X (vf:VF) (st:St):X FRes:=xbind (resX vf.res vf.rc st) fun st1=>leaveX vf st1
theorem leave2X_ok (vf:VF) (st:St):Ok (leave2X vf st) fun x=>leave2 vf st=some x:=Ok.bind (resX_ok _ _ st) fun st1 h1=>(leaveX_ok vf st1).mono fun x hx=>by simp [leave2,h1,hx]
def Post (vf:VF) (r:FRes) (x:VX) (st:St):Prop:=(x=.n∨x=.r)∧leave2 vf st=some r
variable (ext) (tbl) in
def finX (vf:VF) (n:Nat) (u:Cu) (K:List Fr) (st:St):X FRes:=
 xbind (runX ext tbl n u K st) fun y=>
 match y with
 | (.x .n,[],st1)=>leave2X vf st1
 | (.x .r,[],st1)=>leave2X vf st1
 | _=>xfail
theorem finX_ok (vf:VF) (n:Nat) (u:Cu) (K:List Fr) (st:St):Ok (finX ext tbl vf n u K st) fun r=>EvU ext tbl u K st (Post vf r):=by
 intro os r os' ps h hp
 have key:Ok (finX ext tbl vf n u K st) fun r=>∀ r',r=r'→EvU ext tbl u K st (Post vf r'):=by
  intro os r os' ps h hp r' e
  subst e
  have:Ok (finX ext tbl vf n u K st) fun r1=>r1=r→EvU ext tbl u K st (Post vf r):=by
   refine Ok.bind (runX_ok (Q:=Post vf r) n u K st) fun y hy=>?_
   split
   ·exact (leave2X_ok vf _).mono fun x hx e=>hy ⟨.inl rfl,by rw [←e];exact hx⟩
   ·exact (leave2X_ok vf _).mono fun x hx e=>hy ⟨.inr rfl,by rw [←e];exact hx⟩
   ·exact Ok.fail
  exact this _ _ _ _ h hp rfl
 exact key _ _ _ _ h hp r rfl
def outX {α:Type} (x:X α) (os:List Orc):Option (α×Prop):=
 match x os with
 | some (a,[],ps)=>some (a,All ps)
 | _=>none
theorem outX_ok {α:Type} {x:X α} {os:List Orc} {a:α} {p:Prop} {r:α→Prop} (h:Ok x r) (hx:outX x os=some (a,p)) (hp:p):r a:=by
 unfold outX at hx
 split at hx
 ·rename_i b ps h1
  simp only [Option.some.injEq,Prod.mk.injEq] at hx
  obtain ⟨rfl,rfl⟩:=hx
  exact h _ _ _ _ h1 hp
 ·simp at hx
theorem go_on {u u' : Cu} {K K' : List Fr} {st st' : St} {Q:VX→St→Prop} (os:List Orc) (n:Nat) {p:Prop} (hp:p) (hn:EvU ext tbl u' K' st' Q) (h:outX (stepX ext tbl n u K st) os=some ((u',K',st'),p)):EvU ext tbl u K st Q:=
 outX_ok (stepX_ok n u K st) h hp hn
theorem go_end {u:Cu} {K:List Fr} {st:St} {vf:VF} {r r' : FRes} (os:List Orc) (n:Nat) {p:Prop} (hp:p) (hr:r' = r) (h:outX (finX ext tbl vf n u K st) os=some (r',p)):EvU ext tbl u K st (Post vf r):=by
 subst hr
 exact outX_ok (r:=fun r=>EvU ext tbl u K st (Post vf r)) (finX_ok vf n u K st) h hp
theorem runs_of {f:FuncId} {vf:VF} {ars:List Arg} {r:FRes} {st:St} (hvf:tbl f=some vf) (hg:vf.given=false) (he:enter vf ars=some st) (h:EvU ext tbl (.c vf.code) [] st (Post vf r)):Runs ext tbl f ars r:=
 Runs.intro hvf hg he h
section
variable {σ ε:Type}
def iterM (b:σ→Option (σ⊕ε)):Nat→σ→Option ε
 | 0,_=>none
 | n+1,s=>
  match b s with
  | none=>none
  | some (.inl s')=>iterM b n s'
  | some (.inr e)=>some e
theorem iterM_mono {b:σ→Option (σ⊕ε)} : ∀ {n m:Nat} {s:σ} {e:ε},n≤m→iterM b n s=some e→iterM b m s=some e
 | 0,m,s,e,_,h=>by simp [iterM] at h
 | n+1,0,s,e,hm,_=>by omega
 | n+1,m+1,s,e,hm,h=>by
  simp only [iterM] at h ⊢
  split at h
  ·simp at h
  ·exact iterM_mono (Nat.le_of_succ_le_succ hm) h
  ·exact h
open Classical in
noncomputable def loopM (b:σ→Option (σ⊕ε)) (s:σ):Option ε:=if h:∃ e n,iterM b n s=some e then some h.choose else none
theorem loopM_some {b:σ→Option (σ⊕ε)} {s:σ} {e:ε} : loopM b s=some e↔∃ n,iterM b n s=some e:=by
 unfold loopM
 constructor
 ·intro h
  split at h
  ·rename_i hx
   simp at h
   subst h
   exact hx.choose_spec
  ·simp at h
 ·rintro ⟨n,h⟩
  have hx:∃ e n,iterM b n s=some e:=⟨e,n,h⟩
  rw [dif_pos hx]
  obtain ⟨m,h2⟩:=hx.choose_spec
  have h3:=iterM_mono (Nat.le_max_left n m) h
  have h4:=iterM_mono (Nat.le_max_right n m) h2
  rw [h3] at h4
  exact h4.symm
theorem loopM_eq (b:σ→Option (σ⊕ε)) (s:σ):loopM b s=match b s with
  | none=>none
  | some (.inl s')=>loopM b s'
  | some (.inr e)=>some e:=by
 have key:∀ e,loopM b s=some e↔(match b s with
  | none=>none
  | some (.inl s')=>loopM b s'
  | some (.inr e)=>some e)=some e:=by
  intro e
  rw [loopM_some]
  constructor
  ·rintro ⟨n,h⟩
   cases n with
   | zero=>simp [iterM] at h
   | succ n=>
    simp only [iterM] at h
    split at h
    ·simp at h
    ·rename_i s' hb
     exact loopM_some.2 ⟨n,h⟩
    ·rename_i e' hb
     exact h
  ·intro h
   split at h
   ·simp at h
   ·rename_i s' hb
    obtain ⟨n,h⟩:=loopM_some.1 h
    exact ⟨n+1,by simp only [iterM,hb];exact h⟩
   ·rename_i e' hb
    exact ⟨1,by simp only [iterM,hb];exact h⟩
 cases h1:loopM b s with
 | some e=>rw [(key e).1 h1]
 | none=>
  cases h2:(match b s with
  | none=>none
  | some (.inl s')=>loopM b s'
  | some (.inr e)=>some e) with
  | none=>rfl
  | some e=>rw [(key e).2 h2] at h1;simp at h1
theorem loop_rule {b:σ→Option (σ⊕ε)} {stJ:σ→St} {u:Cu} {K:List Fr} {Q:VX→St→Prop} {We:ε→Prop}
  (H:∀ s y,b s=some y→(∀ s',y=.inl s'→EvU ext tbl u K (stJ s') Q)→(∀ e,y=.inr e→We e)→EvU ext tbl u K (stJ s) Q) {s:σ} {e:ε} (h:loopM b s=some e) (he:We e):EvU ext tbl u K (stJ s) Q:=by
 replace h:=loopM_some.1 h
 obtain ⟨n,h⟩:=h
 induction n generalizing s with
 | zero=>simp [iterM] at h
 | succ n ih=>
  simp only [iterM] at h
  split at h
  ·simp at h
  ·rename_i s' hb
   exact H s _ hb (fun s'' e=>by simp at e;subst e;exact ih h) (fun e h=>by simp at h)
  ·rename_i e' hb
   simp at h
   subst h
   exact H s _ hb (fun s'' e=>by simp at e) (fun e h=>by simp at h;subst h;exact he)
end
end
end Go.Proofs.V

namespace Go.Proofs.V
open Go
section
variable {α β:Type}
def w64 (x:Int):Int:=IntKind.wrap .i64 x
def wr (k:IntKind) (x:Int):Int:=IntKind.wrap k x
def shrI (k:IntKind) (a b:Int):Int:=a.fdiv (2 ^ min b.toNat k.bits)
def andI (k:IntKind) (x y:Int):Int:=k.wrap (BitVec.ofInt k.bits x &&& BitVec.ofInt k.bits y).toNat
def mxI (x y:Int):Int:=if y > x then y else x
def rd (l:List α) (k:Int):Option α:=if 0≤k then l[k.toNat]? else none
def ck (b:Bool):Option Unit:=if b then some () else none
def sat (s:ByteArray) (k:Int):Option Int:=if 0≤k then (s[k.toNat]?).map (fun c=>(c.toNat:Int)) else none
def rI (k:IntKind) (n:Int):List T:=[.lit (.int k n)]
def rB (b:Bool):List T:=[.lit (.bool b)]
def rS (s:ByteArray):List T:=[.lit (.string s)]
def rL (f:α→List T) (l:List α):List T:=[.sl (l.map f)]
def mkSl (n:Nat) (l:List (Nat×SV)):List SV:=(List.range n).map fun k=>(l.lookup k).getD .any
theorem split_ite {c:Bool} {A B:Option α} {r:α} (h:(if c then A else B)=some r):(c=true∧A=some r)∨(c=false∧B=some r):=by
 cases c with
 | true=>exact .inl ⟨rfl,h⟩
 | false=>exact .inr ⟨rfl,h⟩
theorem bind_some {x:Option α} {f:α→Option β} {r:β} (h:x.bind f=some r):∃ a,x=some a∧f a=some r:=Option.bind_eq_some_iff.1 h
theorem ck_p {p:Prop} [Decidable p] {u:Unit} (h:ck (decide p)=some u):p:=by
 unfold ck at h
 split at h
 ·rename_i h1;exact of_decide_eq_true h1
 ·simp at h
section
variable {l:List α} {k:Int} {x:α}
theorem rd_nn (h:rd l k=some x):0≤k:=by
 unfold rd at h
 split at h
 ·assumption
 ·simp at h
theorem rd_get (h:rd l k=some x):l[k.toNat]? = some x:=by
 unfold rd at h
 split at h
 ·exact h
 ·simp at h
theorem rd_get0 (h:rd l k=some x):l[0+k.toNat]? = some x:=by rw [Nat.zero_add];exact rd_get h
theorem rd_lt (h:rd l k=some x):k < l.length:=by
 have h1:=rd_get h
 have h2:=rd_nn h
 have:=(List.getElem?_eq_some_iff.1 h1).1
 omega
theorem rd_in {n:Nat} (hn:n=l.length) (h:rd l k=some x):0≤k∧k < (n:Int):=⟨rd_nn h,by rw [hn];exact rd_lt h⟩
end
theorem at_row (f:α→List T) {l:List α} {i:Nat} {x:α} (h:l[i]? = some x):(l.map f)[i]? = some (f x):=by rw [List.getElem?_map,h];rfl
theorem set_at {l:List α} {i:Nat} {x:α} (v:α) (h:l[i]? = some x):(l.set i v)[i]? = some v:=by
 have:=(List.getElem?_eq_some_iff.1 h).1
 simp [List.getElem?_set,this]
theorem set_len {l:List α} {n i:Nat} {v:α} (h:n=l.length):n=(l.set i v).length:=by rw [List.length_set];exact h
theorem put_ob (f:α→List T) {l:List α} {i:Nat} {x:α} (v:α) (j:Nat) (c:T) (h:l[i]? = some x) (h2:decide (j < (f x).length)=true) (h3:(f x).set j c=f v) :
  ∃ row,(l.map f)[i]? = some row∧j < row.length∧(l.map f).set i (row.set j c)=(l.set i v).map f:=
 ⟨f x,at_row f h,of_decide_eq_true h2,by rw [h3,List.map_set]⟩
theorem put_ob2 (f:α→List T) {l:List α} {i:Nat} {x y:α} (v:α) (j:Nat) (c:T) (h:(l.set i y)[i]? = some x) (h2:decide (j < (f x).length)=true) (h3:(f x).set j c=f v) :
  ∃ row,((l.set i y).map f)[i]? = some row∧j < row.length∧((l.set i y).map f).set i (row.set j c)=(l.set i v).map f:=
 ⟨f x,at_row f h,of_decide_eq_true h2,by rw [h3,List.map_set,List.set_set,List.map_set]⟩
theorem set_at2 {l:List α} {i:Nat} {y x:α} (v:α) (h:(l.set i y)[i]? = some x):(l.set i v)[i]? = some v:=by
 have h1:=(List.getElem?_eq_some_iff.1 h).1
 simp at h1
 simp [List.getElem?_set,h1]
theorem upd_ob (f:α→List T) (l:List α) (i:Nat) (x v:α) (j:Nat) (c:T) (h3:(f x).set j c=f v):(l.map f).set i ((f x).set j c)=(l.set i v).map f:=by rw [h3,List.map_set]
theorem len_map (f:α→β) {l:List α} {n:Nat} (h:n=l.length):(l.map f).length=n:=by rw [List.length_map,h]
theorem lens (m n:Nat) (h:m=n):m=n:=h
section
variable {lim n1 n2:Nat} (f:α→List T) (l1 l2:List α)
theorem app_ck {u:Unit} (h1:n1=l1.length) (h2:n2=l2.length) (h:ck (decide (l1.length+l2.length≤lim))=some u):n1≤(l1.map f).length∧n1+(((l2.map f).drop 0).take n2).length≤lim:=by
 have:=ck_p h
 subst h1;subst h2
 simp
 omega
theorem app_ck_ro {u:Unit} (h1:n1=l1.length) (h:ck (decide (l1.length+l2.length≤lim))=some u):n1≤(l1.map f).length∧n1+(l2.map f).length≤lim:=by
 have:=ck_p h
 subst h1
 simp
 omega
theorem app_tell (h1:n1=l1.length) (h2:n2=l2.length):(l1.map f).take n1++((l2.map f).drop 0).take n2=(l1++l2).map f:=by
 subst h1;subst h2
 rw [List.take_of_length_le (by simp),List.drop_zero,List.take_of_length_le (by simp),List.map_append]
theorem appr_ck {u:Unit} (h1:n1=l1.length) (h2:n2=l2.length) (h:ck (decide (l1.length+l2.length≤lim))=some u):n1=(l1.map f).length∧n1+(((l2.map f).drop 0).take n2).length≤lim:=by
 have:=ck_p h
 subst h1;subst h2
 simp
 omega
theorem appr_tell (h2:n2=l2.length):l1.map f++((l2.map f).drop 0).take n2=(l1++l2).map f:=by
 subst h2
 rw [List.drop_zero,List.take_of_length_le (by simp),List.map_append]
theorem app_tell_ro (h1:n1=l1.length):(l1.map f).take n1++l2.map f=(l1++l2).map f:=by
 subst h1
 rw [List.take_of_length_le (by simp),List.map_append]
theorem all_le {n:Nat} (h:n=l1.length):0+n≤(l1.map f).length:=by subst h;simp
theorem all_le0 {n:Nat} (h:n=l1.length):n≤(l1.map f).length:=by subst h;simp
theorem all_eq {n:Nat} (h:n=l1.length):n=(l1.map f).length:=by subst h;simp
theorem all_dt {n:Nat} (h:n=l1.length):((l1.map f).drop 0).take n=l1.map f:=by subst h;rw [List.drop_zero,List.take_of_length_le (by simp)]
theorem all_t {n:Nat} (h:n=l1.length):(l1.map f).take n=l1.map f:=by subst h;rw [List.take_of_length_le (by simp)]
end
theorem rep_ob (f:α→List T) (n:Nat) (z:α) (row:List T) (h:row=f z):List.replicate n row=(List.replicate n z).map f:=by rw [h,List.map_replicate]
theorem rep_len (n:Nat) (z:α):n=(List.replicate n z).length:=by simp
theorem sat_nn {s:ByteArray} {k b:Int} (h:sat s k=some b):0≤k:=by
 unfold sat at h
 split at h
 ·assumption
 ·simp at h
theorem sat_at {s:ByteArray} {k b:Int} (h:sat s k=some b):(s[k.toNat]?).map (fun c=>(c.toNat:Int))=some b:=by
 unfold sat at h
 split at h
 ·exact h
 ·simp at h
def bstr (l:List Int):Option ByteArray:=(bytesOf (l.map (rI .u8))).map fun bs=>⟨bs.toArray⟩
theorem bstr_t {l:List Int} {s:ByteArray} (h:bstr l=some s):bytesOf (l.map (rI .u8))=some s.data.toList:=by
 unfold bstr at h
 obtain ⟨bs,h1,h2⟩:=Option.map_eq_some_iff.1 h
 rw [h1,←h2]
theorem not_t {e:Bool} (h:e=false):(!e)=true:=by rw [h];rfl
theorem not_f {e:Bool} (h:e=true):(!e)=false:=by rw [h];rfl
end
end Go.Proofs.V

namespace Go.Proofs.V
open Go
theorem J {a b:Prop} (x:a) (y:b):a∧b:=⟨x,y⟩
theorem J0:True:=trivial
theorem eT:true=true:=rfl
theorem eF:false=false:=rfl
abbrev zT:Orc:=.bit true
abbrev zF:Orc:=.bit false
theorem lm {α β:Type} (f:α→β) (l:List α):(l.map f).length=l.length:=len_map f rfl
theorem ln (n:Nat):n=n:=rfl
theorem qj {α:Type} {a b:α} (h:some a=some b):a=b:=Option.some.inj h
abbrev zi (l:List Int):Orc:=.rows (List.map (rI .i64) l)
abbrev zb (l:List Bool):Orc:=.rows (List.map rB l)
abbrev zn (n:Nat):Orc:=.num n
theorem Ja {α:Type} {c:Prop} (f:α→List T) (l:List α) (y:c):l.length≤(l.map f).length∧(l.map f).take l.length=l.map f∧c:=⟨all_le0 f l rfl,all_t f l rfl,y⟩
abbrev vI (n:Int):Value:=.int .i64 n
abbrev mi (l:List Int):List (List T):=List.map (rI .i64) l
abbrev mb (l:List Bool):List (List T):=List.map rB l
abbrev M (d s:Nat):ROp:={ op:=.mv d (.s s) }
abbrev oF (d s j:Nat):ROp:={ op:=.fadr d (.s s) j }
abbrev oL (d s t:Nat):ROp:={ op:=.ld d (.s s) t false }
abbrev oV (d s t:Nat):ROp:={ op:=.ldv d (.s s) t false }
abbrev oG (d s j:Nat):ROp:={ op:=.fadv d (.s s) j }
abbrev oX (d s i t:Nat):ROp:={ op:=.iadr d (.s s) (.s i) t }
abbrev oS (d s t:Nat):ROp:={ op:=.st (.s d) (.s s) t }
abbrev oK (d:Nat) (b:Bool):ROp:={ op:=.mv d (.k (.bool b)) }
abbrev oN (d:Nat) (n:Int):ROp:={ op:=.mv d (.k (.int .i64 n)) }
abbrev sI (n:Int):SV:=.v false [.lit (.int .i64 n)]
abbrev sB (b:Bool):SV:=.v false [.lit (.bool b)]
abbrev sP (a b:Nat):SV:=.v false [.vptr a b]
abbrev cI (n:Int):C:=.lit (.int .i64 n)
abbrev cB (b:Bool):C:=.lit (.bool b)
abbrev cR {α:Type} (i:Nat) (l:List α):C:=.ref i [] 0 l.length
abbrev jI (l:List Int):Option Ob:=some ⟨[.sc],List.map (rI .i64) l⟩
abbrev jB (l:List Bool):Option Ob:=some ⟨[.sc],List.map rB l⟩
abbrev q3:List OT:=[.sc,.sc,.sc]
abbrev q4:List OT:=[.sc,.sc,.sc,.sc]
abbrev q5:List OT:=[.sc,.sc,.sc,.sc,.ro [.sc]]
structure WJ where
 os:List Orc
 p:Prop
 h:p
def z0:WJ:=⟨[],True,trivial⟩
def wO (o:Orc) (w:WJ):WJ:=⟨o::w.os,w.p,w.h⟩
def wP {a:Prop} (x:a) (w:WJ):WJ:=⟨w.os,a∧w.p,x,w.h⟩
def u1 {c:Bool} (x:c=true) (w:WJ):WJ:=⟨zT::w.os,c=true∧w.p,x,w.h⟩
def v1 {c:Bool} (x:c=false) (w:WJ):WJ:=⟨zF::w.os,c=false∧w.p,x,w.h⟩
def u2 {c:Bool} (x:c=true) (w:WJ):WJ:=u1 x (u1 x w)
def v2 {c:Bool} (x:c=false) (w:WJ):WJ:=v1 x (v1 x w)
def u3 {c:Bool} (x:c=true) (w:WJ):WJ:=u2 x (u1 x w)
def v3 {c:Bool} (x:c=false) (w:WJ):WJ:=v2 x (v1 x w)
def u4 {c:Bool} (x:c=true) (w:WJ):WJ:=u2 x (u2 x w)
def v4 {c:Bool} (x:c=false) (w:WJ):WJ:=v2 x (v2 x w)
def wN (n:Nat) (w:WJ):WJ:=⟨zn n::w.os,n=n∧w.p,rfl,w.h⟩
def wL {α β:Type} (f:α→β) (l:List α) (w:WJ):WJ:=⟨zn l.length::w.os,(l.map f).length=l.length∧w.p,lm f l,w.h⟩
def wA {α:Type} (f:α→List T) (l:List α) (w:WJ):WJ:=⟨w.os,l.length≤(l.map f).length∧(l.map f).take l.length=l.map f∧w.p,Ja f l w.h⟩
def wR {α:Type} (f:α→List T) (l:List α) (w:WJ):WJ:=wO (.rows (List.map f l)) (wA f l w)
theorem gm {ext:FuncId→List Arg→Option FRes} {tbl:FuncId→Option VF} {u:Cu} {K:List Fr} {st:St} {Q:VX→St→Prop} (c:VC) (K' : List Fr) (st' : St) (w:WJ) (hn:EvU ext tbl (.c c) K' st' Q) (h:outX (stepX ext tbl 1000 u K st) w.os=some ((.c c,K',st'),w.p)):EvU ext tbl u K st Q:=go_on w.os 1000 w.h hn h
theorem gw {ext:FuncId→List Arg→Option FRes} {tbl:FuncId→Option VF} {u:Cu} {K:List Fr} {st:St} {Q:VX→St→Prop} {c:VC} {K' : List Fr} {st' : St} (hn:EvU ext tbl (.c c) K' st' Q) (w:WJ) (h:outX (stepX ext tbl 1000 u K st) w.os=some ((.c c,K',st'),w.p)):EvU ext tbl u K st Q:=go_on w.os 1000 w.h hn h
theorem ge {ext:FuncId→List Arg→Option FRes} {tbl:FuncId→Option VF} {u:Cu} {K:List Fr} {st:St} {vf:VF} {r r' : FRes} (w:WJ) (hr:r' = r) (h:outX (finX ext tbl vf 1000 u K st) w.os=some (r',w.p)):EvU ext tbl u K st (Post vf r):=go_end w.os 1000 w.h hr h
end Go.Proofs.V

namespace Go.Proofs.V
open Go
def Dec {α:Type} (p:List Ty) (enc:α→List T) (wf:α→Prop):Prop:=∀ ts,Wts p ts→∃ x,ts=enc x∧wf x
theorem wts_one {q:Ty} {ts:List T} (h:Wts [q] ts):∃ x,ts=[x]∧Wt q x:=by
 obtain ⟨h1,h2⟩:=h
 match ts,h1 with
 | [x],_=>exact ⟨x,rfl,h2 0 q x rfl rfl⟩
def inK (k:IntKind) (n:Int):Prop:=k.min≤n∧n≤k.max
theorem dec_int (k:IntKind):Dec [.int k] (rI k) (inK k):=by
 intro ts h
 obtain ⟨x,rfl,hx⟩:=wts_one h
 cases hx with
 | @int _ n hn=>
  refine ⟨n,rfl,?_⟩
  simp only [Lit.wf,Bool.and_eq_true,decide_eq_true_eq] at hn
  exact hn
theorem dec_sl {α:Type} {p:List Ty} {enc:α→List T} {wf:α→Prop} (h:Dec p enc wf):Dec [.sl p] (rL enc) (fun l=>l.length≤maxLen∧∀ x ∈ l,wf x):=by
 intro ts ht
 obtain ⟨x,rfl,hx⟩:=wts_one ht
 cases hx with
 | @sl _ es hl hr hs=>
  have key:∀ es:List (List T),(∀ row ∈ es,Wts p row)→∃ l:List α,es=l.map enc∧∀ x ∈ l,wf x:=by
   intro es
   induction es with
   | nil=>intro _;exact ⟨[],rfl,by simp⟩
   | cons row es ih=>
    intro hrow
    obtain ⟨x,hx,hw⟩:=h row (hrow row (by simp))
    obtain ⟨l,hl,hwl⟩:=ih fun r hr=>hrow r (by simp [hr])
    exact ⟨x::l,by rw [hx,hl];rfl,by simpa using ⟨hw,hwl⟩⟩
  obtain ⟨l,rfl,hw⟩:=key es (by
   intro row hrow
   obtain ⟨i,hi,rfl⟩:=List.getElem_of_mem hrow
   have he:es[i]? = some es[i]:=List.getElem?_eq_getElem hi
   exact ⟨hr i _ he,fun j q x hq hx=>hs i j _ x q he hx hq⟩)
  exact ⟨l,rfl,by simpa using hl,hw⟩
theorem lookup_mem {α:Type} {f:FuncId} {v:α} : ∀ {l:List (FuncId×α)},l.lookup f=some v→(f,v) ∈ l
 | [],h=>by simp at h
 | (g,u)::l,h=>by
  simp only [List.lookup] at h
  split at h
  ·rename_i e
   simp at e h
   subst e;subst h
   simp
  ·exact List.mem_cons_of_mem _ (lookup_mem h)
theorem table_sound {P:Program} {g:GInv} {l:List (FuncId×VF)} {tbl:FuncId→Option VF} (ht:∀ f,tbl f=l.lookup f) (ext:FuncId→List Arg→Option FRes)
  (hg:∀ x ∈ l,x.2.given=true→∀ ars res st0,enter x.2 ars=some st0→ext x.1 ars=some res→callable P x.1=true∧Does g P x.1 x.2 st0 res)
  (hf:∀ x ∈ l,x.2.given=false→funcIs P tbl x.1 x.2=true) (hb:(l.all fun x=>decide (x.1 < gBase))=true:=by rfl):∀ n,FSound g P tbl (vrun ext tbl n):=
 vrun_sound (fun r vf h=>by
  rw [ht] at h
  have h1:=lookup_mem h
  exact absurd (of_decide_eq_true (List.all_eq_true.1 hb _ h1)) (Nat.not_lt.2 (Nat.le_add_right gBase r))) (fun f vf ars res st0 h h2 h3 h4=>by
  rw [ht] at h
  exact hg _ (lookup_mem h) h2 ars res st0 h3 h4) (fun f vf h h2=>by rw [ht] at h;exact hf _ (lookup_mem h) h2)
theorem given_does {P:Program} {g:GInv} {f:FuncId} {vf:VF} {st0:St} {vals:List Value} {v:Value} {m:Nat} (hv:isLit v=true)
  (hpm:vf.pm=List.replicate m (.ro [.sc])) (hrm:vf.rm=[.v [.sc]]) (hres:vf.res=[m]) (hn:vf.nslots=m+1) (hm:vals.length=m)
  (he:enter vf (vals.map fun x=>.v false [.lit x])=some st0) (hst:st0=⟨vals.map (fun x=>.v false [.lit x])++[undefS],[],[]⟩)
  (hc:∀ w,g.I w→Calls P f vals.toArray w fun e w'=>e=.returned v∧w' = w):Does g P f vf st0 ⟨[.v false [.lit v]],[]⟩:=by
 intro args w Fc Ac O Go Gv hsz ga hrel
 subst hst
 have hal:args.size=m:=by rw [hsz,hpm,List.length_replicate]
 have hargs:args=vals.toArray:=by
  apply Array.ext
  ·simp [hal,hm]
  ·intro i h1 h2
   have h3:i < vals.length:=by simpa using h2
   have h4:(initTm args vf.nslots)[i]? = some args[i]:=by
    unfold initTm
    rw [Array.getElem?_append,if_pos h1]
    simp [h1]
   have h5:=hrel.slots i args[i] (.v false [.lit vals[i]]) h4 (by simp [List.getElem?_append,h3])
   obtain ⟨c,g1,_,g2⟩:=h5
   simp at g1
   subst g1
   simpa [CRel] using g2
 subst hargs
 have hpin:pinsOf vf.pm vals.toArray.toList 0=[]:=by
  rw [hpm]
  have:∀ (k:Nat) (vs:List Value) (j:Nat),pinsOf (List.replicate k (.ro [.sc])) vs j=[]:=by
   intro k
   induction k with
   | zero=>intro vs j;simp [pinsOf]
   | succ k ih=>intro vs j;cases vs with
    | nil=>simp [pinsOf,List.replicate_succ]
    | cons a vs=>simp [pinsOf,List.replicate_succ,PM.isBack,ih]
  exact this m _ 0
 refine (hc w ga.2.2.1).mono ?_
 rintro e w' ⟨rfl,rfl⟩
 refine ⟨v,rfl,Fc,O,Go,Gv,_,_,hrel.put (d:=m) (v:=v) (s:=.v false [.lit v]) (litRel hv) (by rw [hpin];simp),Step.refl _ _,fun _ h=>h,fun _ h=>.inl h,?_,?_⟩
 ·have hsl:(St.set ⟨vals.map (fun x=>SV.v false [.lit x])++[undefS],[],[]⟩ m (.v false [.lit v])).slots[m]? = some (.v false [.lit v]):=by
   simp [St.set,hm]
  have hom:∀ (k j:Nat) (st:St),outM st (List.replicate k (.ro [.sc])) j=some ([],[],[]):=by
   intro k
   induction k with
   | zero=>intro j st;rfl
   | succ k ih=>intro j st;rw [List.replicate_succ];exact ih (j+1) st
  unfold leave
  rw [hrm,hres,hpm,hom]
  simp only [outRs,hsl,Option.bind_some,outR,toTs,toT,hv,if_true]
  rfl
 ·rw [hres]
  have:m < (initTm vals.toArray vf.nslots).size:=by unfold initTm;simp [hn,hm]
  simp [resV,this]
end Go.Proofs.V

namespace Go.Proofs.V
open Go
def gContains (s t:ByteArray):Option Bool:=if s.size < 4294967281 then some (Go.Lib.contains s.data.toList t.data.toList) else none
def gCell (b:Nat):GInv:=⟨b+1,fun w=>∃ m,w.cell? ⟨b,0,none⟩=some (.int .i64 m),fun w w' h ⟨m,hm⟩=>⟨m,by
 unfold World.cell? at hm ⊢
 rw [h b (Nat.lt_succ_self b)]
 exact hm⟩⟩
theorem gCell_le {b:Nat} {w:World} (h:∃ m,w.cell? ⟨b,0,none⟩=some (.int .i64 m)):(gCell b).gl≤w.heap.size:=by
 obtain ⟨m,hm⟩:=h
 show b+1≤w.heap.size
 rcases Nat.lt_or_ge b w.heap.size with h1 | h1
 ·exact h1
 ·unfold World.cell? at hm
  simp [Array.getElem?_eq_none h1] at hm
end Go.Proofs.V

namespace Go.Proofs.V
open Go
theorem w64_id {x:Int} (h1 : -9223372036854775808≤x) (h2:x≤9223372036854775807):w64 x=x:=IntWalk.i64_in x ⟨h1,h2⟩
theorem wu8_id {x:Int} (h1:0≤x) (h2:x≤255):wr .u8 x=x:=IntWalk.u8_in x ⟨h1,h2⟩
theorem wu64_id {x:Int} (h1:0≤x) (h2:x≤18446744073709551615):wr .u64 x=x:=IntWalk.u64_in x ⟨h1,h2⟩
theorem wu32_id {x:Int} (h1:0≤x) (h2:x≤4294967295):wr .u32 x=x:=IntWalk.u32_in x ⟨h1,h2⟩
theorem wu64_eq (x:Int):wr .u64 x=x % 18446744073709551616:=by
 unfold wr IntKind.wrap
 simp [IntKind.bits,IntKind.signed]
theorem wu8_eq (x:Int):wr .u8 x=x % 256:=by
 unfold wr IntKind.wrap
 simp [IntKind.bits,IntKind.signed]
theorem w64_succ {i:Nat} (h:i < 4611686018427387904):w64 ((i:Int)+1)=((i+1:Nat):Int):=by rw [w64_id (by omega) (by omega)];omega
section
variable {α σ τ ε:Type}
theorem loopM_fun {b:τ→Option (τ⊕ε)} (mk:Nat→σ→τ) (n:Nat) (f:Nat→σ) {e:ε} (step:∀ i,i < n→b (mk i (f i))=some (.inl (mk (i+1) (f (i+1))))) (done:b (mk n (f n))=some (.inr e)):loopM b (mk 0 (f 0))=some e:=by
 have key:∀ d i,i+d=n→loopM b (mk i (f i))=some e:=by
  intro d
  induction d with
  | zero=>
   intro i hi
   have:i=n:=by omega
   subst this
   rw [loopM_eq,done]
  | succ d ih=>
   intro i hi
   rw [loopM_eq,step i (by omega)]
   exact ih (i+1) (by omega)
 exact key n 0 (by omega)
theorem loopM_inv {b:τ→Option (τ⊕ε)} (mk:Nat→σ→τ) (n:Nat) (I:Nat→σ→Prop) (R:ε→Prop)
  (step:∀ i s,i < n→I i s→(∃ s',b (mk i s)=some (.inl (mk (i+1) s'))∧I (i+1) s')∨∃ e,b (mk i s)=some (.inr e)∧R e)
  (done:∀ s,I n s→∃ e,b (mk n s)=some (.inr e)∧R e) {s:σ} (h:I 0 s):∃ e,loopM b (mk 0 s)=some e∧R e:=by
 have key:∀ d i s,i+d=n→I i s→∃ e,loopM b (mk i s)=some e∧R e:=by
  intro d
  induction d with
  | zero=>
   intro i s hi hs
   have:i=n:=by omega
   subst this
   obtain ⟨e,h1,h2⟩ :=done s hs
   exact ⟨e,by rw [loopM_eq,h1],h2⟩
  | succ d ih=>
   intro i s hi hs
   rcases step i s (by omega) hs with ⟨s',h1,h2⟩ | ⟨e,h1,h2⟩
   ·rw [loopM_eq,h1]
    exact ih (i+1) s' (by omega) h2
   ·exact ⟨e,by rw [loopM_eq,h1],h2⟩
 exact key n 0 s (by omega) h
theorem rd_eq {l:List α} {i:Nat} (h:i < l.length):rd l (i:Int)=some l[i]:=by
 unfold rd
 rw [if_pos (by omega)]
 simp [h]
theorem rd_eq' {l:List α} {k:Int} {i:Nat} (hk:k=i) (h:i < l.length):rd l k=some l[i]:=by subst hk;exact rd_eq h
theorem ck_eq {p:Prop} [Decidable p] (h:p):ck (decide p)=some ():=by unfold ck;rw [if_pos (by simpa using h)]
theorem fill_set (l:List α) (z:α) (i:Nat) (h:i < l.length):(l.take i++List.replicate (l.length - i) z).set i l[i]=l.take (i+1)++List.replicate (l.length - (i+1)) z:=by
 apply List.ext_getElem?
 intro j
 simp only [List.getElem?_set,List.getElem?_append,List.length_take,List.getElem?_take,List.getElem?_replicate,List.length_append,List.length_replicate]
 by_cases hj:i=j
 ·subst hj
  have h1:min i l.length=i:=by omega
  have h2:min (i+1) l.length=i+1:=by omega
  simp [h1,h2]
  rw [if_pos (by omega),List.getElem?_eq_getElem h]
 ·rw [if_neg hj]
  have h1:min i l.length=i:=by omega
  have h2:min (i+1) l.length=i+1:=by omega
  rw [h1,h2]
  by_cases h3:j < i
  ·rw [if_pos h3,if_pos (show j < i+1 by omega),if_pos h3,if_pos (show j < i+1 by omega)]
  ·rw [if_neg h3,if_neg (show ¬ j < i+1 by omega)]
   by_cases h4:j < l.length
   ·rw [if_pos (by omega),if_pos (by omega)]
   ·rw [if_neg (by omega),if_neg (by omega)]
theorem fill_set0 (l:List α) (z:α) (i:Nat) (h:i < l.length):(l.take i++List.replicate (l.length - i) z).set (0+Int.toNat (i:Int)) l[i]=l.take (i+1)++List.replicate (l.length - (i+1)) z:=by
 rw [Nat.zero_add]
 exact fill_set l z i h
theorem mark_set (g:Nat→α) (l:List α) (i:Nat) (h:i < l.length):((List.range i).map g++l.drop i).set (0+Int.toNat (i:Int)) (g i)=(List.range (i+1)).map g++l.drop (i+1):=by
 apply List.ext_getElem?
 intro j
 simp only [Nat.zero_add,Int.toNat_natCast,List.getElem?_set,List.getElem?_append,List.length_map,List.length_range,List.getElem?_map,List.length_append,List.length_drop,List.getElem?_drop]
 by_cases hj:i=j
 ·subst hj
  rw [if_pos rfl,if_pos (by omega),if_pos (by omega)]
  simp
 ·rw [if_neg hj]
  by_cases h3:j < i
  ·rw [if_pos h3,if_pos (by omega)]
   simp [h3,show j < i+1 by omega]
  ·rw [if_neg h3,if_neg (by omega)]
   congr 1
   omega
end
end Go.Proofs.V

namespace Go.Proofs.V
open Go
theorem if_t {α:Sort _} {c:Prop} [Decidable c] {a b:α} (h:c):(if c then a else b)=a:=if_pos h
theorem if_f {α:Sort _} {c:Prop} [Decidable c] {a b:α} (h : ¬ c):(if c then a else b)=b:=if_neg h
theorem rd_d {α:Type} {l:List α} {i:Nat} (z:α) (h:i < l.length):rd l (i:Int)=some (l.getD i z):=by
 rw [rd_eq h,List.getD_eq_getElem?_getD,List.getElem?_eq_getElem h];rfl
section
variable {α:Type}
theorem to_list {l:List α} {b:Int×List α→Option ((Int×List α)⊕List α)} (step:∀ (i:Nat) (out:List α) (h:i < l.length),out.length=l.length→b ((i:Int),out)=some (.inl (((i+1:Nat):Int),out.set (0+Int.toNat (i:Int)) l[i])))
  (done:∀ out,b ((l.length:Int),out)=some (.inr out)) (z:α):loopM b (0,List.replicate (Int.toNat (l.length:Int)) z)=some l:=by
 have:=loopM_fun (b:=b) (fun i (s:List α)=>((i:Int),s)) l.length (fun i=>l.take i++List.replicate (l.length - i) z) (e:=l) (fun i hi=>by
  rw [step i _ hi (by simp;omega),fill_set0 l z i hi]) (by
  rw [done];simp)
 simpa using this
theorem eq_list {n:Nat} {b:Int→Option (Int⊕(Bool⊕Unit))} (step:∀ i:Nat,i < n→b (i:Int)=some (.inl ((i+1:Nat):Int))) (done:b (n:Int)=some (.inr (.inr ()))):loopM b 0=some (.inr ()):=
 loopM_fun (b:=b) (fun i (s:Unit)=>(i:Int)) n (fun _=>()) step done
theorem sz_list {l:List α} {Sm:α→Prop} {b:Int×Int→Option ((Int×Int)⊕(Int⊕Int))} (step:∀ (left:Int) (i:Nat) (h:i < l.length),0≤left→left≤1048576→b (left,(i:Int))=some (.inr (.inl (-1)))∨∃ left',b (left,(i:Int))=some (.inl (left',((i+1:Nat):Int)))∧0≤left'∧left'≤left∧Sm l[i])
  (done:∀ left,b (left,(l.length:Int))=some (.inr (.inr left))) (left:Int) (h0:0≤left) (h1:left≤1048576) :
  ∃ e,loopM b (left,0)=some e∧(e = .inl (-1)∨∃ s,e = .inr s∧0≤s∧s≤left∧∀ x ∈ l,Sm x):=by
 have key:=loopM_inv (b:=b) (fun i (s:Int)=>(s,(i:Int))) l.length (fun i s=>0≤s∧s≤left∧∀ j,j < i→∀ x,l[j]? = some x→Sm x) (fun e=>e = .inl (-1)∨∃ s,e = .inr s∧0≤s∧s≤left∧∀ x ∈ l,Sm x) ?_ ?_ (s:=left) ⟨h0,by omega,by omega⟩
 ·exact key
 ·rintro i s hi ⟨h3,h4,h5⟩
  rcases step s i hi h3 (by omega) with h6 | ⟨s',h6,h7,h8,h9⟩
  ·exact .inr ⟨_,h6,.inl rfl⟩
  ·refine .inl ⟨s',h6,h7,by omega,?_⟩
   intro j hj x hxj
   by_cases hji:j=i
   ·subst hji
    rw [List.getElem?_eq_getElem hi] at hxj
    simp at hxj
    subst hxj
    exact h9
   ·exact h5 j (by omega) x hxj
 ·rintro s ⟨h3,h4,h5⟩
  refine ⟨.inr s,done s,.inr ⟨s,rfl,h3,h4,?_⟩⟩
  intro x hx'
  obtain ⟨j,hj,e⟩ :=List.getElem_of_mem hx'
  exact h5 j hj x (by rw [List.getElem?_eq_getElem hj,e])
theorem mark_list {Sm:α→Prop} (C:Nat) {b:Int×Int×List α→Option ((Int×Int×List α)⊕(Int×List α))} {bh:List α→Int×Int→Option ((Int×Int)⊕(Int⊕Int))}
  (step:∀ (l:List α) (i k:Nat) (h:i < l.length),l.length≤1048576→k+C≤4611686018427387904→Sm l[i]→∃ x' k' : _,b ((k:Int),(i:Int),l)=some (.inl (((k' : Nat):Int),((i+1:Nat):Int),l.set i x'))∧k≤k'∧k'≤k+C∧
   ∀ (l' : List α) (h' : i < l'.length),l'.length≤1048576→l'[i]=x'→bh l' ((k:Int),(i:Int))=some (.inl ((k' : Int),((i+1:Nat):Int))))
  (done:∀ (l:List α) (k:Int),b (k,(l.length:Int),l)=some (.inr (k,l))) (hdone:∀ (l:List α) (k:Int),bh l (k,(l.length:Int))=some (.inr (.inr k)))
  (l:List α) (k:Nat) (hl:l.length≤1048576) (hk:k+l.length*C≤4611686018427387904) (hs:∀ x ∈ l,Sm x) :
  ∃ (l' : List α) (k' : Nat),loopM b ((k:Int),0,l)=some ((k' : Int),l')∧l'.length=l.length∧k≤k'∧k'≤k+l.length*C∧loopM (bh l') ((k:Int),0)=some (.inr (k' : Int)):=by
 have key:∀ (d i k:Nat) (l:List α),i+d=l.length→l.length≤1048576→k+d*C≤4611686018427387904→(∀ x ∈ l.drop i,Sm x)→
   ∃ (l' : List α) (k' : Nat),loopM b ((k:Int),(i:Int),l)=some ((k' : Int),l')∧l'.length=l.length∧k≤k'∧k'≤k+d*C∧l'.take i=l.take i∧loopM (bh l') ((k:Int),(i:Int))=some (.inr (k' : Int)):=by
  intro d
  induction d with
  | zero=>
   intro i k l hi hl hk hs
   have:i=l.length:=by omega
   subst this
   refine ⟨l,k,?_,rfl,by omega,by omega,rfl,?_⟩
   ·rw [loopM_eq,done]
   ·rw [loopM_eq,hdone]
  | succ d ih=>
   intro i k l hi hl hk hs
   have hlt:i < l.length:=by omega
   rw [Nat.succ_mul] at hk
   obtain ⟨x',k1,h1,h2,h3,h4⟩ :=step l i k hlt hl (by have:0≤d*C:=Nat.zero_le _;omega) (hs _ (by rw [List.drop_eq_getElem_cons hlt];exact List.mem_cons_self))
   obtain ⟨l',k2,g1,g2,g3,g4,g5,g6⟩ :=ih (i+1) k1 (l.set i x') (by simp;omega) (by simpa using hl) (by omega) (by
    intro x hx
    rw [List.drop_set_of_lt (by omega)] at hx
    exact hs x (by rw [List.drop_eq_getElem_cons hlt];exact List.mem_cons_of_mem _ hx))
   simp only [List.length_set] at g2
   have hx:l'[i]'(by omega)=x':=by
    have h5:(l'.take (i+1))[i]? = ((l.set i x').take (i+1))[i]?:=by rw [g5]
    simp only [List.getElem?_take,show i < i+1 by omega,if_true] at h5
    rw [List.getElem?_eq_getElem (by omega),List.getElem?_eq_getElem (by simpa using hlt)] at h5
    simpa using h5
   refine ⟨l',k2,?_,g2,by omega,by rw [Nat.succ_mul];omega,?_,?_⟩
   ·rw [loopM_eq,h1];exact g1
   ·have h5:(l'.take (i+1)).take i=((l.set i x').take (i+1)).take i:=by rw [g5]
    rw [List.take_take,List.take_take,show min i (i+1)=i by omega] at h5
    rw [h5,List.take_set_of_le (by omega)]
   ·rw [loopM_eq,h4 l' (by omega) (by omega) hx];exact g6
 obtain ⟨l',k',h1,h2,h3,h4,_,h6⟩ :=key l.length 0 k l (by omega) hl hk (by simpa using hs)
 exact ⟨l',k',h1,h2,h3,h4,h6⟩
theorem mark_list0 {Sm:α→Prop} (C:Nat) {b:Int×Int×List α→Option ((Int×Int×List α)⊕(Int×List α))}
  (step:∀ (l:List α) (i k:Nat) (h:i < l.length),l.length≤1048576→k+C≤4611686018427387904→Sm l[i]→∃ x' k' : _,b ((k:Int),(i:Int),l)=some (.inl (((k' : Nat):Int),((i+1:Nat):Int),l.set i x'))∧k≤k'∧k'≤k+C)
  (done:∀ (l:List α) (k:Int),b (k,(l.length:Int),l)=some (.inr (k,l)))
  (l:List α) (k:Nat) (hl:l.length≤1048576) (hk:k+l.length*C≤4611686018427387904) (hs:∀ x ∈ l,Sm x) :
  ∃ (l' : List α) (k' : Nat),loopM b ((k:Int),0,l)=some ((k' : Int),l')∧l'.length=l.length∧k≤k'∧k'≤k+l.length*C:=by
 have key:∀ (d i k:Nat) (l:List α),i+d=l.length→l.length≤1048576→k+d*C≤4611686018427387904→(∀ x ∈ l.drop i,Sm x)→
   ∃ (l' : List α) (k' : Nat),loopM b ((k:Int),(i:Int),l)=some ((k' : Int),l')∧l'.length=l.length∧k≤k'∧k'≤k+d*C:=by
  intro d
  induction d with
  | zero=>
   intro i k l hi hl hk hs
   have:i=l.length:=by omega
   subst this
   exact ⟨l,k,by rw [loopM_eq,done],rfl,by omega,by omega⟩
  | succ d ih=>
   intro i k l hi hl hk hs
   have hlt:i < l.length:=by omega
   rw [Nat.succ_mul] at hk
   obtain ⟨x',k1,h1,h2,h3⟩ :=step l i k hlt hl (by have:0≤d*C:=Nat.zero_le _;omega) (hs _ (by rw [List.drop_eq_getElem_cons hlt];exact List.mem_cons_self))
   obtain ⟨l',k2,g1,g2,g3,g4⟩ :=ih (i+1) k1 (l.set i x') (by simp;omega) (by simpa using hl) (by omega) (by
    intro x hx
    rw [List.drop_set_of_lt (by omega)] at hx
    exact hs x (by rw [List.drop_eq_getElem_cons hlt];exact List.mem_cons_of_mem _ hx))
   simp only [List.length_set] at g2
   exact ⟨l',k2,by rw [loopM_eq,h1];exact g1,g2,by omega,by rw [Nat.succ_mul];omega⟩
 exact key l.length 0 k l (by omega) hl hk (by simpa using hs)
end
end Go.Proofs.V

namespace Go.Proofs.V
open Go
section
variable {α σ τ ε:Type}
theorem all_fold {l:List α} (mk:σ→Nat→τ) {q:α→Bool} {g:σ→α→σ} {I:Nat→σ→Prop} {b:τ→Option (τ⊕ε)} {e0:ε} {e1:σ→ε}
  (step:∀ (i:Nat) (s:σ) (h:i < l.length),I i s→(q l[i]=true→b (mk s i)=some (.inl (mk (g s l[i]) (i+1)))∧I (i+1) (g s l[i]))∧(q l[i]=false→b (mk s i)=some (.inr e0)))
  (done:∀ s,I l.length s→b (mk s l.length)=some (.inr (e1 s))) (s0:σ) (h0:I 0 s0):loopM b (mk s0 0)=some (bif l.all q then e1 (l.foldl g s0) else e0):=by
 have key:∀ (d i:Nat) (s:σ),i+d=l.length→I i s→loopM b (mk s i)=some (bif (l.drop i).all q then e1 ((l.drop i).foldl g s) else e0):=by
  intro d
  induction d with
  | zero=>
   intro i s hi hI
   have:i=l.length:=by omega
   subst this
   rw [loopM_eq,done s hI,List.drop_length]
   rfl
  | succ d ih=>
   intro i s hi hI
   have hlt:i < l.length:=by omega
   obtain ⟨h1,h2⟩ :=step i s hlt hI
   rw [loopM_eq,List.drop_eq_getElem_cons hlt]
   simp only [List.all_cons,List.foldl_cons]
   by_cases hq:q l[i]=true
   ·obtain ⟨h3,h4⟩ :=h1 hq
    rw [h3,hq,Bool.true_and]
    exact ih (i+1) _ (by omega) h4
   ·have hq' : q l[i]=false:=by simpa using hq
    rw [h2 hq',hq']
    rfl
 simpa using key l.length 0 s0 (by omega) h0
theorem all_list {l:List α} {q:α→Bool} {b:Int→Option (Int⊕(Bool⊕Unit))} (hl:l.length≤4611686018427387903)
  (step:∀ (i:Nat) (h:i < l.length),b (i:Int)=if q l[i]=true then some (.inl (((i+1:Nat):Int))) else some (.inr (.inl false))) (done:b (l.length:Int)=some (.inr (.inr ()))) :
  loopM b 0=some (bif l.all q then .inr () else .inl false):=by
 have:=all_fold (l:=l) (σ:=Unit) (fun _ i=>(i:Int)) (q:=q) (g:=fun _ _=>()) (I:=fun _ _=>True) (b:=b) (e0:=.inl false) (e1:=fun _=>.inr ())
  (fun i s h _=>⟨fun hq=>⟨by rw [step i h,if_pos hq],trivial⟩,fun hq=>by rw [step i h,if_neg (by simp [hq])]⟩) (fun _ _=>done) () trivial
 exact this
theorem fold_list {l:List α} (mk:σ→Nat→τ) {g:σ→α→σ} {I:Nat→σ→Prop} {b:τ→Option (τ⊕ε)} {e1:σ→ε}
  (step:∀ (i:Nat) (s:σ) (h:i < l.length),I i s→b (mk s i)=some (.inl (mk (g s l[i]) (i+1)))∧I (i+1) (g s l[i]))
  (done:∀ s,I l.length s→b (mk s l.length)=some (.inr (e1 s))) (s0:σ) (h0:I 0 s0):loopM b (mk s0 0)=some (e1 (l.foldl g s0))∧I l.length (l.foldl g s0):=by
 have key:∀ (d i:Nat) (s:σ),i+d=l.length→I i s→loopM b (mk s i)=some (e1 ((l.drop i).foldl g s))∧I l.length ((l.drop i).foldl g s):=by
  intro d
  induction d with
  | zero=>
   intro i s hi hI
   have:i=l.length:=by omega
   subst this
   rw [loopM_eq,done s hI,List.drop_length]
   exact ⟨rfl,hI⟩
  | succ d ih=>
   intro i s hi hI
   have hlt:i < l.length:=by omega
   obtain ⟨h1,h2⟩ :=step i s hlt hI
   rw [loopM_eq,List.drop_eq_getElem_cons hlt,h1]
   exact ih (i+1) _ (by omega) h2
 simpa using key l.length 0 s0 (by omega) h0
theorem fold_range {n:Nat} (mk:σ→Nat→τ) {g:σ→Nat→σ} {I:Nat→σ→Prop} {b:τ→Option (τ⊕ε)} {e1:σ→ε}
  (step:∀ (i:Nat) (s:σ),i < n→I i s→b (mk s i)=some (.inl (mk (g s i) (i+1)))∧I (i+1) (g s i))
  (done:∀ s,I n s→b (mk s n)=some (.inr (e1 s))) (s0:σ) (h0:I 0 s0):loopM b (mk s0 0)=some (e1 ((List.range n).foldl g s0))∧I n ((List.range n).foldl g s0):=by
 have h:=fold_list (l:=List.range n) mk (g:=g) (I:=I) (b:=b) (e1:=e1) (fun i s h hI=>by simpa using step i s (by simpa using h) hI) (fun s hI=>by simpa using done s (by simpa using hI)) s0 h0
 simpa using h
theorem replicate_filled {z v:Int} (n:Nat) {b:Int×Int×List Int→Option ((Int×Int×List Int)⊕List Int)} (hn:n < 4611686018427387904)
  (step:∀ (i:Nat) (l:List Int),i < n→l.length=n→b ((n:Int),(i:Int),l)=some (.inl ((n:Int),((i+1:Nat):Int),l.set (0+Int.toNat (i:Int)) v)))
  (done:∀ l,b ((n:Int),(n:Int),l)=some (.inr l)):loopM b ((n:Int),0,List.replicate n z)=some (List.replicate n v):=by
 refine loopM_fun (b:=b) (fun i (s:List Int)=>((n:Int),(i:Int),s)) n (fun i=>List.replicate i v++List.replicate (n - i) z) (e:=List.replicate n v) (fun i hi=>?_) ?_ |> fun h=>by simpa using h
 ·rw [step i _ hi (by simp;omega)]
  congr 4
  apply List.ext_getElem?
  intro j
  simp only [Nat.zero_add,Int.toNat_natCast,List.getElem?_set,List.getElem?_append,List.length_append,List.length_replicate,List.getElem?_replicate]
  by_cases hj:i=j
  ·subst hj;simp;omega
  ·rw [if_neg hj]
   by_cases h3:j < i
   ·simp [h3,show j < i+1 by omega]
   ·simp only [h3,show ¬ j < i+1 by omega,if_false]
    by_cases h5:j < n
    ·rw [if_pos (by omega),if_pos (by omega)]
    ·rw [if_neg (by omega),if_neg (by omega)]
 ·rw [done];simp
end
end Go.Proofs.V

set_option maxRecDepth 100000
namespace Go.Proofs.V
open Go
abbrev LI:=List Int
structure Za where
 from_:Int
 to_:Int
 lines:(List ByteArray)
 deriving DecidableEq,Inhabited
abbrev LZ:=List Za
structure Zb where
 code:LI
 at_:Int
 seed:Int
 deriving DecidableEq,Inhabited
def rZa (x:Za):List T:=[.lit (.int .i64 x.from_),.lit (.int .i64 x.to_),.sl (x.lines.map rS)]
noncomputable section
def m_Sn_10 (p0:Zb) (a:Int):Option (Int×Zb):=
 if (decide ((w64 (p0.at_+1))≤(p0.code.length:Int))) then
  some (a,(Zb.mk p0.code (w64 (p0.at_+1)) (wr .u64 ((wr .u64 ((wr .u64 (p0.seed*6364136223846793005))+(wr .u64 a)))+1442695040888963407))))
 else
  some ((w64 (andI .u64 (shrI .u64 (wr .u64 ((wr .u64 ((wr .u64 (p0.seed*6364136223846793005))+(wr .u64 a)))+1442695040888963407)) 40) 255)),(Zb.mk p0.code (w64 (p0.at_+1)) (wr .u64 ((wr .u64 ((wr .u64 (p0.seed*6364136223846793005))+(wr .u64 a)))+1442695040888963407))))
def m_Sn_0 (p0:Zb):Option (Int×Zb):=
 if (decide (p0.at_ < (p0.code.length:Int))) then
  (rd p0.code p0.at_).bind fun a=>
  m_Sn_10 p0 (w64 a)
 else
  m_Sn_10 p0 0
def m_Sn (p0:Zb):Option (Int×Zb):=m_Sn_0 p0
def m_Sp_24 (p1 a:Int) (b:LI) (c d:Int):Option (Int×Zb):=
 (ck (decide ((p1:Int)≠0))).bind fun _=>
 some ((Int.tmod a p1),(Zb.mk b c d))
def m_Sp_18 (p1 b:Int) (c:LI) (d e:Int):Option (Int×Zb):=
 if (decide (p1 > 50000)) then
  (m_Sn (Zb.mk c d e)).bind fun a=>
  m_Sp_24 p1 (w64 ((w64 (b*256))+a.1)) a.2.code a.2.at_ a.2.seed
 else
  m_Sp_24 p1 b c d e
def m_Sp_0 (p1:Int) (p0:Zb):Option (Int×Zb):=
 if (decide (p1≤1)) then
  some (0,p0)
 else
  (m_Sn p0).bind fun a=>
  if (decide (p1 > 200)) then
   (m_Sn a.2).bind fun b=>
   m_Sp_18 p1 (w64 ((w64 (a.1*256))+b.1)) b.2.code b.2.at_ b.2.seed
  else
   m_Sp_18 p1 a.1 a.2.code a.2.at_ a.2.seed
def m_Sp (p0:Zb) (p1:Int):Option (Int×Zb):=m_Sp_0 p1 p0
def m_Sq_21 (a:LI) (b c:Int) (d:LI):Option (LI×Zb):=
 some (d,(Zb.mk a b c))
def m_Sq_9 (d a:Int) (e:LI) (f g:Int) (c:LI):Option ((Int×Int×LI×Int×Int×LI)⊕((LI×Int×Int×LI))):=
 if (decide (a < d)) then
  (m_Sp (Zb.mk e f g) 95).bind fun b=>
  (rd c a).bind fun _=>
  some (.inl (d,(w64 (a+1)),b.2.code,b.2.at_,b.2.seed,(c.set (0+Int.toNat a) (wr .u8 (w64 (32+b.1))))))
 else
  some (.inr (e,f,g,c))
def lp_Sq_9 (s:Int×Int×LI×Int×Int×LI):Option ((Int×Int×LI×Int×Int×LI)⊕((LI×Int×Int×LI))):=m_Sq_9 s.1 s.2.1 s.2.2.1 s.2.2.2.1 s.2.2.2.2.1 s.2.2.2.2.2
def m_Sq_0 (p1:Int) (p0:Zb):Option (LI×Zb):=
 (ck (decide ((0:Int)≤p1∧p1≤(140737488355328:Int)))).bind fun _=>
 (loopM (lp_Sq_9) (((Int.toNat p1):Int),0,p0.code,p0.at_,p0.seed,(List.replicate (Int.toNat p1) (0:Int)))).bind fun e=>m_Sq_21 e.1 e.2.1 e.2.2.1 e.2.2.2
def m_Sq (p0:Zb) (p1:Int):Option (LI×Zb):=m_Sq_0 p1 p0
def m_Sj_23:Option (Bool):=
 some false
def m_Sj_7 (p0:ByteArray) (a:Int):Option ((Int)⊕((Bool)⊕((Unit)))):=
 if (decide ((w64 (a+2)) < (p0.size:Int))) then
  (ck (decide ((0:Int)≤(w64 (a+3))∧(w64 (a+3))≤(p0.size:Int)))).bind fun _=>
  (ck (decide ((0:Int)≤a∧a≤((Int.toNat (w64 (a+3))):Int)))).bind fun _=>
  if ((p0.extract (Int.toNat a) (Int.toNat (w64 (a+3)))).toList == (ByteArray.mk #[45,45,62]).toList) then
   some (.inr (.inl true))
  else
   some (.inl (w64 (a+1)))
 else
  some (.inr (.inr ()))
def lp_Sj_7 (p0:ByteArray) (s:Int):Option ((Int)⊕((Bool)⊕((Unit)))):=m_Sj_7 p0 s
def m_Sj_0 (p0:ByteArray):Option (Bool):=
 (loopM (lp_Sj_7 p0) 0).bind fun e=>match e with | .inl e=>some e | .inr e=>m_Sj_23
def m_Sj (p0:ByteArray):Option (Bool):=m_Sj_0 p0
def m_Sm_44 (p1 e:Int) (a:LZ) (f:Int) (g:LI) (h i b c:Int) (d:(List ByteArray)):Option ((Int×Int×LI×Int×Int×LZ)⊕((LI×Int×Int×LZ))):=
 (ck (decide (a.length+([(Za.mk b c d)]:LZ).length≤3518437208883))).bind fun _=>
 some (.inl (f,(w64 (e+1)),g,h,i,(a++([(Za.mk b c d)]:LZ))))
def m_Sm_28 (p1 n:Int) (o:LZ) (d e:Int) (h:LI) (i j f g:Int) (a:(List ByteArray)):Option ((Int×Int×LI×Int×Int×Int×Int×(List ByteArray))⊕((Int×LI×Int×Int×Int×Int×(List ByteArray)))):=
 if (decide (e > 0)) then
  (m_Sp (Zb.mk h i j) 12).bind fun k=>
  (m_Sq k.2 k.1).bind fun b=>
  (bstr b.1).bind fun c=>
  (ck (decide (c.size+(ByteArray.mk #[120]).size≤9223372036854775807))).bind fun _=>
  (ck (decide (a.length+([(c++(ByteArray.mk #[120]))]:List ByteArray).length≤8796093022208))).bind fun _=>
  (rd (a++([(c++(ByteArray.mk #[120]))]:List ByteArray)) (w64 (((a++([(c++(ByteArray.mk #[120]))]:List ByteArray)).length:Int) - 1))).bind fun l=>
  (m_Sj l).bind fun m=>
  if m then
   some (.inl (d,(w64 (e - 1)),b.2.code,b.2.at_,b.2.seed,f,g,((a++([(c++(ByteArray.mk #[120]))]:List ByteArray)).set (0+Int.toNat (w64 (((a++([(c++(ByteArray.mk #[120]))]:List ByteArray)).length:Int) - 1))) (ByteArray.mk #[121]))))
  else
   some (.inl (d,(w64 (e - 1)),b.2.code,b.2.at_,b.2.seed,f,g,(a++([(c++(ByteArray.mk #[120]))]:List ByteArray))))
 else
  some (.inr (d,h,i,j,f,g,a))
def lp_Sm_28 (p1 a:Int) (b:LZ) (s:Int×Int×LI×Int×Int×Int×Int×(List ByteArray)):Option ((Int×Int×LI×Int×Int×Int×Int×(List ByteArray))⊕((Int×LI×Int×Int×Int×Int×(List ByteArray)))):=m_Sm_28 p1 a b s.1 s.2.1 s.2.2.1 s.2.2.2.1 s.2.2.2.2.1 s.2.2.2.2.2.1 s.2.2.2.2.2.2.1 s.2.2.2.2.2.2.2
def m_Sm_46 (a:LI) (b c:Int) (d:LZ):Option (LZ×Zb):=
 some (d,(Zb.mk a b c))
def m_Sm_11 (p1 d f:Int) (h:LI) (i j:Int) (g:LZ):Option ((Int×Int×LI×Int×Int×LZ)⊕((LI×Int×Int×LZ))):=
 if (decide (f < p1)) then
  (m_Sp (Zb.mk h i j) 3000).bind fun a=>
  (m_Sp a.2 2).bind fun b=>
  (m_Sp b.2 9000).bind fun k=>
  (m_Sp k.2 4).bind fun c=>
  (loopM (lp_Sm_28 p1 f g) ((w64 (d+(w64 (a.1*b.1)))),(w64 (1+c.1)),c.2.code,c.2.at_,c.2.seed,(w64 (d+(w64 (a.1*b.1)))),(w64 ((w64 ((w64 (d+(w64 (a.1*b.1))))+1))+k.1)),([]:List ByteArray))).bind fun e=>m_Sm_44 p1 f g e.1 e.2.1 e.2.2.1 e.2.2.2.1 e.2.2.2.2.1 e.2.2.2.2.2.1 e.2.2.2.2.2.2
 else
  some (.inr (h,i,j,g))
def lp_Sm_11 (p1:Int) (s:Int×Int×LI×Int×Int×LZ):Option ((Int×Int×LI×Int×Int×LZ)⊕((LI×Int×Int×LZ))):=m_Sm_11 p1 s.1 s.2.1 s.2.2.1 s.2.2.2.1 s.2.2.2.2.1 s.2.2.2.2.2
def m_Sm_0 (p1:Int) (p0:Zb):Option (LZ×Zb):=
 (m_Sp p0 5000).bind fun a=>
 (loopM (lp_Sm_11 p1) (a.1,0,a.2.code,a.2.at_,a.2.seed,([]:LZ))).bind fun e=>m_Sm_46 e.1 e.2.1 e.2.2.1 e.2.2.2
def m_Sm (p0:Zb) (p1:Int):Option (LZ×Zb):=m_Sm_0 p1 p0
def m_So_0 (p1:Int) (p0:Zb):Option (Bool×Zb):=
 (m_Sp p0 p1).bind fun a=>
 some ((a.1 == 0),a.2)
def m_So (p0:Zb) (p1:Int):Option (Bool×Zb):=m_So_0 p1 p0
def m_Sh_43 (c:LI) (d e f g:Int) (h:(List ByteArray)) (a:LZ):Option (LZ×Zb):=
 (m_Sp (Zb.mk c d e) (a.length:Int)).bind fun b=>
 (rd a b.1).bind fun _=>
 some ((a.set (0+Int.toNat b.1) (Za.mk f g h)),b.2)
def m_Sh_15 (g:Bool×Zb) (c:LZ) (i:Bool):Option (LZ×Zb):=
 if i then
  (m_Sp g.2 (c.length:Int)).bind fun f=>
  (rd c f.1).bind fun a=>
  (m_Sp f.2 6).bind fun b=>
  if (b.1 == 0) then
   m_Sh_43 b.2.code b.2.at_ b.2.seed a.from_ a.from_ a.lines c
  else
   if (b.1 == 1) then
    (ck (decide (a.lines.length+([(ByteArray.mk #[97,32,45,45,62,32,98])]:List ByteArray).length≤8796093022208))).bind fun _=>
    m_Sh_43 b.2.code b.2.at_ b.2.seed a.from_ a.to_ (a.lines++([(ByteArray.mk #[97,32,45,45,62,32,98])]:List ByteArray)) c
   else
    if (b.1 == 2) then
     (m_Sp b.2 6).bind fun d=>
     (rd ([(ByteArray.mk #[]),(ByteArray.mk #[101,110,100,32]),(ByteArray.mk #[97,9,98]),(ByteArray.mk #[32,32,108,101,100]),(ByteArray.mk #[45,45]),(ByteArray.mk #[45,62])]:List ByteArray) d.1).bind fun h=>
     (rd a.lines 0).bind fun _=>
     m_Sh_43 d.2.code d.2.at_ d.2.seed a.from_ a.to_ (a.lines.set (0+Int.toNat 0) h) (c.set (0+Int.toNat f.1) (Za.mk a.from_ a.to_ (a.lines.set (0+Int.toNat 0) h)))
    else
     if (b.1 == 3) then
      m_Sh_43 b.2.code b.2.at_ b.2.seed a.from_ a.to_ ([]:List ByteArray) c
     else
      if (b.1 == 4) then
       m_Sh_43 b.2.code b.2.at_ b.2.seed (-1) a.to_ a.lines c
      else
       (m_Sp b.2 2).bind fun e=>
       m_Sh_43 e.2.code e.2.at_ e.2.seed a.from_ (w64 (359999999+e.1)) a.lines c
 else
  some (c,g.2)
def m_Sh_12 (c:LI) (d e:Int) (a:LZ):Option (LZ×Zb):=
 (m_So (Zb.mk c d e) 4).bind fun b=>
 if b.1 then
  m_Sh_15 b a (decide ((a.length:Int) > 0))
 else
  m_Sh_15 b a false
def m_Sh_0 (p0:LI):Option (LZ×Zb):=
 (m_Sp (Zb.mk p0 0 0) 8).bind fun c=>
 (m_Sm c.2 c.1).bind fun d=>
 (m_So d.2 40).bind fun a=>
 if a.1 then
  (m_Sp a.2 2).bind fun e=>
  (m_Sm e.2 (w64 (200+e.1))).bind fun b=>
  m_Sh_12 b.2.code b.2.at_ b.2.seed b.1
 else
  m_Sh_12 a.2.code a.2.at_ a.2.seed d.1
def m_Sh (p0:LI):Option (LZ×Zb):=m_Sh_0 p0
def m_Sa_23 (a:LZ×Zb) (b c d:Int):Option (LZ×Int×Int×Int):=
 some (a.1,b,c,d)
def m_Sa_0 (p0:LI):Option (LZ×Int×Int×Int):=
 (m_Sh p0).bind fun a=>
 (m_Sp a.2 30).bind fun d=>
 (m_Sp d.2 30).bind fun b=>
 (m_Sp b.2 9000).bind fun e=>
 (m_Sp e.2 12).bind fun c=>
 if (c.1 == 0) then
  (m_Sp c.2 3).bind fun g=>
  (rd ([0,1000000,1000001]:LI) g.1).bind fun f=>
  m_Sa_23 a f (w64 (1+b.1)) (w64 (e.1 - 4000))
 else
  if (c.1 == 1) then
   (m_Sp c.2 3).bind fun f=>
   (rd ([(-359999999),359999999,360000000]:LI) f.1).bind fun h=>
   m_Sa_23 a (w64 (1+d.1)) (w64 (1+b.1)) h
  else
   m_Sa_23 a (w64 (1+d.1)) (w64 (1+b.1)) (w64 (e.1 - 4000))
def m_Sa (p0:LI):Option (LZ×Int×Int×Int):=m_Sa_0 p0
def m_Ig_0 (p0:Int):Option (Bool):=
 if (decide (p0≥0)) then
  some (decide (p0≤359999999))
 else
  some false
def m_Ig (p0:Int):Option (Bool):=m_Ig_0 p0
def m_strings_Contains (p0 p1:ByteArray):Option (Bool):=gContains p0 p1
def m_Ie_25 (p0:ByteArray):Option (Int):=
 (m_strings_Contains p0 (ByteArray.mk #[45,45,62])).bind fun a=>
 if a then
  some 4
 else
  if (decide ((p0.size:Int) > 80)) then
   some 7
  else
   some 0
def m_Ie_7 (p0:ByteArray) (a:Int):Option ((Int)⊕((Int)⊕((Unit)))):=
 if (decide (a < (p0.size:Int))) then
  (sat p0 a).bind fun b=>
  if (decide (b < 32)) then
   some (.inr (.inl 4))
  else
   if (decide (b > 126)) then
    some (.inr (.inl 4))
   else
    some (.inl (w64 (a+1)))
 else
  some (.inr (.inr ()))
def lp_Ie_7 (p0:ByteArray) (s:Int):Option ((Int)⊕((Int)⊕((Unit)))):=m_Ie_7 p0 s
def m_Ie_0 (p0:ByteArray):Option (Int):=
 (loopM (lp_Ie_7 p0) 0).bind fun e=>match e with | .inl e=>some e | .inr e=>m_Ie_25 p0
def m_Ie (p0:ByteArray):Option (Int):=m_Ie_0 p0
def m_Id_33:Option (Bool):=
 some true
def m_Id_15 (p0:Za) (b:Int):Option ((Int)⊕((Bool)⊕((Unit)))):=
 if (decide (b < (p0.lines.length:Int))) then
  (rd p0.lines b).bind fun a=>
  if (a.toList == (ByteArray.mk #[]).toList) then
   some (.inr (.inl false))
  else
   (sat a (w64 ((a.size:Int) - 1))).bind fun c=>
   if (c == 32) then
    some (.inr (.inl false))
   else
    (m_Ie a).bind fun d=>
    if (d != 0) then
     some (.inr (.inl false))
    else
     some (.inl (w64 (b+1)))
 else
  some (.inr (.inr ()))
def lp_Id_15 (p0:Za) (s:Int):Option ((Int)⊕((Bool)⊕((Unit)))):=m_Id_15 p0 s
def m_Id_0 (p0:Za):Option (Bool):=
 if (decide ((p0.lines.length:Int) < 1)) then
  some false
 else
  if (decide ((p0.lines.length:Int) > 4)) then
   some false
  else
   (loopM (lp_Id_15 p0) 0).bind fun e=>match e with | .inl e=>some e | .inr e=>m_Id_33
def m_Id (p0:Za):Option (Bool):=m_Id_0 p0
def m_Ia_33:Option (Bool):=
 some true
def m_Ia_15 (p0:LZ) (a:Int):Option ((Int)⊕((Bool)⊕((Unit)))):=
 if (decide (a < (p0.length:Int))) then
  (rd p0 a).bind fun b=>
  (m_Ig b.from_).bind fun c=>
  if c then
   (m_Ig b.to_).bind fun d=>
   if d then
    if (decide (b.from_≥b.to_)) then
     some (.inr (.inl false))
    else
     (m_Id b).bind fun e=>
     if e then
      if (decide (a > 0)) then
       (rd p0 (w64 (a - 1))).bind fun f=>
       if (decide (b.from_ < f.from_)) then
        some (.inr (.inl false))
       else
        some (.inl (w64 (a+1)))
      else
       some (.inl (w64 (a+1)))
     else
      some (.inr (.inl false))
   else
    some (.inr (.inl false))
  else
   some (.inr (.inl false))
 else
  some (.inr (.inr ()))
def lp_Ia_15 (p0:LZ) (s:Int):Option ((Int)⊕((Bool)⊕((Unit)))):=m_Ia_15 p0 s
def m_Ia_0 (p0:LZ):Option (Bool):=
 if (decide ((p0.length:Int) > 200)) then
  some false
 else
  (loopM (lp_Ia_15 p0) 0).bind fun e=>match e with | .inl e=>some e | .inr e=>m_Ia_33
def m_Ia (p0:LZ):Option (Bool):=m_Ia_0 p0
def m_If_7 (a:Int) (b:Bool):Option (Int):=
 if b then
  some (w64 (a - 1))
 else
  some a
def m_If_0 (p0 p1:Int):Option (Int):=
 (ck (decide ((p1:Int)≠0))).bind fun _=>
 if ((Int.tmod p0 p1) != 0) then
  m_If_7 (w64 (Int.tdiv p0 p1)) (!((decide (p0 < 0)) == (decide (p1 < 0))))
 else
  m_If_7 (w64 (Int.tdiv p0 p1)) false
def m_If (p0 p1:Int):Option (Int):=m_If_0 p0 p1
def m_Ib_37 (a:LZ):Option (LZ):=
 some a
def m_Ib_17 (p1 p2 p3:Int) (p0:LZ) (a:Int) (b:LZ):Option ((Int×LZ)⊕((LZ))):=
 if (decide (a < (p0.length:Int))) then
  (rd p0 a).bind fun c=>
  (m_If (w64 (c.from_*p1)) p2).bind fun e=>
  (m_If (w64 (c.to_*p1)) p2).bind fun d=>
  if (decide ((w64 (d+p3))≤0)) then
   some (.inl ((w64 (a+1)),b))
  else
   if (decide ((w64 (e+p3))≥(w64 (d+p3)))) then
    some (.inl ((w64 (a+1)),b))
   else
    if (decide ((w64 (d+p3)) > 359999999)) then
     some (.inl ((w64 (a+1)),b))
    else
     (ck (decide (([]:List ByteArray).length+c.lines.length≤8796093022208))).bind fun _=>
     (ck (decide (b.length+([(Za.mk (mxI (w64 (e+p3)) 0) (w64 (d+p3)) (([]:List ByteArray)++c.lines))]:LZ).length≤3518437208883))).bind fun _=>
     some (.inl ((w64 (a+1)),(b++([(Za.mk (mxI (w64 (e+p3)) 0) (w64 (d+p3)) (([]:List ByteArray)++c.lines))]:LZ))))
 else
  some (.inr b)
def lp_Ib_17 (p1 p2 p3:Int) (p0:LZ) (s:Int×LZ):Option ((Int×LZ)⊕((LZ))):=m_Ib_17 p1 p2 p3 p0 s.1 s.2
def m_Ib_0 (p0:LZ) (p1 p2 p3:Int):Option (LZ):=
 (m_Ia p0).bind fun a=>
 if a then
  if (decide (p1 < 1)) then
   some ([]:LZ)
  else
   if (decide (p1 > 1000000)) then
    some ([]:LZ)
   else
    if (decide (p2 < 1)) then
     some ([]:LZ)
    else
     if (decide (p2 > 1000000)) then
      some ([]:LZ)
     else
      if (decide (p3 < (-359999999))) then
       some ([]:LZ)
      else
       if (decide (p3 > 359999999)) then
        some ([]:LZ)
       else
        (loopM (lp_Ib_17 p1 p2 p3 p0) (0,([]:LZ))).bind fun e=>m_Ib_37 e
 else
  some ([]:LZ)
def m_Ib (p0:LZ) (p1 p2 p3:Int):Option (LZ):=m_Ib_0 p0 p1 p2 p3
def m_Sl_0 (p0:Int):Option (Bool):=
 if (decide (p0≥0)) then
  some (decide (p0≤359999999))
 else
  some false
def m_Sl (p0:Int):Option (Bool):=m_Sl_0 p0
def m_Sg_23:Option (Bool):=
 some true
def m_Sg_7 (p0:ByteArray) (a:Int):Option ((Int)⊕((Bool)⊕((Unit)))):=
 if (decide (a < (p0.size:Int))) then
  (sat p0 a).bind fun b=>
  if (decide (b < 32)) then
   some (.inr (.inl false))
  else
   if (decide (b > 126)) then
    some (.inr (.inl false))
   else
    some (.inl (w64 (a+1)))
 else
  some (.inr (.inr ()))
def lp_Sg_7 (p0:ByteArray) (s:Int):Option ((Int)⊕((Bool)⊕((Unit)))):=m_Sg_7 p0 s
def m_Sg_0 (p0:ByteArray):Option (Bool):=
 (loopM (lp_Sg_7 p0) 0).bind fun e=>match e with | .inl e=>some e | .inr e=>m_Sg_23
def m_Sg (p0:ByteArray):Option (Bool):=m_Sg_0 p0
def m_Sk_25 (p0:(List ByteArray)):Option (Bool):=
 if (decide ((p0.length:Int)≥1)) then
  some (decide ((p0.length:Int)≤4))
 else
  some false
def m_Sk_7 (p0:(List ByteArray)) (b:Int):Option ((Int)⊕((Bool)⊕((Unit)))):=
 if (decide (b < (p0.length:Int))) then
  (rd p0 b).bind fun a=>
  if (decide ((a.size:Int) < 1)) then
   some (.inr (.inl false))
  else
   if (decide ((a.size:Int) > 80)) then
    some (.inr (.inl false))
   else
    (m_Sg a).bind fun c=>
    if c then
     (sat a (w64 ((a.size:Int) - 1))).bind fun d=>
     if (d == 32) then
      some (.inr (.inl false))
     else
      (m_Sj a).bind fun e=>
      if e then
       some (.inr (.inl false))
      else
       some (.inl (w64 (b+1)))
    else
     some (.inr (.inl false))
 else
  some (.inr (.inr ()))
def lp_Sk_7 (p0:(List ByteArray)) (s:Int):Option ((Int)⊕((Bool)⊕((Unit)))):=m_Sk_7 p0 s
def m_Sk_0 (p0:(List ByteArray)):Option (Bool):=
 (loopM (lp_Sk_7 p0) 0).bind fun e=>match e with | .inl e=>some e | .inr e=>m_Sk_25 p0
def m_Sk (p0:(List ByteArray)):Option (Bool):=m_Sk_0 p0
def m_Sc_33:Option (Bool):=
 some true
def m_Sc_15 (p0:LZ) (a:Int):Option ((Int)⊕((Bool)⊕((Unit)))):=
 if (decide (a < (p0.length:Int))) then
  (rd p0 a).bind fun b=>
  (m_Sl b.from_).bind fun c=>
  if c then
   (m_Sl b.to_).bind fun d=>
   if d then
    if (decide (b.from_≥b.to_)) then
     some (.inr (.inl false))
    else
     (m_Sk b.lines).bind fun e=>
     if e then
      if (decide (a > 0)) then
       (rd p0 (w64 (a - 1))).bind fun f=>
       if (decide (b.from_ < f.from_)) then
        some (.inr (.inl false))
       else
        some (.inl (w64 (a+1)))
      else
       some (.inl (w64 (a+1)))
     else
      some (.inr (.inl false))
   else
    some (.inr (.inl false))
  else
   some (.inr (.inl false))
 else
  some (.inr (.inr ()))
def lp_Sc_15 (p0:LZ) (s:Int):Option ((Int)⊕((Bool)⊕((Unit)))):=m_Sc_15 p0 s
def m_Sc_0 (p0:LZ):Option (Bool):=
 if (decide ((p0.length:Int) > 200)) then
  some false
 else
  (loopM (lp_Sc_15 p0) 0).bind fun e=>match e with | .inl e=>some e | .inr e=>m_Sc_33
def m_Sc (p0:LZ):Option (Bool):=m_Sc_0 p0
def m_Si_0 (p0 p1:Int):Option (Int):=
 (ck (decide ((p1:Int)≠0))).bind fun _=>
 if (decide ((Int.tmod p0 p1) < 0)) then
  some (w64 ((w64 (Int.tdiv p0 p1)) - 1))
 else
  some (w64 (Int.tdiv p0 p1))
def m_Si (p0 p1:Int):Option (Int):=m_Si_0 p0 p1
def m_Sd_43 (p1 p2 p3:Int) (p0:LZ) (e:Int) (a:Za) (b:LZ) (c d:Int):Option ((Int×LZ)⊕((LZ))):=
 (ck (decide (([]:List ByteArray).length+a.lines.length≤8796093022208))).bind fun _=>
 (ck (decide (b.length+([(Za.mk c d (([]:List ByteArray)++a.lines))]:LZ).length≤3518437208883))).bind fun _=>
 some (.inl ((w64 (e+1)),(b++([(Za.mk c d (([]:List ByteArray)++a.lines))]:LZ))))
def m_Sd_49 (a:LZ):Option (LZ):=
 some a
def m_Sd_17 (p1 p2 p3:Int) (p0:LZ) (a:Int) (b:LZ):Option ((Int×LZ)⊕((LZ))):=
 if (decide (a < (p0.length:Int))) then
  (rd p0 a).bind fun d=>
  (m_Si (w64 (d.from_*p1)) p2).bind fun e=>
  (m_Si (w64 (d.to_*p1)) p2).bind fun c=>
  if (decide ((w64 (c+p3))≤0)) then
   some (.inl ((w64 (a+1)),b))
  else
   if (decide ((w64 (e+p3))≥(w64 (c+p3)))) then
    some (.inl ((w64 (a+1)),b))
   else
    if (decide ((w64 (c+p3)) > 359999999)) then
     some (.inl ((w64 (a+1)),b))
    else
     if (decide ((w64 (e+p3)) < 0)) then
      m_Sd_43 p1 p2 p3 p0 a d b 0 (w64 (c+p3))
     else
      m_Sd_43 p1 p2 p3 p0 a d b (w64 (e+p3)) (w64 (c+p3))
 else
  some (.inr b)
def lp_Sd_17 (p1 p2 p3:Int) (p0:LZ) (s:Int×LZ):Option ((Int×LZ)⊕((LZ))):=m_Sd_17 p1 p2 p3 p0 s.1 s.2
def m_Sd_0 (p0:LZ) (p1 p2 p3:Int):Option (LZ):=
 (m_Sc p0).bind fun a=>
 if a then
  if (decide (p1 < 1)) then
   some ([]:LZ)
  else
   if (decide (p1 > 1000000)) then
    some ([]:LZ)
   else
    if (decide (p2 < 1)) then
     some ([]:LZ)
    else
     if (decide (p2 > 1000000)) then
      some ([]:LZ)
     else
      if (decide (p3 < (-359999999))) then
       some ([]:LZ)
      else
       if (decide (p3 > 359999999)) then
        some ([]:LZ)
       else
        (loopM (lp_Sd_17 p1 p2 p3 p0) (0,([]:LZ))).bind fun e=>m_Sd_49 e
 else
  some ([]:LZ)
def m_Sd (p0:LZ) (p1 p2 p3:Int):Option (LZ):=m_Sd_0 p0 p1 p2 p3
def m_Se_55 (p0 p1:LZ) (a:Int):Option ((Int)⊕((Bool)⊕((Unit)))):=
 some (.inl (w64 (a+1)))
def m_Se_37 (p0 p1:LZ) (b:Int) (c:Za) (a:Int):Option ((Int)⊕((Bool)⊕((Unit)))):=
 if (decide (a < (c.lines.length:Int))) then
  (rd p0 b).bind fun d=>
  (rd d.lines a).bind fun e=>
  (rd p1 b).bind fun f=>
  (rd f.lines a).bind fun g=>
  if (e.toList == g.toList) then
   some (.inl (w64 (a+1)))
  else
   some (.inr (.inl false))
 else
  some (.inr (.inr ()))
def lp_Se_37 (p0 p1:LZ) (a:Int) (b:Za) (s:Int):Option ((Int)⊕((Bool)⊕((Unit)))):=m_Se_37 p0 p1 a b s
def m_Se_56:Option (Bool):=
 some true
def m_Se_15 (p0 p1:LZ) (a:Int):Option ((Int)⊕((Bool)⊕((Unit)))):=
 if (decide (a < (p0.length:Int))) then
  (rd p0 a).bind fun b=>
  (rd p1 a).bind fun c=>
  if (b.from_ != c.from_) then
   some (.inr (.inl false))
  else
   if (b.to_ != c.to_) then
    some (.inr (.inl false))
   else
    if ((b.lines.length:Int) != (c.lines.length:Int)) then
     some (.inr (.inl false))
    else
     (loopM (lp_Se_37 p0 p1 a b) 0).bind fun e=>match e with | .inl e=>some (.inr (.inl e)) | .inr e=>m_Se_55 p0 p1 a
 else
  some (.inr (.inr ()))
def lp_Se_15 (p0 p1:LZ) (s:Int):Option ((Int)⊕((Bool)⊕((Unit)))):=m_Se_15 p0 p1 s
def m_Se_0 (p0 p1:LZ):Option (Bool):=
 if ((p0.length:Int) != (p1.length:Int)) then
  some false
 else
  (loopM (lp_Se_15 p0 p1) 0).bind fun e=>match e with | .inl e=>some e | .inr e=>m_Se_56
def m_Se (p0 p1:LZ):Option (Bool):=m_Se_0 p0 p1
def m_Sb_20 (a:LZ×Zb) (b:Int):Option (LZ×Int):=
 some (a.1,b)
def m_Sb_9 (f:Int×Zb) (a:LZ×Zb) (g:Bool) (h:LI) (i j:Int):Option (LZ×Int):=
 if g then
  (m_Sp (Zb.mk h i j) (a.1.length:Int)).bind fun b=>
  (rd a.1 b.1).bind fun c=>
  (m_Sp b.2 3).bind fun d=>
  (m_So d.2 2).bind fun e=>
  if e.1 then
   (m_Sp e.2 2).bind fun k=>
   m_Sb_20 a (w64 ((w64 (c.to_ - 1))+k.1))
  else
   m_Sb_20 a (w64 ((w64 (c.from_ - 1))+d.1))
 else
  m_Sb_20 a f.1
def m_Sb_0 (p0:LI):Option (LZ×Int):=
 (m_Sh p0).bind fun b=>
 (m_Sp b.2 20000).bind fun a=>
 if (decide ((b.1.length:Int) > 0)) then
  (m_So a.2 2).bind fun c=>
  m_Sb_9 a b c.1 c.2.code c.2.at_ c.2.seed
 else
  m_Sb_9 a b false a.2.code a.2.at_ a.2.seed
def m_Sb (p0:LI):Option (LZ×Int):=m_Sb_0 p0
def m_Ic_29 (p1 a:Int) (p0:LZ) (b:LI) (c:Bool):Option ((Int×LI)⊕((LI))):=
 if c then
  (ck (decide (b.length+([a]:LI).length≤17592186044416))).bind fun _=>
  some (.inl ((w64 (a+1)),(b++([a]:LI))))
 else
  some (.inl ((w64 (a+1)),b))
def m_Ic_33 (a:LI):Option (LI):=
 some a
def m_Ic_17 (p1:Int) (p0:LZ) (a:Int) (b:LI):Option ((Int×LI)⊕((LI))):=
 if (decide (a < (p0.length:Int))) then
  (rd p0 a).bind fun c=>
  if (decide (c.from_≤p1)) then
   m_Ic_29 p1 a p0 b (decide (p1 < c.to_))
  else
   m_Ic_29 p1 a p0 b false
 else
  some (.inr b)
def lp_Ic_17 (p1:Int) (p0:LZ) (s:Int×LI):Option ((Int×LI)⊕((LI))):=m_Ic_17 p1 p0 s.1 s.2
def m_Ic_0 (p0:LZ) (p1:Int):Option (LI):=
 (m_Ia p0).bind fun a=>
 if a then
  (m_Ig p1).bind fun b=>
  if b then
   (loopM (lp_Ic_17 p1 p0) (0,([]:LI))).bind fun e=>m_Ic_33 e
  else
   some ([]:LI)
 else
  some ([]:LI)
def m_Ic (p0:LZ) (p1:Int):Option (LI):=m_Ic_0 p0 p1
def m_Sf_29 (p1 a:Int) (p0:LZ) (b:LI) (c:Bool):Option ((Int×LI)⊕((LI))):=
 if c then
  (ck (decide (b.length+([a]:LI).length≤17592186044416))).bind fun _=>
  some (.inl ((w64 (a+1)),(b++([a]:LI))))
 else
  some (.inl ((w64 (a+1)),b))
def m_Sf_33 (a:LI):Option (LI):=
 some a
def m_Sf_17 (p1:Int) (p0:LZ) (a:Int) (b:LI):Option ((Int×LI)⊕((LI))):=
 if (decide (a < (p0.length:Int))) then
  (rd p0 a).bind fun c=>
  if (decide (c.from_≤p1)) then
   m_Sf_29 p1 a p0 b (decide (p1 < c.to_))
  else
   m_Sf_29 p1 a p0 b false
 else
  some (.inr b)
def lp_Sf_17 (p1:Int) (p0:LZ) (s:Int×LI):Option ((Int×LI)⊕((LI))):=m_Sf_17 p1 p0 s.1 s.2
def m_Sf_0 (p0:LZ) (p1:Int):Option (LI):=
 (m_Sc p0).bind fun a=>
 if a then
  (m_Sl p1).bind fun b=>
  if b then
   (loopM (lp_Sf_17 p1 p0) (0,([]:LI))).bind fun e=>m_Sf_33 e
  else
   some ([]:LI)
 else
  some ([]:LI)
def m_Sf (p0:LZ) (p1:Int):Option (LI):=m_Sf_0 p0 p1
def m_La_33:Option (Bool):=
 some true
def m_La_15 (p0 p1:LI) (a:Int):Option ((Int)⊕((Bool)⊕((Unit)))):=
 if (decide (a < (p0.length:Int))) then
  (rd p0 a).bind fun b=>
  (rd p1 a).bind fun c=>
  if (b != c) then
   some (.inr (.inl false))
  else
   some (.inl (w64 (a+1)))
 else
  some (.inr (.inr ()))
def lp_La_15 (p0 p1:LI) (s:Int):Option ((Int)⊕((Bool)⊕((Unit)))):=m_La_15 p0 p1 s
def m_La_0 (p0 p1:LI):Option (Bool):=
 if ((p0.length:Int) != (p1.length:Int)) then
  some false
 else
  (loopM (lp_La_15 p0 p1) 0).bind fun e=>match e with | .inl e=>some e | .inr e=>m_La_33
def m_La (p0 p1:LI):Option (Bool):=m_La_0 p0 p1
def m_laws_FnRetimed_42 (p0:LI) (a:LZ×Int×Int×Int):Option (Bool):=
 (m_Sb p0).bind fun b=>
 (m_Ic a.1 b.2).bind fun c=>
 (m_Sf a.1 b.2).bind fun d=>
 (m_La c d).bind fun e=>
 some e
def m_laws_FnRetimed_22 (p0:LI) (a:LZ×Int×Int×Int) (c:LZ):Option (Bool):=
 (m_Sc a.1).bind fun d=>
 if d then
  (m_Ib a.1 1 1 (w64 (1+(Int.tmod (p0.length:Int) 1000)))).bind fun b=>
  if ((b.length:Int) == (a.1.length:Int)) then
   (m_Ib b 1 1 (w64 (0 - (w64 (1+(Int.tmod (p0.length:Int) 1000)))))).bind fun e=>
   (m_Se e a.1).bind fun f=>
   if f then
    m_laws_FnRetimed_42 p0 a
   else
    some false
  else
   m_laws_FnRetimed_42 p0 a
 else
  some ((c.length:Int) == 0)
def m_laws_FnRetimed_0 (p0:LI):Option (Bool):=
 if (decide ((p0.length:Int) > 1048576)) then
  some true
 else
  (m_Sa p0).bind fun a=>
  (m_Ib a.1 a.2.1 a.2.2.1 a.2.2.2).bind fun b=>
  (m_Sd a.1 a.2.1 a.2.2.1 a.2.2.2).bind fun c=>
  (m_Se b c).bind fun d=>
  if d then
   if (decide ((b.length:Int) > 0)) then
    (m_Ia b).bind fun e=>
    if e then
     m_laws_FnRetimed_22 p0 a b
    else
     some false
   else
    m_laws_FnRetimed_22 p0 a b
  else
   some false
def m_laws_FnRetimed (p0:LI):Option (Bool):=m_laws_FnRetimed_0 p0
end
end Go.Proofs.V

set_option linter.unusedSectionVars false
namespace Go.Proofs.V
open Go
theorem u64_255 {x:Int} (h0:0≤x) (h1:x < 18446744073709551616):0≤andI .u64 x 255∧andI .u64 x 255≤255:=by
 unfold andI
 rw [show IntKind.wrap .u64 ((BitVec.ofInt IntKind.u64.bits x &&& BitVec.ofInt IntKind.u64.bits 255).toNat:Int)=wr .u64 ((BitVec.ofInt IntKind.u64.bits x &&& BitVec.ofInt IntKind.u64.bits 255).toNat:Int) from rfl,wu64_eq]
 have h2:(BitVec.ofInt IntKind.u64.bits x &&& BitVec.ofInt IntKind.u64.bits 255).toNat≤255:=by
  rw [BitVec.toNat_and]
  have:(BitVec.ofInt IntKind.u64.bits 255).toNat=255:=by decide
  rw [this]
  exact Nat.and_le_right
 omega
def CurAt (k:Nat) (c:List Int) (a:Int):Prop:=(∀ x ∈ c,0≤x∧x≤255)∧0≤a∧a≤k
theorem CurAt.le {k n:Nat} {c:List Int} {a:Int} (h:CurAt k c a) (hn:k≤n):CurAt n c a:=⟨h.1,h.2.1,by have:=h.2.2;omega⟩
def Drawn {α:Type} (o:Option (α×Zb)) (k:Nat) (P:α→Prop):Prop:=∃ v co a s,o=some (v,⟨co,a,s⟩)∧P v∧CurAt k co a
theorem wu64_lt (x:Int):0≤wr .u64 x∧wr .u64 x < 18446744073709551616:=by rw [wu64_eq];omega
theorem shr_lt {x:Int} (h:0≤x∧x < 18446744073709551616):0≤shrI .u64 x 40∧shrI .u64 x 40 < 18446744073709551616:=by
 unfold shrI
 have:(2:Int) ^ min (Int.toNat 40) IntKind.u64.bits=1099511627776:=by decide
 rw [this,Int.fdiv_eq_ediv_of_nonneg _ (by omega)]
 omega
theorem next_ok {k:Nat} {co:List Int} {a s:Int} (h:CurAt k co a) (hk:k < 1000000000000):Drawn (m_Sn ⟨co,a,s⟩) (k+1) fun v=>0≤v∧v≤255:=by
 have h1:=h.2.1
 have h2:=h.2.2
 have hw:w64 (a+1)=a+1:=w64_id (by omega) (by omega)
 have go:∀ x:Int,0≤x→x≤255→Drawn (m_Sn_10 ⟨co,a,s⟩ x) (k+1) fun v=>0≤v∧v≤255:=by
  intro x h0 h255
  dsimp only [m_Sn_10]
  rw [hw]
  split
  ·exact ⟨_,_,_,_,rfl,⟨h0,h255⟩,h.1,by omega,by omega⟩
  ·refine ⟨_,_,_,_,rfl,?_,h.1,by omega,by omega⟩
   have h3:=u64_255 (shr_lt (wu64_lt (wr .u64 (wr .u64 (s*6364136223846793005)+wr .u64 x)+1442695040888963407))).1 (shr_lt (wu64_lt _)).2
   dsimp only
   rw [w64_id (by omega) (by omega)]
   exact h3
 dsimp only [m_Sn,m_Sn_0]
 by_cases hq:a < (co.length:Int)
 ·rw [if_pos (by simpa using hq),rd_eq' (i:=a.toNat) (by omega) (by omega)]
  simp only [Option.bind_some]
  have h3:=h.1 co[a.toNat] (by simp)
  rw [w64_id (by omega) (by omega)]
  exact go _ h3.1 h3.2
 ·rw [if_neg (by simpa using hq)]
  exact go 0 (by omega) (by omega)
theorem pick_ok {k:Nat} {co:List Int} {a s:Int} (h:CurAt k co a) (hk:k < 1000000000) (p:Int):Drawn (m_Sp ⟨co,a,s⟩ p) (k+3) fun v=>0≤v∧(v < p∨(p≤1∧v=0)):=by
 dsimp only [m_Sp,m_Sp_0]
 by_cases h1:p≤1
 ·rw [if_pos (by simpa using h1)]
  exact ⟨_,_,_,_,rfl,⟨by omega,.inr ⟨h1,rfl⟩⟩,h.le (by omega)⟩
 ·rw [if_neg (by simpa using h1)]
  have e24:∀ (v:Int) (c:List Int) (b z:Int),0≤v→CurAt (k+3) c b→Drawn (m_Sp_24 p v c b z) (k+3) fun v=>0≤v∧(v < p∨(p≤1∧v=0)):=by
   intro v c b z hv hc
   dsimp only [m_Sp_24]
   rw [ck_eq (by omega)]
   simp only [Option.bind_some]
   refine ⟨_,_,_,_,rfl,?_,hc⟩
   rw [Int.tmod_eq_emod_of_nonneg hv]
   exact ⟨Int.emod_nonneg _ (by omega),.inl (Int.emod_lt_of_pos _ (by omega))⟩
  have e18:∀ (v:Int) (c:List Int) (b z:Int),0≤v→v≤1000000→CurAt (k+2) c b→Drawn (m_Sp_18 p v c b z) (k+3) fun v=>0≤v∧(v < p∨(p≤1∧v=0)):=by
   intro v c b z hv hv2 hc
   dsimp only [m_Sp_18]
   split
   ·obtain ⟨x,c2,b2,z2,e,hx,hc2⟩ :=next_ok (s:=z) hc (by omega)
    rw [e]
    simp only [Option.bind_some]
    refine e24 _ _ _ _ ?_ hc2
    rw [w64_id (x:=v*256) (by omega) (by omega),w64_id (by omega) (by omega)]
    omega
   ·exact e24 _ _ _ _ hv (hc.le (by omega))
  obtain ⟨x,c2,b2,z2,e,hx,hc2⟩ :=next_ok (s:=s) h (by omega)
  rw [e]
  simp only [Option.bind_some]
  split
  ·obtain ⟨y,c3,b3,z3,e,hy,hc3⟩ :=next_ok (s:=z2) hc2 (by omega)
   rw [e]
   simp only [Option.bind_some]
   have:w64 (w64 (x*256)+y)=x*256+y:=by rw [w64_id (x:=x*256) (by omega) (by omega),w64_id (by omega) (by omega)]
   rw [this]
   exact e18 _ _ _ _ (by omega) (by omega) hc3
  ·exact e18 _ _ _ _ (by omega) (by omega) (hc2.le (by omega))
theorem pick_in {k:Nat} {co:List Int} {a s:Int} (h:CurAt k co a) (hk:k < 1000000000) {p:Int} (hp:1≤p):Drawn (m_Sp ⟨co,a,s⟩ p) (k+3) fun v=>0≤v∧v < p:=by
 obtain ⟨v,c,b,z,e,h1,h2⟩ :=pick_ok (s:=s) h hk p
 exact ⟨v,c,b,z,e,⟨h1.1,by omega⟩,h2⟩
theorem one_ok {k:Nat} {co:List Int} {a s:Int} (h:CurAt k co a) (hk:k < 1000000000) (p:Int):Drawn (m_So ⟨co,a,s⟩ p) (k+3) fun _=>True:=by
 dsimp only [m_So,m_So_0]
 obtain ⟨v,c,b,z,e,h1,h2⟩ :=pick_ok (s:=s) h hk p
 rw [e]
 exact ⟨_,_,_,_,rfl,trivial,h2⟩
theorem rd_at_in {α:Type} {l:List α} {x:Int} (h0:0≤x) (h1:x < (l.length:Int)):∃ y,rd l x=some y∧y ∈ l:=by
 obtain ⟨i,rfl⟩:∃ i:Nat,x=i:=⟨x.toNat,by omega⟩
 exact ⟨_,rd_eq (by omega),by simp⟩
theorem text_ok {k:Nat} {co:List Int} {a s:Int} (h:CurAt k co a) (n:Int) (h0:0≤n) (h1:n≤300) (hk:k < 100000000):Drawn (m_Sq ⟨co,a,s⟩ n) (k+1000) fun l=>l.length=n.toNat∧∀ x ∈ l,0≤x∧x≤255:=by
 dsimp only [m_Sq,m_Sq_0]
 rw [ck_eq (by omega)]
 simp only [Option.bind_some]
 obtain ⟨e,h2,h3⟩ :=loopM_inv (b:=lp_Sq_9) (fun i (y:List Int×Int×Int×List Int)=>(((Int.toNat n):Int),(i:Int),y)) n.toNat
  (fun i y=>CurAt (k+3*i) y.1 y.2.1∧y.2.2.2.length=n.toNat∧∀ x ∈ y.2.2.2,0≤x∧x≤255) (fun y=>CurAt (k+1000) y.1 y.2.1∧y.2.2.2.length=n.toNat∧∀ x ∈ y.2.2.2,0≤x∧x≤255)
  (fun i y hi hI=>.inl (by
   obtain ⟨c,b,z,l⟩ :=y
   obtain ⟨x,c2,b2,z2,e,hx,hc2⟩ :=pick_in (s:=z) hI.1 (by omega) (p:=95) (by omega)
   dsimp only [lp_Sq_9,m_Sq_9]
   rw [if_pos (by simp;omega),e]
   simp only [Option.bind_some]
   rw [rd_eq (by have:=hI.2.1;simp only at this;omega)]
   simp only [Option.bind_some]
   rw [w64_succ (by omega),w64_id (x:=32+x) (by omega) (by omega),wu8_id (by omega) (by omega)]
   refine ⟨(c2,b2,z2,_),rfl,hc2,by simpa using hI.2.1,fun y hy=>?_⟩
   rcases List.mem_or_eq_of_mem_set hy with h | h
   ·exact hI.2.2 y h
   ·omega))
  (fun y hI=>by
   obtain ⟨c,b,z,l⟩ :=y
   refine ⟨_,?_,hI.1.le (by omega),hI.2⟩
   dsimp only [lp_Sq_9,m_Sq_9]
   rw [if_neg (by simp)]) (s:=(co,a,s,List.replicate n.toNat 0)) ⟨h.le (by omega),by simp,fun x hx=>by
    have:=List.eq_of_mem_replicate hx;omega⟩
 have h2' : loopM lp_Sq_9 (((Int.toNat n):Int),0,co,a,s,List.replicate n.toNat 0)=some e:=h2
 rw [h2']
 exact ⟨_,_,_,_,rfl,h3.2,h3.1⟩
theorem bytesOf_of:∀ l:List Int,(∀ x ∈ l,0≤x∧x≤255)→∃ bs,bytesOf (l.map (rI .u8))=some bs∧bs.length=l.length
 | [],_=>⟨[],rfl,rfl⟩
 | x::l,h=>by
  obtain ⟨bs,h1,h2⟩ :=bytesOf_of l fun y hy=>h y (by simp [hy])
  have hx:=h x (by simp)
  refine ⟨UInt8.ofNat x.toNat::bs,?_,by simp [h2]⟩
  show (if 0≤x∧x≤255 then (bytesOf (l.map (rI .u8))).map (UInt8.ofNat x.toNat :: ·) else none)=_
  rw [if_pos hx,h1];rfl
theorem bstr_of {l:List Int} (h:∀ x ∈ l,0≤x∧x≤255):∃ s,bstr l=some s∧s.size=l.length:=by
 obtain ⟨bs,h1,h2⟩ :=bytesOf_of l h
 refine ⟨⟨bs.toArray⟩,by unfold bstr;rw [h1];rfl,by rw [←h2];rfl⟩
end Go.Proofs.V

namespace Go.Proofs.V
open Go
def Sm_S_Cue (x:Za):Prop:=x.lines.length≤1048576∧∀ y ∈ x.lines,y.size≤1048576
end Go.Proofs.V

namespace Go.Proofs.V
open Go
abbrev arrow:List UInt8:=[45,45,62]
theorem arrow_eq:(ByteArray.mk #[45,45,62]).data.toList=arrow:=rfl
theorem contains_cons (b:UInt8) (l:List UInt8):Lib.contains (b::l) arrow=(arrow.isPrefixOf (b::l)||Lib.contains l arrow):=by
 unfold Lib.contains
 conv=>lhs;unfold Lib.index
 have:=Lib.index_ge l arrow
 cases h:arrow.isPrefixOf (b::l) with
 | true=>simp
 | false=>
  simp only [Bool.false_or,if_neg (Bool.false_ne_true)]
  by_cases h1:Lib.index l arrow = -1
  ·simp [h1]
  ·have h2:(Lib.index l arrow == -1)=false:=by simpa using h1
   rw [h2]
   simp only [Bool.false_eq_true,if_false]
   congr 1
   apply propext
   constructor <;> intro <;> omega
theorem contains_short:∀ (l:List UInt8),l.length≤2→Lib.contains l arrow=false
 | [],_=>rfl
 | [a],_=>by rw [contains_cons];simp [List.isPrefixOf];rfl
 | [a,b],_=>by rw [contains_cons,contains_cons];simp [List.isPrefixOf];rfl
 | a::b::c::l,h=>by simp at h
theorem has_go (s:ByteArray) (hs:s.size≤1048576) (n:Nat):∀ i:Nat,s.size≤i+n→i≤s.size→loopM (lp_Sj_7 s) (i:Int)=some (if Lib.contains (s.data.toList.drop i) arrow then .inl true else .inr ()):=by
 have hl:s.data.toList.length=s.size:=rfl
 induction n with
 | zero=>
  intro i hi h2
  rw [loopM_eq]
  simp only [lp_Sj_7,m_Sj_7]
  rw [w64_id (by omega) (by omega),if_neg (by simp;omega),contains_short _ (by rw [List.length_drop];omega)]
  rfl
 | succ n ih=>
  intro i hi h2
  rw [loopM_eq]
  simp only [lp_Sj_7,m_Sj_7]
  by_cases h3:i+2 < s.size
  ·rw [w64_id (by omega) (by omega),if_pos (by simp;omega),w64_id (x:=(i:Int)+3) (by omega) (by omega),ck_eq (by omega)]
   simp only [Option.bind_some]
   rw [ck_eq (by omega)]
   simp only [Option.bind_some]
   have e1:Int.toNat ((i:Int)+3)=i+3:=by omega
   have e2:=Lib.occ_of_piece s (ByteArray.mk #[45,45,62]) i (by show i+3≤_;omega)
   have e3:(ByteArray.mk #[45,45,62]).size=3:=rfl
   rw [e3] at e2
   rw [e1,Int.toNat_natCast,←e2]
   have h4:i < s.data.toList.length:=by omega
   have e4:s.data.toList.drop i=s.data.toList[i]::s.data.toList.drop (i+1):=List.drop_eq_getElem_cons h4
   have e5:Lib.contains (s.data.toList.drop i) arrow=(Lib.occAt s.data.toList (ByteArray.mk #[45,45,62]).data.toList i||Lib.contains (s.data.toList.drop (i+1)) arrow):=by
    unfold Lib.occAt
    rw [arrow_eq,e4,contains_cons]
   rw [e5]
   cases Lib.occAt s.data.toList (ByteArray.mk #[45,45,62]).data.toList i with
   | true=>rfl
   | false=>
    simp only [Bool.false_or]
    rw [if_neg (by simp),w64_succ (by omega)]
    exact ih (i+1) (by omega) (by omega)
  ·rw [w64_id (by omega) (by omega),if_neg (by simp;omega),contains_short _ (by rw [List.length_drop];omega)]
   rfl
theorem s_has (s:ByteArray) (hs:s.size≤1048576):m_Sj s=some (Lib.contains s.data.toList arrow):=by
 simp only [m_Sj,m_Sj_0]
 have:=has_go s hs s.size 0 (by omega) (by omega)
 rw [List.drop_zero] at this
 have h2:loopM (lp_Sj_7 s) (0:Int)=_:=this
 rw [h2]
 cases Lib.contains s.data.toList arrow <;> rfl
def okByte (b:UInt8):Bool:=decide (32≤b.toNat∧b.toNat≤126)
theorem sat_list {s:ByteArray} {i:Nat} (h:i < s.data.toList.length):sat s (i:Int)=some ((s.data.toList[i].toNat:Nat):Int):=by
 unfold sat
 rw [if_pos (by omega)]
 have h2:i < s.size:=h
 simp only [Int.toNat_natCast]
 show ((s.data[i]?).map fun c:UInt8=>(c.toNat:Int))=_
 have h3:i < s.data.size:=h
 rw [Array.getElem?_eq_getElem h3]
 rfl
theorem bytes_loop {ε:Type} (s:ByteArray) (hs:s.size≤1048576) (e0:ε) (b:Int→Option (Int⊕(ε⊕Unit)))
  (hb:∀ i,b i=if (decide (i < (s.size:Int))) then (sat s i).bind fun x=>if (decide (x < 32)) then some (.inr (.inl e0)) else if (decide (x > 126)) then some (.inr (.inl e0)) else some (.inl (w64 (i+1))) else some (.inr (.inr ()))) :
  loopM b 0=some (bif s.data.toList.all okByte then .inr () else .inl e0):=by
 have hl:s.data.toList.length=s.size:=rfl
 have:=all_fold (l:=s.data.toList) (σ:=Unit) (fun _ i=>(i:Int)) (q:=okByte) (g:=fun _ _=>()) (I:=fun _ _=>True) (b:=b) (e0:=.inl e0) (e1:=fun _=>.inr ())
  (fun i s' h _=>?_) (fun _ _=>?_) () trivial
 ·exact this
 ·have hx:=sat_list h
  rw [hb,if_pos (by simp;omega),hx]
  simp only [Option.bind_some,okByte]
  generalize s.data.toList[i]=u
  refine ⟨fun hq=>⟨?_,trivial⟩,fun hq=>?_⟩
  ·have hq':=of_decide_eq_true hq
   rw [if_neg (by simp;omega),if_neg (by simp;omega),w64_succ (by omega)]
  ·have hq':=of_decide_eq_false hq
   by_cases h1:((u.toNat:Nat):Int) < 32
   ·rw [if_pos (by simpa using h1)]
   ·rw [if_neg (by simpa using h1),if_pos (by simp;omega)]
 ·rw [hb,if_neg (by simp)]
theorem s_bytes (s:ByteArray) (hs:s.size≤1048576):m_Sg s=some (s.data.toList.all okByte):=by
 simp only [m_Sg,m_Sg_0]
 rw [bytes_loop s hs false (lp_Sg_7 s) (fun i=>rfl)]
 cases s.data.toList.all okByte <;> rfl
def okLine (s:ByteArray):Bool:=s.data.toList.all okByte&&(!Lib.contains s.data.toList arrow&&decide (s.size≤80))
theorem z_line (s:ByteArray) (hs:s.size≤1048576):∃ e,m_Ie s=some e∧(e=0↔okLine s=true):=by
 simp only [m_Ie,m_Ie_0]
 rw [bytes_loop s hs 4 (lp_Ie_7 s) (fun i=>rfl)]
 unfold okLine
 cases s.data.toList.all okByte with
 | false=>exact ⟨4,rfl,by simp⟩
 | true=>
  simp only [cond_true,Option.bind_some,m_Ie_25,m_strings_Contains,gContains]
  rw [if_pos (by omega)]
  simp only [Option.bind_some,Bool.true_and]
  show ∃ e,(if Lib.contains s.data.toList arrow=true then some (4:Int) else _)=some e∧_
  cases Lib.contains s.data.toList arrow with
  | true=>exact ⟨4,rfl,by simp⟩
  | false=>
   by_cases h:(s.size:Int) > 80
   ·exact ⟨7,by rw [if_neg (by simp),if_pos (by simpa using h)],by simp;omega⟩
   ·exact ⟨0,by rw [if_neg (by simp),if_neg (by simpa using h)],by simp;omega⟩
def okL (s:ByteArray):Bool:=decide (1≤s.size)&&(okLine s&&(s.data.toList.getLast? != some 32))
theorem last_at (s:ByteArray) (hs:s.size≤1048576) (h:1≤s.size):∃ v:UInt8,sat s (w64 ((s.size:Int) - 1))=some ((v.toNat:Nat):Int)∧s.data.toList.getLast? = some v:=by
 have hl:s.data.toList.length=s.size:=rfl
 have h1:s.size - 1 < s.data.toList.length:=by omega
 refine ⟨s.data.toList[s.size - 1],?_,?_⟩
 ·rw [w64_id (by omega) (by omega),show (s.size:Int) - 1=((s.size - 1:Nat):Int) by omega]
  exact sat_list h1
 ·rw [List.getLast?_eq_getElem?,hl,List.getElem?_eq_getElem h1]
theorem last32 (v:UInt8):(((v.toNat:Nat):Int) == 32)=(some v == some (32:UInt8)):=by
 rw [Bool.eq_iff_iff]
 simp only [beq_iff_eq,Option.some.injEq]
 constructor
 ·intro h
  apply UInt8.toNat_inj.1
  show v.toNat=32
  omega
 ·rintro rfl;rfl
theorem s_lines (l:List ByteArray) (hl:l.length≤1048576) (hs:∀ y ∈ l,y.size≤1048576):m_Sk l=some (l.all okL&&decide (1≤l.length∧l.length≤4)):=by
 simp only [m_Sk,m_Sk_0]
 rw [all_list (l:=l) (q:=okL) (by omega) (fun i h=>?_) ?_]
 ·cases l.all okL with
  | false=>rfl
  | true=>
   simp only [cond_true,Option.bind_some,m_Sk_25,Bool.true_and]
   by_cases h1:(l.length:Int)≥1
   ·rw [if_pos (by simpa using h1)];congr 1;rw [decide_eq_decide];omega
   ·rw [if_neg (by simpa using h1)];congr 1;symm;rw [decide_eq_false_iff_not];omega
 ·simp only [lp_Sk_7,m_Sk_7]
  rw [if_neg (by simp)]
 ·have hz:=hs _ (List.getElem_mem h)
  simp only [lp_Sk_7,m_Sk_7]
  rw [if_pos (by simp;omega),rd_eq h]
  simp only [Option.bind_some]
  generalize l[i]=s at hz ⊢
  by_cases h1:1≤s.size
  ·rw [if_neg (by simp;omega)]
   by_cases h2:s.size≤80
   ·rw [if_neg (by simp;omega),s_bytes s hz,s_has s hz]
    obtain ⟨v,hv,hg⟩ :=last_at s hz h1
    have hk:okL s=(true&&((s.data.toList.all okByte&&(!Lib.contains s.data.toList arrow&&true)) && !(some v == some (32:UInt8)))):=by
     unfold okL okLine
     rw [hg,decide_eq_true h1,decide_eq_true h2]
     rfl
    rw [hv,hk]
    simp only [Option.bind_some,last32]
    rw [w64_succ (by omega)]
    cases s.data.toList.all okByte <;> cases (some v == some (32:UInt8)) <;> cases Lib.contains s.data.toList arrow <;> rfl
   ·have hk:okL s=false:=by
     unfold okL okLine
     rw [decide_eq_false h2]
     simp
    rw [if_pos (by simp;omega),hk]
    rfl
  ·have hk:okL s=false:=by
    unfold okL
    rw [decide_eq_false h1]
    rfl
   rw [if_pos (by simp;omega),hk]
   rfl
theorem toList_empty (s:ByteArray):(s.toList == (ByteArray.mk #[]).toList)=decide (s.size=0):=by
 rw [ByteArray.toList_eq,ByteArray.toList_eq,Bool.eq_iff_iff,beq_iff_eq,decide_eq_true_eq]
 constructor
 ·intro h
  have h2:s.data.toList.length=0:=by rw [h];rfl
  exact h2
 ·intro h
  exact List.eq_nil_of_length_eq_zero h
theorem z_cue (c:Za) (hl:c.lines.length≤1048576) (hs:∀ y ∈ c.lines,y.size≤1048576):m_Id c=some (c.lines.all okL&&decide (1≤c.lines.length∧c.lines.length≤4)):=by
 simp only [m_Id,m_Id_0]
 by_cases h1:1≤c.lines.length
 ·rw [if_neg (by simp;omega)]
  by_cases h2:c.lines.length≤4
  ·rw [if_neg (by simp;omega),all_list (l:=c.lines) (q:=okL) (by omega) (fun i h=>?_) ?_]
   ·have h3:decide (1≤c.lines.length∧c.lines.length≤4)=true:=by simp [h1,h2]
    rw [h3]
    cases c.lines.all okL <;> rfl
   ·simp only [lp_Id_15,m_Id_15]
    rw [if_neg (by simp)]
   ·have hz:=hs _ (List.getElem_mem h)
    simp only [lp_Id_15,m_Id_15]
    rw [if_pos (by simp;omega),rd_eq h]
    simp only [Option.bind_some]
    generalize c.lines[i]=s at hz ⊢
    simp only [toList_empty]
    by_cases h4:s.size=0
    ·have hk:okL s=false:=by
      unfold okL
      rw [decide_eq_false (by omega)]
      rfl
     rw [if_pos (by simpa using h4),hk]
     rfl
    ·rw [if_neg (by simpa using h4)]
     obtain ⟨v,hv,hg⟩ :=last_at s hz (by omega)
     obtain ⟨e,he,hf⟩ :=z_line s hz
     have hk:okL s=(true&&(okLine s && !(some v == some (32:UInt8)))):=by
      unfold okL
      rw [hg,decide_eq_true (by omega)]
      rfl
     rw [hv,he,hk]
     simp only [Option.bind_some,last32]
     have h6:(e != 0) = !okLine s:=by
      rw [Bool.eq_iff_iff]
      simp only [bne_iff_ne,ne_eq,hf]
      cases okLine s <;> simp
     rw [h6,w64_succ (by omega)]
     cases (some v == some (32:UInt8)) <;> cases okLine s <;> rfl
  ·rw [if_pos (by simp;omega)]
   congr 1;symm;simp;omega
 ·rw [if_pos (by simp;omega)]
  congr 1;symm;simp;omega
theorem rd_mem {α:Type} {l:List α} {i:Int} {x:α} (h:rd l i=some x):x ∈ l:=by
 unfold rd at h
 split at h
 ·exact List.mem_of_getElem? h
 ·simp at h
theorem good_eq (p:List Za) (hs:∀ c ∈ p,Sm_S_Cue c):m_Sc p=m_Ia p:=by
 have key:lp_Sc_15 p=lp_Ia_15 p:=by
  funext i
  simp only [lp_Sc_15,m_Sc_15,lp_Ia_15,m_Ia_15]
  have h1:∀ x,m_Sl x=m_Ig x:=fun _=>rfl
  simp only [h1]
  cases h:rd p i with
  | none=>rfl
  | some x=>
   have hx:=hs x (rd_mem h)
   simp only [Option.bind_some,s_lines x.lines hx.1 hx.2,z_cue x hx.1 hx.2]
 simp only [m_Sc,m_Sc_0,m_Ia,m_Ia_0,key]
 rfl
def gCue (c:Za):Prop:=0≤c.from_∧c.from_ < c.to_∧c.to_≤359999999∧1≤c.lines.length∧c.lines.length≤4
theorem time_eq (x:Int):m_Ig x=some (decide (0≤x∧x≤359999999)):=by
 simp only [m_Ig,m_Ig_0]
 by_cases h:x≥0
 ·rw [if_pos (by simpa using h)];congr 1;rw [decide_eq_decide];omega
 ·rw [if_neg (by simpa using h)];congr 1;symm;rw [decide_eq_false_iff_not];omega
theorem good_some (p:List Za) (hs:∀ c ∈ p,Sm_S_Cue c):∃ b,m_Ia p=some b∧(b=true→p.length≤200∧∀ c ∈ p,gCue c):=by
 simp only [m_Ia,m_Ia_0]
 by_cases hl:p.length≤200
 ·rw [if_neg (by simp;omega)]
  have key:=loopM_inv (b:=lp_Ia_15 p) (fun i (s:Unit)=>(i:Int)) p.length (fun i _=>∀ j,j < i→∀ x,p[j]? = some x→gCue x) (fun e=>e = .inl false∨e = .inr ()∧∀ x ∈ p,gCue x) ?_ ?_ (s:=()) (by intro j hj;omega)
  ·obtain ⟨e,he,h1⟩ :=key
   have he' : loopM (lp_Ia_15 p) (0:Int)=some e:=he
   rw [he']
   rcases h1 with rfl | ⟨rfl,h2⟩
   ·exact ⟨false,rfl,by simp⟩
   ·exact ⟨true,rfl,fun _=>⟨hl,h2⟩⟩
  ·rintro i s hi h1
   have hx:=hs _ (List.getElem_mem hi)
   simp only [lp_Ia_15,m_Ia_15]
   rw [if_pos (by simp;omega),rd_eq hi]
   simp only [Option.bind_some]
   have hn:∀ j,j < i+1→∀ x,p[j]? = some x→gCue p[i]→gCue x:=by
    intro j hj x hxj hg
    by_cases hji:j=i
    ·subst hji
     rw [List.getElem?_eq_getElem hi] at hxj
     obtain rfl:=Option.some.inj hxj
     exact hg
    ·exact h1 j (by omega) x hxj
   have hpos:0 < i→i - 1 < p.length:=by omega
   generalize hc:p[i]=c at hx hn ⊢
   rw [time_eq,time_eq,z_cue c hx.1 hx.2]
   simp only [Option.bind_some]
   by_cases h2:0≤c.from_∧c.from_≤359999999
   ·rw [if_pos (by simpa using h2)]
    by_cases h3:0≤c.to_∧c.to_≤359999999
    ·rw [if_pos (by simpa using h3)]
     by_cases h4:c.from_≥c.to_
     ·rw [if_pos (by simpa using h4)]
      exact .inr ⟨_,rfl,.inl rfl⟩
     ·rw [if_neg (by simpa using h4)]
      cases h5:(c.lines.all okL&&decide (1≤c.lines.length∧c.lines.length≤4)) with
      | false=>exact .inr ⟨_,rfl,.inl rfl⟩
      | true=>
       simp only [Bool.and_eq_true,decide_eq_true_eq] at h5
       have hg:gCue c:=⟨h2.1,by omega,h3.2,h5.2.1,h5.2.2⟩
       rw [if_pos rfl]
       by_cases h6:(i:Int) > 0
       ·rw [if_pos (by simpa using h6),w64_id (by omega) (by omega),rd_eq' (i:=i - 1) (by omega) (by omega)]
        simp only [Option.bind_some]
        by_cases h7:c.from_ < (p[i - 1]'(by omega)).from_
        ·rw [if_pos (by simpa using h7)]
         exact .inr ⟨_,rfl,.inl rfl⟩
        ·rw [if_neg (by simpa using h7),w64_succ (by omega)]
         exact .inl ⟨(),rfl,fun j hj x hxj=>hn j hj x hxj hg⟩
       ·rw [if_neg (by simpa using h6),w64_succ (by omega)]
        exact .inl ⟨(),rfl,fun j hj x hxj=>hn j hj x hxj hg⟩
    ·rw [if_neg (by simpa using h3)]
     exact .inr ⟨_,rfl,.inl rfl⟩
   ·rw [if_neg (by simpa using h2)]
    exact .inr ⟨_,rfl,.inl rfl⟩
  ·rintro s h1
   refine ⟨.inr (),?_,.inr ⟨rfl,?_⟩⟩
   ·simp only [lp_Ia_15,m_Ia_15]
    rw [if_neg (by simp)]
   ·intro x hx
    obtain ⟨j,hj,e⟩ :=List.getElem_of_mem hx
    exact h1 j hj x (by rw [List.getElem?_eq_getElem hj,e])
 ·rw [if_pos (by simp;omega)]
  exact ⟨false,rfl,by simp⟩
end Go.Proofs.V

namespace Go.Proofs.V
open Go
def LineOk (l:List ByteArray):Prop:=l.length≤8∧∀ y ∈ l,y.size≤400
def CuesOk (l:List Za):Prop:=l.length≤300∧∀ c ∈ l,LineOk c.lines
theorem CuesOk.sm {l:List Za} (h:CuesOk l):∀ c ∈ l,Sm_S_Cue c:=fun c hc=>⟨by have:=(h.2 c hc).1;omega,fun y hy=>by have:=(h.2 c hc).2 y hy;omega⟩
theorem CuesOk.set {l:List Za} (h:CuesOk l) {c:Za} (hc:LineOk c.lines) (i:Nat):CuesOk (l.set i c):=⟨by simpa using h.1,fun x hx=>by
 rcases List.mem_or_eq_of_mem_set hx with h1 | h1
 ·exact h.2 x h1
 ·rw [h1];exact hc⟩
theorem LineOk.snoc {l:List ByteArray} {n:Nat} (hn:l.length=n) (h8:n < 8) (h:LineOk l) {s:ByteArray} (hs:s.size≤400):LineOk (l++[s]):=⟨by simp;omega,fun y hy=>by
 rw [List.mem_append,List.mem_singleton] at hy
 rcases hy with h1 | h1
 ·exact h.2 y h1
 ·rw [h1];exact hs⟩
theorem LineOk.set {l:List ByteArray} (h:LineOk l) {s:ByteArray} (hs:s.size≤400) (i:Nat):LineOk (l.set i s):=⟨by simpa using h.1,fun y hy=>by
 rcases List.mem_or_eq_of_mem_set hy with h1 | h1
 ·exact h.2 y h1
 ·rw [h1];exact hs⟩
theorem lines_ok (p1 i1:Int) (l5:List Za) (n:Nat) (hn:n≤4) {k:Nat} {co:List Int} {a s:Int} (h:CurAt k co a) (hk:k < 10000000) (t f tt:Int) :
  ∃ c2 a2 s2 l,loopM (lp_Sm_28 p1 i1 l5) (t,(n:Int),co,a,s,f,tt,[])=some (t,c2,a2,s2,f,tt,l)∧CurAt (k+5000) c2 a2∧LineOk l∧l.length=n:=by
 obtain ⟨e,g1,c2,a2,s2,l,rfl,g2,g3,g4⟩ :=loopM_inv (b:=lp_Sm_28 p1 i1 l5) (fun i (y:List Int×Int×Int×List ByteArray)=>(t,((n - i:Nat):Int),y.1,y.2.1,y.2.2.1,f,tt,y.2.2.2)) n
  (fun i y=>CurAt (k+1100*i) y.1 y.2.1∧y.2.2.2.length=i∧LineOk y.2.2.2) (fun e=>∃ c2 a2 s2 l,e=(t,c2,a2,s2,f,tt,l)∧CurAt (k+5000) c2 a2∧LineOk l∧l.length=n)
  (fun i y hi hI=>.inl (by
   obtain ⟨c,b,z,l⟩ :=y
   obtain ⟨j1,j2,j3⟩ :=hI
   simp only at j1 j2 j3
   dsimp only [lp_Sm_28,m_Sm_28]
   rw [if_pos (by simp;omega)]
   obtain ⟨x1,c1,b1,z1,e1,hx1,hc1⟩ :=pick_in (s:=z) j1 (by omega) (p:=12) (by omega)
   rw [e1]
   simp only [Option.bind_some]
   obtain ⟨x2,c2,b2,z2,e2,hx2,hc2⟩ :=text_ok (s:=z1) hc1 x1 (by omega) (by omega) (by omega)
   rw [e2]
   simp only [Option.bind_some]
   obtain ⟨x3,e3,h3⟩ :=bstr_of hx2.2
   rw [e3]
   simp only [Option.bind_some]
   have h120:(ByteArray.mk #[120]).size=1:=rfl
   have hsz:(x3++ByteArray.mk #[120]).size=x3.size+1:=by rw [ByteArray.size_append];rfl
   rw [ck_eq (by rw [h120];omega)]
   simp only [Option.bind_some]
   rw [ck_eq (by simp;omega)]
   simp only [Option.bind_some]
   have hw:w64 (((l++[x3++ByteArray.mk #[120]]).length:Int) - 1)=((l.length:Nat):Int):=by
    rw [List.length_append,List.length_singleton,w64_id (by omega) (by omega)];omega
   rw [hw,rd_eq (i:=l.length) (by simp)]
   simp only [Option.bind_some,List.getElem_append_right (Nat.le_refl l.length),Nat.sub_self,List.getElem_cons_zero]
   rw [s_has _ (by rw [hsz];omega)]
   simp only [Option.bind_some]
   have hw2:w64 (((n - i:Nat):Int) - 1)=((n - (i+1):Nat):Int):=by rw [w64_id (by omega) (by omega)];omega
   rw [hw2]
   have hl2:=j3.snoc j2 (by omega) (s:=x3++ByteArray.mk #[120]) (by rw [hsz];omega)
   split
   ·exact ⟨(c2,b2,z2,_),rfl,hc2.le (by omega),by simp;omega,hl2.set (by show 1≤400;omega) _⟩
   ·exact ⟨(c2,b2,z2,_),rfl,hc2.le (by omega),by simp;omega,hl2⟩))
  (fun y hI=>by
   obtain ⟨c,b,z,l⟩ :=y
   obtain ⟨j1,j2,j3⟩ :=hI
   refine ⟨_,?_,c,b,z,l,rfl,j1.le (by omega),j3,j2⟩
   dsimp only [lp_Sm_28,m_Sm_28]
   rw [if_neg (by simp)]) (s:=(co,a,s,[])) ⟨h.le (by omega),rfl,by simp,fun y hy=>by simp at hy⟩
 exact ⟨c2,a2,s2,l,g1,g2,g3,g4⟩
theorem cues_ok {k:Nat} {co:List Int} {a s:Int} (h:CurAt k co a) (hk:k < 5000000) (n:Int) (hn:n≤210):Drawn (m_Sm ⟨co,a,s⟩ n) (k+2000000) fun l=>CuesOk l∧∀ c ∈ l,1≤c.lines.length∧c.lines.length≤4:=by
 dsimp only [m_Sm,m_Sm_0]
 obtain ⟨x0,c0,b0,z0,e0,hx0,hc0⟩ :=pick_ok (s:=s) h (by omega) 5000
 rw [e0]
 simp only [Option.bind_some]
 obtain ⟨e,g1,g2,g3⟩ :=loopM_inv (b:=lp_Sm_11 n) (fun i (y:Int×List Int×Int×Int×List Za)=>(y.1,(i:Int),y.2)) n.toNat
  (fun i y=>CurAt (k+3+6000*i) y.2.1 y.2.2.1∧y.2.2.2.2.length=i∧CuesOk y.2.2.2.2∧∀ c ∈ y.2.2.2.2,1≤c.lines.length∧c.lines.length≤4) (fun e=>CurAt (k+2000000) e.1 e.2.1∧CuesOk e.2.2.2∧∀ c ∈ e.2.2.2,1≤c.lines.length∧c.lines.length≤4)
  (fun i y hi hI=>.inl (by
   obtain ⟨t,c,b,z,l⟩ :=y
   obtain ⟨j1,j2,j3,j4⟩ :=hI
   simp only at j1 j2 j3 j4
   dsimp only [lp_Sm_11,m_Sm_11]
   rw [if_pos (by simp;omega)]
   obtain ⟨x1,c1,b1,z1,e1,hx1,hc1⟩ :=pick_ok (s:=z) j1 (by omega) 3000
   rw [e1]
   simp only [Option.bind_some]
   obtain ⟨x2,c2,b2,z2,e2,hx2,hc2⟩ :=pick_ok (s:=z1) hc1 (by omega) 2
   rw [e2]
   simp only [Option.bind_some]
   obtain ⟨x3,c3,b3,z3,e3,hx3,hc3⟩ :=pick_ok (s:=z2) hc2 (by omega) 9000
   rw [e3]
   simp only [Option.bind_some]
   obtain ⟨x4,c4,b4,z4,e4,hx4,hc4⟩ :=pick_in (s:=z3) hc3 (by omega) (p:=4) (by omega)
   rw [e4]
   simp only [Option.bind_some]
   obtain ⟨m,hm⟩:∃ m:Nat,w64 (1+x4)=m:=⟨(1+x4).toNat,by rw [w64_id (by omega) (by omega)];omega⟩
   have hm4:1≤m∧m≤4:=by rw [w64_id (by omega) (by omega)] at hm;omega
   rw [hm]
   obtain ⟨c5,b5,z5,ls,e5,hc5,hl5,hn5⟩ :=lines_ok n i l m hm4.2 (s:=z4) hc4 (by omega) (w64 (t+w64 (x1*x2))) (w64 (t+w64 (x1*x2))) (w64 (w64 (w64 (t+w64 (x1*x2))+1)+x3))
   rw [e5]
   simp only [Option.bind_some,m_Sm_44]
   rw [ck_eq (by simp;omega)]
   simp only [Option.bind_some]
   rw [w64_succ (by omega)]
   refine ⟨(_,c5,b5,z5,_),rfl,hc5.le (by omega),by simp;omega,⟨by simp;omega,fun x hx=>?_⟩,fun x hx=>?_⟩
   ·rw [List.mem_append,List.mem_singleton] at hx
    rcases hx with h1 | h1
    ·exact j3.2 x h1
    ·rw [h1];exact hl5
   ·simp only [List.mem_append,List.mem_singleton] at hx
    rcases hx with h1 | h1
    ·exact j4 x h1
    ·rw [h1];show 1≤ls.length∧ls.length≤4;omega))
  (fun y hI=>by
   obtain ⟨t,c,b,z,l⟩ :=y
   obtain ⟨j1,j2,j3,j4⟩ :=hI
   refine ⟨(c,b,z,l),?_,j1.le (by omega),j3,j4⟩
   dsimp only [lp_Sm_11,m_Sm_11]
   rw [if_neg (by simp;omega)]) (s:=(x0,c0,b0,z0,[])) ⟨hc0,rfl,⟨by simp,fun y hy=>by simp at hy⟩,fun y hy=>by simp at hy⟩
 have g1' : loopM (lp_Sm_11 n) (x0,0,c0,b0,z0,([]:List Za))=some e:=g1
 rw [g1']
 exact ⟨_,_,_,_,rfl,g3,g2⟩
theorem cues43_ok {k:Nat} {co:List Int} {a s:Int} (h:CurAt k co a) (hk:k < 100000000) (f t:Int) {ls:List ByteArray} (hls:LineOk ls) {l:List Za} (hl:CuesOk l) (h0:0 < l.length):Drawn (m_Sh_43 co a s f t ls l) (k+3) CuesOk:=by
 dsimp only [m_Sh_43]
 obtain ⟨x,c1,b1,z1,e1,hx,hc1⟩ :=pick_in (s:=s) h (by omega) (p:=(l.length:Int)) (by omega)
 rw [e1]
 simp only [Option.bind_some]
 obtain ⟨y,e2,_⟩ :=rd_at_in (l:=l) hx.1 hx.2
 rw [e2]
 exact ⟨_,_,_,_,rfl,hl.set hls _,hc1⟩
theorem cues12_ok {k:Nat} {co:List Int} {a s:Int} (h:CurAt k co a) (hk:k < 10000000) {l:List Za} (hl:CuesOk l) (h1l:∀ c ∈ l,1≤c.lines.length∧c.lines.length≤4):Drawn (m_Sh_12 co a s l) (k+100) CuesOk:=by
 dsimp only [m_Sh_12]
 obtain ⟨x0,c0,b0,z0,e0,hx0,hc0⟩ :=one_ok (s:=s) h (by omega) 4
 rw [e0]
 simp only [Option.bind_some]
 have hf:Drawn (m_Sh_15 (x0,⟨c0,b0,z0⟩) l false) (k+100) CuesOk:=⟨_,_,_,_,rfl,hl,hc0.le (by omega)⟩
 split
 ·by_cases h0:0 < l.length
  ·rw [show decide ((l.length:Int) > 0)=true by simpa using h0]
   dsimp only [m_Sh_15]
   rw [if_pos rfl]
   obtain ⟨x1,c1,b1,z1,e1,hx1,hc1⟩ :=pick_in (s:=z0) hc0 (by omega) (p:=(l.length:Int)) (by omega)
   rw [e1]
   simp only [Option.bind_some]
   obtain ⟨cu,e2,m2⟩ :=rd_at_in (l:=l) hx1.1 hx1.2
   rw [e2]
   simp only [Option.bind_some]
   obtain ⟨x3,c3,b3,z3,e3,hx3,hc3⟩ :=pick_ok (s:=z1) hc1 (by omega) 6
   rw [e3]
   simp only [Option.bind_some]
   have hcu:=hl.2 cu m2
   have hcl:=h1l cu m2
   have fin:∀ {m:Nat} {c:List Int} {b z f t:Int} {ls:List ByteArray} {l' : List Za},CurAt m c b→m+3≤k+100→LineOk ls→CuesOk l'→0 < l'.length→Drawn (m_Sh_43 c b z f t ls l') (k+100) CuesOk:=by
    intro m c b z f t ls l' hc hm hls hl' h0'
    obtain ⟨v,co',a',s',e,hv,hc'⟩ :=cues43_ok (s:=z) hc (by omega) f t hls hl' h0'
    exact ⟨v,co',a',s',e,hv,hc'.le hm⟩
   split
   ·exact fin hc3 (by omega) hcu hl h0
   ·split
    ·rw [ck_eq (by simp;omega)]
     simp only [Option.bind_some]
     exact fin hc3 (by omega) (hcu.snoc rfl (by omega) (by show 7≤400;omega)) hl h0
    ·split
     ·obtain ⟨x4,c4,b4,z4,e4,hx4,hc4⟩ :=pick_in (s:=z3) hc3 (by omega) (p:=6) (by omega)
      rw [e4]
      simp only [Option.bind_some]
      obtain ⟨y,e5,m5⟩ :=rd_at_in (l:=([(ByteArray.mk #[]),(ByteArray.mk #[101,110,100,32]),(ByteArray.mk #[97,9,98]),(ByteArray.mk #[32,32,108,101,100]),(ByteArray.mk #[45,45]),(ByteArray.mk #[45,62])]:List ByteArray)) hx4.1 (by simp;omega)
      rw [e5]
      simp only [Option.bind_some]
      obtain ⟨y0,e6,_⟩ :=rd_at_in (l:=cu.lines) (x:=0) (by omega) (by omega)
      rw [e6]
      simp only [Option.bind_some]
      have hy:y.size≤400:=by
       simp only [List.mem_cons,List.not_mem_nil,or_false] at m5
       rcases m5 with rfl | rfl | rfl | rfl | rfl | rfl
       ·show 0≤400;omega
       ·show 4≤400;omega
       ·show 3≤400;omega
       ·show 5≤400;omega
       ·show 2≤400;omega
       ·show 2≤400;omega
      exact fin hc4 (by omega) (hcu.set hy _) (hl.set (hcu.set hy _) _) (by simpa using h0)
     ·split
      ·exact fin hc3 (by omega) ⟨by simp,fun y hy=>by simp at hy⟩ hl h0
      ·split
       ·exact fin hc3 (by omega) hcu hl h0
       ·obtain ⟨x4,c4,b4,z4,e4,hx4,hc4⟩ :=pick_ok (s:=z3) hc3 (by omega) 2
        rw [e4]
        simp only [Option.bind_some]
        exact fin hc4 (by omega) hcu hl h0
  ·rw [show decide ((l.length:Int) > 0)=false by simpa using h0]
   exact hf
 ·exact hf
theorem l15cues_ok (l:List Int) (hb:∀ x ∈ l,0≤x∧x≤255):Drawn (m_Sh l) 5000000 CuesOk:=by
 dsimp only [m_Sh,m_Sh_0]
 have hc:CurAt 0 l 0:=⟨hb,by omega,by omega⟩
 obtain ⟨x0,c0,b0,z0,e0,hx0,hc0⟩ :=pick_in (s:=0) hc (by omega) (p:=8) (by omega)
 rw [e0]
 simp only [Option.bind_some]
 obtain ⟨x1,c1,b1,z1,e1,hx1,hc1⟩ :=cues_ok (s:=z0) hc0 (by omega) x0 (by omega)
 rw [e1]
 simp only [Option.bind_some]
 obtain ⟨x2,c2,b2,z2,e2,hx2,hc2⟩ :=one_ok (s:=z1) hc1 (by omega) 40
 rw [e2]
 simp only [Option.bind_some]
 split
 ·obtain ⟨x3,c3,b3,z3,e3,hx3,hc3⟩ :=pick_in (s:=z2) hc2 (by omega) (p:=2) (by omega)
  rw [e3]
  simp only [Option.bind_some]
  obtain ⟨x4,c4,b4,z4,e4,hx4,hc4⟩ :=cues_ok (s:=z3) hc3 (by omega) (w64 (200+x3)) (by rw [w64_id (by omega) (by omega)];omega)
  rw [e4]
  simp only [Option.bind_some]
  obtain ⟨v,c5,b5,z5,e5,hx5,hc5⟩ :=cues12_ok (s:=z4) hc4 (by omega) hx4.1 hx4.2
  exact ⟨v,c5,b5,z5,e5,hx5,hc5.le (by omega)⟩
 ·obtain ⟨v,c5,b5,z5,e5,hx5,hc5⟩ :=cues12_ok (s:=z2) hc2 (by omega) hx1.1 hx1.2
  exact ⟨v,c5,b5,z5,e5,hx5,hc5.le (by omega)⟩
end Go.Proofs.V

namespace Go.Proofs.V
open Go
theorem floor_eq (x p:Int) (h0:0≤x) (h1:x≤360000000000000) (h2:1≤p):m_Si x p=some (x / p)∧m_If x p=some (x / p):=by
 have e1:Int.tdiv x p=x / p:=Int.tdiv_eq_ediv_of_nonneg h0
 have e2:Int.tmod x p=x % p:=Int.tmod_eq_emod_of_nonneg h0
 have e3:0≤x % p:=Int.emod_nonneg _ (by omega)
 have e4:0≤x / p:=Int.ediv_nonneg h0 (by omega)
 have e5:x / p≤x:=Int.ediv_le_self _ h0
 simp only [m_Si,m_Si_0,m_If,m_If_0,m_If_7]
 rw [ck_eq (by omega),e1,e2,w64_id (x:=x / p) (by omega) (by omega)]
 simp only [Option.bind_some]
 refine ⟨by rw [if_neg (by simpa using e3)],?_⟩
 have e6:decide (x < 0)=false:=by simpa using h0
 have e7:decide (p < 0)=false:=by simp;omega
 rw [e6,e7]
 split <;> rfl
def tOf (x p1 p2:Int):Int:=x*p1 / p2
theorem fl (x p1 p2:Int) (h0:0≤x) (h1:x≤359999999) (h2:1≤p1) (h3:p1≤1000000) (h4:1≤p2):m_Si (w64 (x*p1)) p2=some (tOf x p1 p2)∧m_If (w64 (x*p1)) p2=some (tOf x p1 p2):=by
 have a1:0≤x*p1:=Int.mul_nonneg h0 (by omega)
 have a2:x*p1≤359999999*1000000:=Int.mul_le_mul h1 h3 (by omega) (by omega)
 rw [w64_id (by omega) (by omega)]
 exact floor_eq _ _ a1 (by omega) h4
theorem retime_eq (p:List Za) (a b c:Int) (hs:∀ x ∈ p,Sm_S_Cue x):m_Sd p a b c=m_Ib p a b c:=by
 simp only [m_Sd,m_Sd_0,m_Ib,m_Ib_0,good_eq p hs]
 obtain ⟨g,hg,hk⟩ :=good_some p hs
 rw [hg]
 simp only [Option.bind_some]
 cases g with
 | false=>rfl
 | true=>
  obtain ⟨_,hc⟩ :=hk rfl
  simp only [if_true]
  by_cases h1:a < 1
  ·simp only [h1,decide_true,if_true]
  by_cases h2:a > 1000000
  ·simp only [h1,h2,decide_true,decide_false,Bool.false_eq_true,if_false,if_true]
  by_cases h3:b < 1
  ·simp only [h1,h2,h3,decide_true,decide_false,Bool.false_eq_true,if_false,if_true]
  simp only [h1,h2,h3,decide_true,decide_false,Bool.false_eq_true,if_false,if_true]
  have key:lp_Sd_17 a b c p=lp_Ib_17 a b c p:=by
   funext s
   simp only [lp_Sd_17,m_Sd_17,lp_Ib_17,m_Ib_17]
   cases h:rd p s.1 with
   | none=>rfl
   | some x=>
    obtain ⟨g1,g2,g3,g4,g5⟩ :=hc x (rd_mem h)
    obtain ⟨f1,f2⟩ :=fl x.from_ a b g1 (by omega) (by omega) (by omega) (by omega)
    obtain ⟨f3,f4⟩ :=fl x.to_ a b (by omega) g3 (by omega) (by omega) (by omega)
    simp only [Option.bind_some,f1,f2,f3,f4,m_Sd_43,mxI]
    generalize w64 (tOf x.from_ a b+c)=u
    by_cases hu:u < 0
    ·have hu' : (0:Int) > u:=hu
     simp only [hu,hu',decide_true,if_true]
    ·have hu' : ¬ (0:Int) > u:=hu
     simp only [hu,hu',decide_false,if_false,Bool.false_eq_true]
  rw [key]
  rfl
theorem retime_some (p:List Za) (a b c:Int) (hs:∀ x ∈ p,Sm_S_Cue x):∃ w,m_Ib p a b c=some w∧(w.length≤1048576∧∀ y ∈ w,Sm_S_Cue y):=by
 have hnil:(([]:List Za).length≤1048576∧∀ y ∈ ([]:List Za),Sm_S_Cue y):=⟨by simp,by simp⟩
 simp only [m_Ib,m_Ib_0]
 obtain ⟨g,hg,hk⟩ :=good_some p hs
 rw [hg]
 simp only [Option.bind_some]
 cases g with
 | false=>exact ⟨[],rfl,hnil⟩
 | true=>
  obtain ⟨hl,hc⟩ :=hk rfl
  simp only [if_true]
  by_cases h1:a < 1
  ·rw [if_pos (by simpa using h1)];exact ⟨[],rfl,hnil⟩
  rw [if_neg (by simpa using h1)]
  by_cases h2:a > 1000000
  ·rw [if_pos (by simpa using h2)];exact ⟨[],rfl,hnil⟩
  rw [if_neg (by simpa using h2)]
  by_cases h3:b < 1
  ·rw [if_pos (by simpa using h3)];exact ⟨[],rfl,hnil⟩
  rw [if_neg (by simpa using h3)]
  split
  ·exact ⟨[],rfl,hnil⟩
  split
  ·exact ⟨[],rfl,hnil⟩
  split
  ·exact ⟨[],rfl,hnil⟩
  have key:=loopM_inv (b:=lp_Ib_17 a b c p) (fun i (s:List Za)=>((i:Int),s)) p.length (fun i s=>s.length≤i∧∀ y ∈ s,Sm_S_Cue y) (fun e=>e.length≤p.length∧∀ y ∈ e,Sm_S_Cue y) ?_ ?_ (s:=[]) ⟨by simp,by simp⟩
  ·obtain ⟨e,he,h1⟩ :=key
   have he' : loopM (lp_Ib_17 a b c p) ((0:Int),([]:List Za))=some e:=he
   rw [he']
   exact ⟨e,rfl,by omega,h1.2⟩
  ·rintro i s hi ⟨h5,h6⟩
   have hx:=hs _ (List.getElem_mem hi)
   obtain ⟨g1,g2,g3,g4,g5⟩ :=hc _ (List.getElem_mem hi)
   simp only [lp_Ib_17,m_Ib_17]
   rw [if_pos (by simp;omega),rd_eq hi]
   simp only [Option.bind_some]
   generalize p[i]=x at hx g1 g2 g3 g4 g5 ⊢
   obtain ⟨f1,f2⟩ :=fl x.from_ a b g1 (by omega) (by omega) (by omega) (by omega)
   obtain ⟨f3,f4⟩ :=fl x.to_ a b (by omega) g3 (by omega) (by omega) (by omega)
   rw [f2,f4]
   simp only [Option.bind_some]
   rw [w64_succ (by omega)]
   split
   ·exact .inl ⟨s,rfl,by omega,h6⟩
   split
   ·exact .inl ⟨s,rfl,by omega,h6⟩
   split
   ·exact .inl ⟨s,rfl,by omega,h6⟩
   rw [ck_eq (by simp;omega),ck_eq (by simp;omega)]
   refine .inl ⟨_,rfl,by simp;omega,?_⟩
   intro y hy
   rcases List.mem_append.1 hy with h7 | h7
   ·exact h6 y h7
   ·rw [List.mem_singleton.1 h7]
    exact hx
  ·rintro s h1
   refine ⟨s,?_,h1⟩
   simp only [lp_Ib_17,m_Ib_17]
   rw [if_neg (by simp)]
theorem shown_eq (p:List Za) (t:Int) (hs:∀ c ∈ p,Sm_S_Cue c):m_Sf p t=m_Ic p t:=by
 simp only [m_Sf,m_Sf_0,m_Ic,m_Ic_0,good_eq p hs]
 rfl
theorem shown_some (p:List Za) (t:Int) (hs:∀ c ∈ p,Sm_S_Cue c):∃ w,m_Ic p t=some w∧w.length≤1048576:=by
 simp only [m_Ic,m_Ic_0]
 obtain ⟨b,hb,hg⟩ :=good_some p hs
 rw [hb]
 simp only [Option.bind_some]
 cases b with
 | false=>exact ⟨[],rfl,by simp⟩
 | true=>
  obtain ⟨hl,_⟩ :=hg rfl
  rw [if_pos rfl,time_eq]
  simp only [Option.bind_some]
  cases decide (0≤t∧t≤359999999) with
  | false=>exact ⟨[],rfl,by simp⟩
  | true=>
   rw [if_pos rfl]
   have key:=loopM_inv (b:=lp_Ic_17 t p) (fun i (s:List Int)=>((i:Int),s)) p.length (fun i s=>s.length≤i) (fun e=>e.length≤p.length) ?_ ?_ (s:=[]) (by simp)
   ·obtain ⟨e,he,h1⟩ :=key
    have he' : loopM (lp_Ic_17 t p) ((0:Int),([]:List Int))=some e:=he
    rw [he']
    exact ⟨e,rfl,by omega⟩
   ·rintro i s hi h1
    simp only [lp_Ic_17,m_Ic_17]
    rw [if_pos (by simp;omega),rd_eq hi]
    simp only [Option.bind_some]
    have h29:∀ b,∃ s',m_Ic_29 t i p s b=some (.inl (((i+1:Nat):Int),s'))∧s'.length≤i+1:=by
     intro b
     unfold m_Ic_29
     cases b with
     | true=>
      rw [if_pos rfl,ck_eq (by simp;omega),w64_succ (by omega)]
      exact ⟨_,rfl,by simp;omega⟩
     | false=>
      rw [if_neg (by simp),w64_succ (by omega)]
      exact ⟨_,rfl,by omega⟩
    split
    ·exact .inl (h29 _)
    ·exact .inl (h29 _)
   ·rintro s h1
    refine ⟨s,?_,h1⟩
    simp only [lp_Ic_17,m_Ic_17]
    rw [if_neg (by simp)]
end Go.Proofs.V

namespace Go.Proofs.V
open Go
def okC (c:Za):Bool:=decide (0≤c.from_∧c.from_≤359999999)&&(decide (0≤c.to_∧c.to_≤359999999)&&(!decide (c.from_≥c.to_)&&(c.lines.all okL&&decide (1≤c.lines.length∧c.lines.length≤4))))
def goodW (prev:Int):List Za→Bool
 | []=>true
 | c::l=>okC c&&(decide (prev≤c.from_)&&goodW c.from_ l)
theorem good_loop (p:List Za) (hs:∀ c ∈ p,Sm_S_Cue c) (hp:p.length≤1048576):∀ (d i:Nat) (prev:Int),i+d=p.length→((i=0∧prev=0)∨(0 < i∧∃ y,p[i - 1]? = some y∧y.from_=prev))→
  loopM (lp_Ia_15 p) (i:Int)=some (if goodW prev (p.drop i) then .inr () else .inl false):=by
 intro d
 induction d with
 | zero=>
  intro i prev hi _
  obtain rfl:i=p.length:=by omega
  rw [loopM_eq]
  simp only [lp_Ia_15,m_Ia_15]
  rw [if_neg (by simp),List.drop_length]
  rfl
 | succ d ih=>
  intro i prev hi hpv
  have hlt:i < p.length:=by omega
  have hx:=hs _ (List.getElem_mem hlt)
  have ih':=ih (i+1) p[i].from_ (by omega) (.inr ⟨by omega,p[i],by simp [hlt],rfl⟩)
  rw [List.drop_eq_getElem_cons hlt]
  have hr:rd p (i:Int)=some p[i]:=rd_eq hlt
  generalize p[i]=c at hx ih' hr ⊢
  have e:lp_Ia_15 p (i:Int)=some (if (okC c&&decide (prev≤c.from_))=true then .inl (((i+1:Nat)):Int) else .inr (.inl false)):=by
   simp only [lp_Ia_15,m_Ia_15]
   rw [if_pos (by simp;omega),hr]
   simp only [Option.bind_some]
   rw [time_eq,time_eq,z_cue c hx.1 hx.2]
   simp only [Option.bind_some]
   by_cases h2:0≤c.from_∧c.from_≤359999999
   ·rw [if_pos (by simpa using h2)]
    by_cases h3:0≤c.to_∧c.to_≤359999999
    ·rw [if_pos (by simpa using h3)]
     by_cases h4:c.from_≥c.to_
     ·rw [if_pos (by simpa using h4)]
      have:okC c=false:=by unfold okC;rw [decide_eq_true h4];simp
      rw [this];rfl
     ·rw [if_neg (by simpa using h4)]
      cases h5:(c.lines.all okL&&decide (1≤c.lines.length∧c.lines.length≤4)) with
      | false=>
       have:okC c=false:=by unfold okC;rw [h5];simp
       rw [this];rfl
      | true=>
       have:okC c=true:=by unfold okC;rw [h5,decide_eq_true h2,decide_eq_true h3,decide_eq_false h4];rfl
       rw [this,if_pos rfl,Bool.true_and]
       rcases hpv with ⟨rfl,rfl⟩ | ⟨h0,y,hy,rfl⟩
       ·rw [if_neg (by simp),w64_succ (by omega),if_pos (by simpa using h2.1)]
       ·have hyl:=(List.getElem?_eq_some_iff.1 hy).1
        rw [if_pos (by simpa using h0),w64_id (by omega) (by omega),rd_eq' (i:=i - 1) (by omega) (by omega)]
        have hye:p[i - 1]'(by omega)=y:=by
         rw [List.getElem?_eq_getElem hyl] at hy
         exact Option.some.inj hy
        rw [hye]
        simp only [Option.bind_some]
        by_cases h7:c.from_ < y.from_
        ·rw [if_pos (by simpa using h7),if_neg (by simp;omega)]
        ·rw [if_neg (by simpa using h7),w64_succ (by omega),if_pos (by simp;omega)]
    ·rw [if_neg (by simpa using h3)]
     have:okC c=false:=by unfold okC;rw [decide_eq_false h3];simp
     rw [this];rfl
   ·rw [if_neg (by simpa using h2)]
    have:okC c=false:=by unfold okC;rw [decide_eq_false h2];rfl
    rw [this];rfl
  have hgw:goodW prev (c::p.drop (i+1))=((okC c&&decide (prev≤c.from_))&&goodW c.from_ (p.drop (i+1))):=by rw [goodW,Bool.and_assoc]
  by_cases hb:(okC c&&decide (prev≤c.from_))=true
  ·rw [if_pos hb] at e
   have e2:loopM (lp_Ia_15 p) (i:Int)=loopM (lp_Ia_15 p) ((i+1:Nat):Int):=by rw [loopM_eq,e]
   rw [e2,ih',hgw,hb,Bool.true_and]
  ·rw [if_neg hb] at e
   have e2:loopM (lp_Ia_15 p) (i:Int)=some (.inl false):=by rw [loopM_eq,e]
   rw [e2,hgw,Bool.eq_false_iff.2 hb,Bool.false_and]
   rfl
theorem good_val (p:List Za) (hs:∀ c ∈ p,Sm_S_Cue c):m_Ia p=some (decide (p.length≤200)&&goodW 0 p):=by
 simp only [m_Ia,m_Ia_0]
 by_cases hl:p.length≤200
 ·rw [if_neg (by simp;omega)]
  have h:=good_loop p hs (by omega) p.length 0 0 (by omega) (.inl ⟨rfl,rfl⟩)
  have h' : loopM (lp_Ia_15 p) 0=some (if goodW 0 (p.drop 0) then .inr () else .inl false):=h
  rw [h',List.drop_zero,decide_eq_true hl]
  cases goodW 0 p <;> rfl
 ·rw [if_pos (by simp;omega),decide_eq_false hl]
  rfl
def rtC (a b c:Int) (x:Za):Option Za:=
 if tOf x.to_ a b+c≤0∨tOf x.from_ a b+c≥tOf x.to_ a b+c∨tOf x.to_ a b+c > 359999999 then none else some ⟨mxI (tOf x.from_ a b+c) 0,tOf x.to_ a b+c,x.lines⟩
theorem fold_fm {α β:Type} (f:α→Option β):∀ (l:List α) (s:List β),l.foldl (fun s x=>s++(f x).toList) s=s++l.filterMap f
 | [],s=>by simp
 | x::l,s=>by
  rw [List.foldl_cons,fold_fm f l]
  cases h:f x with
  | none=>simp [h]
  | some y=>simp [h]
theorem tOf_rng {x a b:Int} (h0:0≤x) (h1:x≤359999999) (h2:1≤a) (h3:a≤1000000) (h4:1≤b):0≤tOf x a b∧tOf x a b≤359999999000000:=by
 have a1:0≤x*a:=Int.mul_nonneg h0 (by omega)
 have a2:x*a≤359999999*1000000:=Int.mul_le_mul h1 h3 (by omega) (by omega)
 have a3:x*a / b≤x*a:=Int.ediv_le_self _ a1
 exact ⟨Int.ediv_nonneg a1 (by omega),by unfold tOf;omega⟩
theorem tOf_mono {x y a b:Int} (h:x≤y) (h2:1≤a) (h4:1≤b):tOf x a b≤tOf y a b:=
 Int.ediv_le_ediv (by omega) (Int.mul_le_mul_of_nonneg_right h (by omega))
theorem goodW_mem:∀ (l:List Za) (prev:Int),goodW prev l=true→∀ c ∈ l,okC c=true
 | [],_,_,c,hc=>by simp at hc
 | x::l,prev,h,c,hc=>by
  simp only [goodW,Bool.and_eq_true] at h
  rcases List.mem_cons.1 hc with h1 | h1
  ·rw [h1];exact h.1
  ·exact goodW_mem l _ h.2.2 c h1
theorem okC_facts {c:Za} (h:okC c=true):(0≤c.from_∧c.from_ < c.to_∧c.to_≤359999999)∧(c.lines.all okL&&decide (1≤c.lines.length∧c.lines.length≤4))=true:=by
 unfold okC at h
 simp only [Bool.and_eq_true,decide_eq_true_eq,Bool.not_eq_true',decide_eq_false_iff_not] at h ⊢
 exact ⟨by omega,h.2.2.2⟩
theorem retime_val (p:List Za) (a b c:Int) (hs:∀ x ∈ p,Sm_S_Cue x):m_Ib p a b c=some (if (decide (p.length≤200)&&goodW 0 p)=true∧1≤a∧a≤1000000∧1≤b∧b≤1000000∧-359999999≤c∧c≤359999999 then p.filterMap (rtC a b c) else []):=by
 simp only [m_Ib,m_Ib_0]
 rw [good_val p hs]
 simp only [Option.bind_some]
 cases hg:(decide (p.length≤200)&&goodW 0 p) with
 | false=>rfl
 | true=>
  simp only [if_true]
  simp only [Bool.and_eq_true,decide_eq_true_eq] at hg
  by_cases h1:a < 1
  ·rw [if_pos (by simpa using h1),if_neg (by omega)]
  by_cases h2:a > 1000000
  ·rw [if_neg (by simpa using h1),if_pos (by simpa using h2),if_neg (by omega)]
  by_cases h3:b < 1
  ·rw [if_neg (by simpa using h1),if_neg (by simpa using h2),if_pos (by simpa using h3),if_neg (by omega)]
  by_cases h4:b > 1000000
  ·rw [if_neg (by simpa using h1),if_neg (by simpa using h2),if_neg (by simpa using h3),if_pos (by simpa using h4),if_neg (by omega)]
  by_cases h5:c < -359999999
  ·rw [if_neg (by simpa using h1),if_neg (by simpa using h2),if_neg (by simpa using h3),if_neg (by simpa using h4),if_pos (by simpa using h5),if_neg (by omega)]
  by_cases h6:c > 359999999
  ·rw [if_neg (by simpa using h1),if_neg (by simpa using h2),if_neg (by simpa using h3),if_neg (by simpa using h4),if_neg (by simpa using h5),if_pos (by simpa using h6),if_neg (by omega)]
  rw [if_neg (by simpa using h1),if_neg (by simpa using h2),if_neg (by simpa using h3),if_neg (by simpa using h4),if_neg (by simpa using h5),if_neg (by simpa using h6),if_pos ⟨trivial,by omega,by omega,by omega,by omega,by omega,by omega⟩]
  have h:=fold_list (l:=p) (σ:=List Za) (fun s i=>((i:Int),s)) (g:=fun s x=>s++(rtC a b c x).toList) (I:=fun i s=>s.length≤i) (b:=lp_Ib_17 a b c p) (e1:=fun s=>s)
   (fun i s hi hI=>by
    have hx:=hs _ (List.getElem_mem hi)
    have hok:=(okC_facts (goodW_mem p 0 hg.2 _ (List.getElem_mem hi)))
    simp only [lp_Ib_17,m_Ib_17]
    rw [if_pos (by simpa using hi),rd_eq hi]
    simp only [Option.bind_some]
    generalize p[i]=x at hx hok ⊢
    obtain ⟨⟨k1,k2,k3⟩,_⟩ :=hok
    obtain ⟨f1,f2⟩ :=fl x.from_ a b k1 (by omega) (by omega) (by omega) (by omega)
    obtain ⟨f3,f4⟩ :=fl x.to_ a b (by omega) k3 (by omega) (by omega) (by omega)
    have r1:=tOf_rng (x:=x.from_) (a:=a) (b:=b) k1 (by omega) (by omega) (by omega) (by omega)
    have r2:=tOf_rng (x:=x.to_) (a:=a) (b:=b) (by omega) k3 (by omega) (by omega) (by omega)
    rw [f2,f4]
    simp only [Option.bind_some]
    rw [w64_succ (by omega),w64_id (x:=tOf x.to_ a b+c) (by omega) (by omega),w64_id (x:=tOf x.from_ a b+c) (by omega) (by omega)]
    unfold rtC
    by_cases q1:tOf x.to_ a b+c≤0
    ·rw [if_pos (by simpa using q1),if_pos (.inl q1)]
     exact ⟨by simp,by simp;omega⟩
    rw [if_neg (by simpa using q1)]
    by_cases q2:tOf x.from_ a b+c≥tOf x.to_ a b+c
    ·rw [if_pos (by simpa using q2),if_pos (.inr (.inl q2))]
     exact ⟨by simp,by simp;omega⟩
    rw [if_neg (by simpa using q2)]
    by_cases q3:tOf x.to_ a b+c > 359999999
    ·rw [if_pos (by simpa using q3),if_pos (.inr (.inr q3))]
     exact ⟨by simp,by simp;omega⟩
    have hx1:=hx.1
    rw [if_neg (by simpa using q3),if_neg (by omega),ck_eq (by simp;omega)]
    simp only [Option.bind_some]
    rw [ck_eq (by simp;omega)]
    exact ⟨rfl,by simp;omega⟩)
   (fun s hI=>by
    simp only [lp_Ib_17,m_Ib_17]
    rw [if_neg (by simp)]) [] (by simp)
  have h' : loopM (lp_Ib_17 a b c p) (0,([]:List Za))=some (p.foldl (fun s x=>s++(rtC a b c x).toList) []):=h.1
  rw [h',fold_fm]
  rfl
theorem goodW_rt {a b c:Int} (h2:1≤a) (h4:1≤b):∀ (l:List Za) (prev prev' : Int),goodW prev l=true→prev'≤mxI (tOf prev a b+c) 0→goodW prev' (l.filterMap (rtC a b c))=true
 | [],_,_,_,_=>rfl
 | x::l,prev,prev',h,hp=>by
  simp only [goodW,Bool.and_eq_true,decide_eq_true_eq] at h
  obtain ⟨ho,hle,hr⟩ :=h
  obtain ⟨⟨k1,k2,k3⟩,kl⟩ :=okC_facts ho
  have hm:=tOf_mono (a:=a) (b:=b) hle h2 h4
  rw [List.filterMap_cons]
  unfold mxI at hp
  cases hq:rtC a b c x with
  | none=>
   refine goodW_rt h2 h4 l x.from_ prev' hr ?_
   unfold mxI
   split <;> split at hp <;> omega
  | some y=>
   unfold rtC at hq
   split at hq
   ·simp at hq
   ·rename_i hn
    obtain rfl:=Option.some.inj hq
    simp only [goodW,Bool.and_eq_true,decide_eq_true_eq]
    refine ⟨?_,?_,goodW_rt h2 h4 l x.from_ _ hr (Int.le_refl _)⟩
    ·unfold okC
     simp only [kl,Bool.and_true,Bool.and_eq_true,decide_eq_true_eq,Bool.not_eq_true',decide_eq_false_iff_not]
     unfold mxI
     split <;> omega
    ·unfold mxI
     split <;> split at hp <;> omega
theorem fm_back {α:Type} (f g:α→Option α):∀ l:List α,(l.filterMap f).length=l.length→(∀ x ∈ l,∀ y,f x=some y→g y=some x)→(l.filterMap f).filterMap g=l
 | [],_,_=>rfl
 | x::l,hl,h=>by
  rw [List.filterMap_cons] at hl ⊢
  cases hf:f x with
  | none=>
   rw [hf] at hl
   have:=List.length_filterMap_le f l
   simp only [List.length_cons] at hl
   omega
  | some y=>
   rw [hf] at hl
   simp only [List.length_cons,Nat.add_right_cancel_iff] at hl
   rw [List.filterMap_cons,h x (by simp) y hf,fm_back f g l hl fun z hz=>h z (by simp [hz])]
theorem same_self (l:List Za) (hl:l.length≤1048576) (hs:∀ c ∈ l,Sm_S_Cue c):m_Se l l=some true:=by
 simp only [m_Se,m_Se_0]
 have h:=eq_list (n:=l.length) (b:=lp_Se_15 l l) (fun i hi=>by
  have hx:=hs _ (List.getElem_mem hi)
  have hr:rd l (i:Int)=some l[i]:=rd_eq hi
  simp only [lp_Se_15,m_Se_15]
  rw [if_pos (by simpa using hi),hr]
  simp only [Option.bind_some]
  generalize l[i]=x at hx hr ⊢
  rw [if_neg (by simp),if_neg (by simp),if_neg (by simp)]
  have h2:=eq_list (n:=x.lines.length) (b:=lp_Se_37 l l i x) (fun j hj=>by
   simp only [lp_Se_37,m_Se_37]
   rw [if_pos (by simpa using hj),hr]
   simp only [Option.bind_some]
   rw [rd_eq hj]
   simp only [Option.bind_some]
   have:=hx.1
   rw [if_pos (by simp),w64_succ (by omega)]) (by
   simp only [lp_Se_37,m_Se_37]
   rw [if_neg (by simp)])
  rw [h2]
  simp only [Option.bind_some,m_Se_55]
  rw [w64_succ (by omega)]) (by
  simp only [lp_Se_15,m_Se_15]
  rw [if_neg (by simp)])
 rw [if_neg (by simp),h]
 rfl
end Go.Proofs.V

namespace Go.Proofs.V
end Go.Proofs.V

namespace Go.Proofs.V
open Go
theorem draw_retime_ok (l:List Int) (hb:∀ x ∈ l,0≤x∧x≤255):∃ c a b m,m_Sa l=some (c,a,b,m)∧CuesOk c:=by
 dsimp only [m_Sa,m_Sa_0]
 obtain ⟨x0,c0,b0,z0,e0,hx0,hc0⟩ :=l15cues_ok l hb
 rw [e0]
 simp only [Option.bind_some]
 obtain ⟨x1,c1,b1,z1,e1,hx1,hc1⟩ :=pick_ok (s:=z0) hc0 (by omega) 30
 rw [e1]
 simp only [Option.bind_some]
 obtain ⟨x2,c2,b2,z2,e2,hx2,hc2⟩ :=pick_ok (s:=z1) hc1 (by omega) 30
 rw [e2]
 simp only [Option.bind_some]
 obtain ⟨x3,c3,b3,z3,e3,hx3,hc3⟩ :=pick_ok (s:=z2) hc2 (by omega) 9000
 rw [e3]
 simp only [Option.bind_some]
 obtain ⟨x4,c4,b4,z4,e4,hx4,hc4⟩ :=pick_ok (s:=z3) hc3 (by omega) 12
 rw [e4]
 simp only [Option.bind_some]
 split
 ·obtain ⟨x5,c5,b5,z5,e5,hx5,hc5⟩ :=pick_in (s:=z4) hc4 (by omega) (p:=3) (by omega)
  rw [e5]
  simp only [Option.bind_some]
  obtain ⟨y,e6,_⟩ :=rd_at_in (l:=([0,1000000,1000001]:List Int)) hx5.1 (by simp;omega)
  rw [e6]
  exact ⟨_,_,_,_,rfl,hx0⟩
 ·split
  ·obtain ⟨x5,c5,b5,z5,e5,hx5,hc5⟩ :=pick_in (s:=z4) hc4 (by omega) (p:=3) (by omega)
   rw [e5]
   simp only [Option.bind_some]
   obtain ⟨y,e6,_⟩ :=rd_at_in (l:=([(-359999999),359999999,360000000]:List Int)) hx5.1 (by simp;omega)
   rw [e6]
   exact ⟨_,_,_,_,rfl,hx0⟩
  ·exact ⟨_,_,_,_,rfl,hx0⟩
theorem draw_shown_ok (l:List Int) (hb:∀ x ∈ l,0≤x∧x≤255):∃ c t,m_Sb l=some (c,t):=by
 dsimp only [m_Sb,m_Sb_0]
 obtain ⟨x0,c0,b0,z0,e0,hx0,hc0⟩ :=l15cues_ok l hb
 rw [e0]
 simp only [Option.bind_some]
 obtain ⟨x1,c1,b1,z1,e1,hx1,hc1⟩ :=pick_ok (s:=z0) hc0 (by omega) 20000
 rw [e1]
 simp only [Option.bind_some]
 split
 ·rename_i h
  have h0:0 < (x0.length:Int):=by simpa using h
  obtain ⟨x2,c2,b2,z2,e2,hx2,hc2⟩ :=one_ok (s:=z1) hc1 (by omega) 2
  rw [e2]
  simp only [Option.bind_some,m_Sb_9]
  cases x2 with
  | false=>exact ⟨_,_,rfl⟩
  | true=>
   rw [if_pos rfl]
   obtain ⟨x3,c3,b3,z3,e3,hx3,hc3⟩ :=pick_in (s:=z2) hc2 (by omega) (p:=(x0.length:Int)) (by omega)
   rw [e3]
   simp only [Option.bind_some]
   obtain ⟨y,e4,_⟩ :=rd_at_in (l:=x0) hx3.1 hx3.2
   rw [e4]
   simp only [Option.bind_some]
   obtain ⟨x5,c5,b5,z5,e5,hx5,hc5⟩ :=pick_ok (s:=z3) hc3 (by omega) 3
   rw [e5]
   simp only [Option.bind_some]
   obtain ⟨x6,c6,b6,z6,e6,hx6,hc6⟩ :=one_ok (s:=z5) hc5 (by omega) 2
   rw [e6]
   simp only [Option.bind_some]
   split
   ·obtain ⟨x7,c7,b7,z7,e7,hx7,hc7⟩ :=pick_ok (s:=z6) hc6 (by omega) 2
    rw [e7]
    exact ⟨_,_,rfl⟩
   ·exact ⟨_,_,rfl⟩
 ·simp only [m_Sb_9]
  exact ⟨_,_,rfl⟩
theorem wInts_self (w:List Int) (hw:w.length≤1048576):m_La w w=some true:=by
 simp only [m_La,m_La_0]
 have h:=eq_list (n:=w.length) (b:=lp_La_15 w w) (fun i hi=>by
  simp only [lp_La_15,m_La_15]
  rw [if_pos (by simpa using hi),rd_eq hi]
  simp only [Option.bind_some]
  rw [if_neg (by simp),w64_succ (by omega)]) (by
  simp only [lp_La_15,m_La_15]
  rw [if_neg (by simp)])
 rw [if_neg (by simp),h]
 rfl
theorem law_42 (l:List Int) (hb:∀ x ∈ l,0≤x∧x≤255) (c:List Za) (hc:∀ x ∈ c,Sm_S_Cue x) (a b m:Int):m_laws_FnRetimed_42 l (c,a,b,m)=some true:=by
 obtain ⟨c2,t,e1⟩ :=draw_shown_ok l hb
 obtain ⟨w,h1,h2⟩ :=shown_some c t hc
 simp only [m_laws_FnRetimed_42]
 rw [e1]
 simp only [Option.bind_some]
 rw [shown_eq c t hc,h1]
 simp only [Option.bind_some]
 rw [wInts_self w h2]
 rfl
theorem tOf_one (x:Int):tOf x 1 1=x:=by unfold tOf;simp
theorem law_22 (l:List Int) (hb:∀ x ∈ l,0≤x∧x≤255) (hl:l.length≤1048576) (c:List Za) (hcl:c.length≤1048576) (hc:∀ x ∈ c,Sm_S_Cue x) (a b m:Int) (w:List Za) (hw:m_Ib c a b m=some w) :
  m_laws_FnRetimed_22 l (c,a,b,m) w=some true:=by
 simp only [m_laws_FnRetimed_22]
 rw [good_eq c hc,good_val c hc]
 simp only [Option.bind_some]
 rw [retime_val c a b m hc] at hw
 cases hg:(decide (c.length≤200)&&goodW 0 c) with
 | false=>
  rw [hg,if_neg (by simp)] at hw
  obtain rfl:=Option.some.inj hw
  rfl
 | true=>
  rw [if_pos rfl]
  obtain ⟨n,hn,hn1,hn2⟩:∃ n:Int,w64 (1+Int.tmod (l.length:Int) 1000)=n∧1≤n∧n≤1000:=by
   have h1:Int.tmod (l.length:Int) 1000=(l.length:Int) % 1000:=Int.tmod_eq_emod_of_nonneg (by omega)
   refine ⟨_,rfl,?_⟩
   rw [h1,w64_id (by omega) (by omega)]
   omega
  rw [hn,w64_id (x:=0 - n) (by omega) (by omega)]
  obtain ⟨there,ht,_,hts⟩ :=retime_some c 1 1 n hc
  have hv:=ht
  rw [retime_val c 1 1 n hc,hg,if_pos ⟨rfl,by omega,by omega,by omega,by omega,by omega,by omega⟩] at hv
  have hv:=Option.some.inj hv
  rw [ht]
  simp only [Option.bind_some]
  by_cases hlen:(there.length:Int)=(c.length:Int)
  ·rw [if_pos (by simpa using hlen),retime_val there 1 1 (0 - n) hts]
   simp only [Bool.and_eq_true,decide_eq_true_eq] at hg
   have hgt:(decide (there.length≤200)&&goodW 0 there)=true:=by
    simp only [Bool.and_eq_true,decide_eq_true_eq]
    refine ⟨by omega,?_⟩
    rw [←hv]
    refine goodW_rt (by omega) (by omega) c 0 0 hg.2 ?_
    unfold mxI
    split <;> omega
   rw [if_pos ⟨hgt,by omega,by omega,by omega,by omega,by omega,by omega⟩]
   have hback:there.filterMap (rtC 1 1 (0 - n))=c:=by
    rw [←hv]
    refine fm_back (rtC 1 1 n) (rtC 1 1 (0 - n)) c (by rw [hv];omega) fun x hx y hy=>?_
    obtain ⟨⟨k1,k2,k3⟩,_⟩ :=okC_facts (goodW_mem c 0 hg.2 x hx)
    unfold rtC at hy
    rw [tOf_one,tOf_one] at hy
    split at hy
    ·simp at hy
    ·rename_i hq
     obtain rfl:=Option.some.inj hy
     unfold rtC
     simp only [tOf_one]
     have e1:mxI (x.from_+n) 0=x.from_+n:=by unfold mxI;rw [if_neg (by omega)]
     rw [e1,if_neg (by omega)]
     have e2:mxI (x.from_+n+(0 - n)) 0=x.from_:=by unfold mxI;rw [if_neg (by omega)];omega
     rw [e2,show x.to_+n+(0 - n)=x.to_ by omega]
   rw [hback]
   simp only [Option.bind_some]
   rw [same_self c hcl hc]
   simp only [Option.bind_some,if_true]
   exact law_42 l hb c hc a b m
  ·rw [if_neg (by simpa using hlen)]
   exact law_42 l hb c hc a b m
theorem final_FnRetimed (x0:List Int) (w0:x0.length≤maxLen∧∀ y0 ∈ x0,inK .u8 y0):m_laws_FnRetimed x0=some true:=by
 dsimp only [m_laws_FnRetimed,m_laws_FnRetimed_0]
 by_cases hq:(x0.length:Int) > 1048576
 ·rw [if_pos (by simpa using hq)]
 ·rw [if_neg (by simpa using hq)]
  have hb:∀ x ∈ x0,0≤x∧x≤255:=fun x hx=>by
   have:=w0.2 x hx
   exact ⟨this.1,this.2⟩
  obtain ⟨c,a,b,m,e1,hcu⟩ :=draw_retime_ok x0 hb
  rw [e1]
  simp only [Option.bind_some]
  obtain ⟨w,h1,h2,h3⟩ :=retime_some c a b m hcu.sm
  rw [retime_eq c a b m hcu.sm,h1]
  simp only [Option.bind_some]
  rw [same_self w h2 h3]
  simp only [Option.bind_some,if_true]
  have hcl:c.length≤1048576:=by have:=hcu.1;omega
  have fin:=law_22 x0 hb (by omega) c hcl hcu.sm a b m w h1
  by_cases h0:(w.length:Int) > 0
  ·rw [if_pos (by simpa using h0),good_val w h3]
   simp only [Option.bind_some]
   have hv:=h1
   rw [retime_val c a b m hcu.sm] at hv
   split at hv
   ·rename_i hcond
    obtain ⟨hg,k1,k2,k3,k4,k5,k6⟩ :=hcond
    have hv:=Option.some.inj hv
    simp only [Bool.and_eq_true,decide_eq_true_eq] at hg
    have hgw:(decide (w.length≤200)&&goodW 0 w)=true:=by
     simp only [Bool.and_eq_true,decide_eq_true_eq]
     rw [←hv]
     refine ⟨Nat.le_trans (List.length_filterMap_le _ _) hg.1,goodW_rt k1 k3 c 0 0 hg.2 ?_⟩
     unfold mxI
     split <;> omega
    rw [hgw,if_pos rfl]
    exact fin
   ·obtain rfl:=Option.some.inj hv
    simp at h0
  ·rw [if_neg (by simpa using h0)]
   exact fin
end Go.Proofs.V

namespace Go.Proofs.V
open Go
def c_Sn_7:VC:=
 .ite (.s 13) (.d 3 [(0,M 14 0),
  (1,{op:=.nckv 15 (.s 14)}),
  (2,oG 16 15 0),
  (3,oV 17 16 1),
  (4,M 18 0),
  (5,{op:=.nckv 19 (.s 18)}),
  (6,oG 20 19 1),
  (7,oV 21 20 1),
  (8,oX 22 17 21 1),
  (9,oV 23 22 1),
  (10,{op:=.conv 24 .i64 (.s 23)}),
  (11,M 3 24)]) (.skip)
def c_Sn_17:VC:=
 .ite (.s 53) (.seq (.r 7 [M 54 3,
  M 2 54]) (.ret)) (.skip)
def c_Sn_22:VC:=
 .seq (.r 8 [M 55 0,
  {op:=.nck 56 (.s 55)},
  oF 57 56 2,
  oL 58 57 1,
  {op:=.bin 59 .shr (.s 58) (.k (.int .u64 40))},
  {op:=.bin 60 .and (.s 59) (.k (.int .u64 255))},
  {op:=.conv 61 .i64 (.s 60)},
  M 2 61]) (.ret)
def c_Sn_14:VC:=
 .seq (.seq (.d 6 [(0,M 44 0),
  (1,{op:=.nckv 45 (.s 44)}),
  (2,oG 46 45 1),
  (3,oV 47 46 1),
  (4,M 48 0),
  (5,{op:=.nckv 49 (.s 48)}),
  (6,oG 50 49 0),
  (7,oV 51 50 1),
  (8,{op:=.len 52 (.s 51)}),
  (9,{op:=.bin 53 .leq (.s 47) (.s 52)})]) c_Sn_17) c_Sn_22
def c_Sn_12:VC:=
 .seq (.r 5 [M 32 0,
  M 33 0,
  {op:=.nck 34 (.s 33)},
  oF 35 34 2,
  oL 36 35 1,
  {op:=.bin 37 .mul (.s 36) (.k (.int .u64 6364136223846793005))},
  M 38 3,
  {op:=.conv 39 .u64 (.s 38)},
  {op:=.bin 40 .add (.s 37) (.s 39)},
  {op:=.bin 41 .add (.s 40) (.k (.int .u64 1442695040888963407))},
  {op:=.nck 42 (.s 32)},
  oF 43 42 2,
  oS 43 41 1]) c_Sn_14
def c_Sn_10:VC:=
 .seq (.r 4 [M 25 0,
  {op:=.nck 26 (.s 25)},
  oF 27 26 1,
  oL 28 27 1,
  {op:=.bin 29 .add (.s 28) (.k (.int .i64 1))},
  {op:=.nck 30 (.s 25)},
  oF 31 30 1,
  oS 31 29 1]) c_Sn_12
def c_Sn_4:VC:=
 .seq (.seq (.d 2 [(0,M 4 0),
  (1,{op:=.nckv 5 (.s 4)}),
  (2,oG 6 5 1),
  (3,oV 7 6 1),
  (4,M 8 0),
  (5,{op:=.nckv 9 (.s 8)}),
  (6,oG 10 9 0),
  (7,oV 11 10 1),
  (8,{op:=.len 12 (.s 11)}),
  (9,{op:=.bin 13 .lss (.s 7) (.s 12)})]) c_Sn_7) (.kp [0,3] c_Sn_10)
def c_Sn_2:VC:=
 .seq (.r 1 [oN 3 0]) c_Sn_4
def c_Sn_0:VC:=
 .seq (.r 0 [oN 2 0]) c_Sn_2
def vf_Sn:VF:={ pm:=[.mb [.ro [.sc],.sc,.sc]],rm:=[.v [.sc]],nslots:=62,res:=[2],rc:=[],code:=.kp [0] c_Sn_0 }
def c_Sp_5:VC:=
 .ite (.s 7) (.seq (.r 2 [oN 4 0]) (.ret)) (.skip)
def c_Sp_15:VC:=
 .ite (.s 11) (.r 5 [M 12 5,
  {op:=.bin 13 .mul (.s 12) (.k (.int .i64 256))},
  M 14 0,
  {op:=.call 15 44 [(.s 14)]},
  {op:=.bin 16 .add (.s 13) (.s 15)},
  M 5 16]) (.skip)
def c_Sp_21:VC:=
 .ite (.s 18) (.r 7 [M 19 5,
  {op:=.bin 20 .mul (.s 19) (.k (.int .i64 256))},
  M 21 0,
  {op:=.call 22 44 [(.s 21)]},
  {op:=.bin 23 .add (.s 20) (.s 22)},
  M 5 23]) (.skip)
def c_Sp_24:VC:=
 .seq (.r 8 [M 24 5,
  M 25 1,
  {op:=.bin 26 .rem (.s 24) (.s 25)},
  M 4 26]) (.ret)
def c_Sp_18:VC:=
 .seq (.seq (.r 6 [M 17 1,
  {op:=.bin 18 .gtr (.s 17) (.k (.int .i64 50000))}]) c_Sp_21) (.kp [0,1,5] c_Sp_24)
def c_Sp_12:VC:=
 .seq (.seq (.r 4 [M 10 1,
  {op:=.bin 11 .gtr (.s 10) (.k (.int .i64 200))}]) c_Sp_15) (.kp [0,1,5] c_Sp_18)
def c_Sp_10:VC:=
 .seq (.r 3 [M 8 0,
  {op:=.call 9 44 [(.s 8)]},
  M 5 9]) c_Sp_12
def c_Sp_2:VC:=
 .seq (.seq (.r 1 [M 6 1,
  {op:=.bin 7 .leq (.s 6) (.k (.int .i64 1))}]) c_Sp_5) c_Sp_10
def c_Sp_0:VC:=
 .seq (.r 0 [oN 4 0]) c_Sp_2
def vf_Sp:VF:={ pm:=[.mb [.ro [.sc],.sc,.sc],.ro [.sc]],rm:=[.v [.sc]],nslots:=27,res:=[4],rc:=[],code:=.kp [0,1] c_Sp_0 }
def c_Sq_19:VC:=
 .r 5 [M 14 5,
  M 15 6,
  M 16 0,
  {op:=.call 17 30 [(.s 16),(.k (.int .i64 95))]},
  {op:=.bin 18 .add (.k (.int .i64 32)) (.s 17)},
  {op:=.conv 19 .u8 (.s 18)},
  oX 20 14 15 1,
  oS 20 19 1]
def c_Sq_20:VC:=
 .r 6 [{op:=.bin 21 .add (.s 11) (.k (.int .i64 1))},
  M 11 21]
def c_Sq_15:VC:=
 .seq (.blk 1 (.seq (.r 4 [M 13 11,
  M 6 13]) c_Sq_19)) c_Sq_20
def c_Sq_11:VC:=
 .seq (.ite (.s 12) (.skip) (.exit 0)) c_Sq_15
def c_Sq_9:VC:=
 .seq (.r 3 [{op:=.bin 12 .lss (.s 11) (.s 10)}]) c_Sq_11
def c_Sq_7:VC:=
 .blk 0 (.loop [0,5,10,11] c_Sq_9)
def c_Sq_21:VC:=
 .seq (.r 7 [M 22 5,
  M 4 22]) (.ret)
def c_Sq_4:VC:=
 .seq (.seq (.r 2 [M 9 5,
  {op:=.len 10 (.s 9)},
  oN 11 0]) c_Sq_7) (.kp [0,5] c_Sq_21)
def c_Sq_2:VC:=
 .seq (.r 1 [M 7 1,
  {op:=.mk 8 (.s 7) [.sc] [(.int .u8 0)] 140737488355328},
  M 5 8]) c_Sq_4
def c_Sq_0:VC:=
 .seq (.r 0 [{op:=.nil 4 [.sc]}]) c_Sq_2
def vf_Sq:VF:={ pm:=[.mb [.ro [.sc],.sc,.sc],.ro [.sc]],rm:=[.v [.own [.sc]]],nslots:=23,res:=[4],rc:=[],code:=.kp [0,1] c_Sq_0 }
def c_Sj_10:VC:=
 .ite (.s 8) (.skip) (.exit 0)
def c_Sj_17:VC:=
 .ite (.s 16) (.seq (.r 5 [oK 2 true]) (.ret)) (.skip)
def c_Sj_22:VC:=
 .r 3 [M 9 3,
  {op:=.bin 10 .add (.s 9) (.k (.int .i64 1))},
  M 3 10]
def c_Sj_13:VC:=
 .seq (.blk 1 (.seq (.r 4 [M 11 0,
  M 12 3,
  M 13 3,
  {op:=.bin 14 .add (.s 13) (.k (.int .i64 3))},
  {op:=.sstr 15 (.s 11) (some (.s 12)) (some (.s 14))},
  {op:=.bin 16 .eql (.s 15) (.k (.string (ByteArray.mk #[45,45,62])))}]) c_Sj_17)) c_Sj_22
def c_Sj_7:VC:=
 .seq (.seq (.r 2 [M 4 3,
  {op:=.bin 5 .add (.s 4) (.k (.int .i64 2))},
  M 6 0,
  {op:=.slen 7 (.s 6)},
  {op:=.bin 8 .lss (.s 5) (.s 7)}]) c_Sj_10) c_Sj_13
def c_Sj_5:VC:=
 .blk 0 (.loop [0,3] c_Sj_7)
def c_Sj_23:VC:=
 .seq (.r 6 [oK 2 false]) (.ret)
def c_Sj_2:VC:=
 .seq (.seq (.r 1 [oN 3 0]) c_Sj_5) (.kp [] c_Sj_23)
def c_Sj_0:VC:=
 .seq (.r 0 [oK 2 false]) c_Sj_2
def vf_Sj:VF:={ pm:=[.ro [.sc]],rm:=[.v [.sc]],nslots:=17,res:=[2],rc:=[],code:=.kp [0] c_Sj_0 }
def c_Sm_14:VC:=
 .ite (.s 14) (.skip) (.exit 0)
def c_Sm_31:VC:=
 .ite (.s 35) (.skip) (.exit 2)
def c_Sm_40:VC:=
 .ite (.s 57) (.r 13 [oF 58 8 2,
  oL 59 58 1,
  oF 60 8 2,
  oL 61 60 1,
  {op:=.len 62 (.s 61)},
  {op:=.bin 63 .sub (.s 62) (.k (.int .i64 1))},
  oX 64 59 63 1,
  {op:=.st (.s 64) (.k (.string (ByteArray.mk #[121]))) 1}]) (.skip)
def c_Sm_38:VC:=
 .seq (.r 12 [oF 49 8 2,
  oL 50 49 1,
  oF 51 8 2,
  oL 52 51 1,
  {op:=.len 53 (.s 52)},
  {op:=.bin 54 .sub (.s 53) (.k (.int .i64 1))},
  oX 55 50 54 1,
  oL 56 55 1,
  {op:=.call 57 51 [(.s 56)]}]) c_Sm_40
def c_Sm_43:VC:=
 .r 10 [M 36 9,
  {op:=.bin 37 .sub (.s 36) (.k (.int .i64 1))},
  M 9 37]
def c_Sm_34:VC:=
 .seq (.blk 3 (.seq (.d 11 [(0,{op:=.fadk 38 (.s 8) 1 2}),
  (1,{op:=.ldk 39 (.s 38) 1 1 false}),
  (2,M 40 0),
  (3,M 41 0),
  (4,⟨some [1048577],[],none,.call 42 30 [(.s 41),(.k (.int .i64 12))]⟩),
  (5,⟨some [1048577],[],none,.call 43 52 [(.s 40),(.s 42)]⟩),
  (6,{op:=.b2s 44 (.s 43)}),
  (7,{op:=.bin 45 .add (.s 44) (.k (.string (ByteArray.mk #[120])))}),
  (8,{op:=.lits 46 [.sc] [(.s 45)]}),
  (9,{op:=.app 47 (.s 39) (.s 46) [.sc] 8796093022208}),
  (10,{op:=.fadk 48 (.s 8) 1 2}),
  (11,{op:=.stk (.s 48) (.s 47) 1 1})]) c_Sm_38)) c_Sm_43
def c_Sm_28:VC:=
 .seq (.seq (.r 9 [M 34 9,
  {op:=.bin 35 .gtr (.s 34) (.k (.int .i64 0))}]) c_Sm_31) c_Sm_34
def c_Sm_26:VC:=
 .blk 2 (.loop [0,1,5,6,7,8,9] c_Sm_28)
def c_Sm_44:VC:=
 .r 14 [M 65 5,
  {op:=.ld 66 (.s 8) 3 true},
  {op:=.lits 67 [.sc,.sc,.own [.sc]] [(.s 66)]},
  {op:=.app 68 (.s 65) (.s 67) [.sc,.sc,.own [.sc]] 3518437208883},
  M 5 68]
def c_Sm_23:VC:=
 .seq (.seq (.r 8 [M 31 0,
  {op:=.call 32 30 [(.s 31),(.k (.int .i64 4))]},
  {op:=.bin 33 .add (.k (.int .i64 1)) (.s 32)},
  M 9 33]) c_Sm_26) (.kp [0,1,5,6,7,8] c_Sm_44)
def c_Sm_21:VC:=
 .seq (.r 7 [M 24 6,
  M 25 6,
  {op:=.bin 26 .add (.s 25) (.k (.int .i64 1))},
  M 27 0,
  {op:=.call 28 30 [(.s 27),(.k (.int .i64 9000))]},
  {op:=.bin 29 .add (.s 26) (.s 28)},
  {op:=.bld 30 [.k (.int .i64 0),.k (.int .i64 0),.o [.sc]] [(0,1,(.s 24)),(1,1,(.s 29))]},
  {op:=.alloc 8 [.k (.int .i64 0),.k (.int .i64 0),.o [.sc]]},
  oS 8 30 3]) c_Sm_23
def c_Sm_45:VC:=
 .r 5 [M 15 7,
  {op:=.bin 16 .add (.s 15) (.k (.int .i64 1))},
  M 7 16]
def c_Sm_17:VC:=
 .seq (.blk 1 (.seq (.r 6 [M 17 6,
  M 18 0,
  {op:=.call 19 30 [(.s 18),(.k (.int .i64 3000))]},
  M 20 0,
  {op:=.call 21 30 [(.s 20),(.k (.int .i64 2))]},
  {op:=.bin 22 .mul (.s 19) (.s 21)},
  {op:=.bin 23 .add (.s 17) (.s 22)},
  M 6 23]) c_Sm_21)) c_Sm_45
def c_Sm_11:VC:=
 .seq (.seq (.r 4 [M 12 7,
  M 13 1,
  {op:=.bin 14 .lss (.s 12) (.s 13)}]) c_Sm_14) c_Sm_17
def c_Sm_9:VC:=
 .blk 0 (.loop [0,1,5,6,7] c_Sm_11)
def c_Sm_46:VC:=
 .seq (.r 15 [M 69 5,
  M 4 69]) (.ret)
def c_Sm_6:VC:=
 .seq (.seq (.r 3 [oN 7 0]) c_Sm_9) (.kp [0,5] c_Sm_46)
def c_Sm_4:VC:=
 .seq (.r 2 [M 10 0,
  {op:=.call 11 30 [(.s 10),(.k (.int .i64 5000))]},
  M 6 11]) c_Sm_6
def c_Sm_2:VC:=
 .seq (.r 1 [{op:=.nil 5 [.sc,.sc,.own [.sc]]}]) c_Sm_4
def c_Sm_0:VC:=
 .seq (.r 0 [{op:=.nil 4 [.sc,.sc,.own [.sc]]}]) c_Sm_2
def vf_Sm:VF:={ pm:=[.mb [.ro [.sc],.sc,.sc],.ro [.sc]],rm:=[.v [.own [.sc,.sc,.own [.sc]]]],nslots:=70,res:=[4],rc:=[],code:=.kp [0,1] c_Sm_0 }
def c_So_2:VC:=
 .seq (.r 1 [M 5 0,
  M 6 1,
  {op:=.call 7 30 [(.s 5),(.s 6)]},
  {op:=.bin 8 .eql (.s 7) (.k (.int .i64 0))},
  M 4 8]) (.ret)
def c_So_0:VC:=
 .seq (.r 0 [oK 4 false]) c_So_2
def vf_So:VF:={ pm:=[.mb [.ro [.sc],.sc,.sc],.ro [.sc]],rm:=[.v [.sc]],nslots:=9,res:=[4],rc:=[],code:=.kp [0,1] c_So_0 }
def c_Sh_9:VC:=
 .ite (.s 15) (.r 4 [M 16 4,
  M 17 4,
  {op:=.call 18 30 [(.s 17),(.k (.int .i64 2))]},
  {op:=.bin 19 .add (.k (.int .i64 200)) (.s 18)},
  {op:=.call 20 43 [(.s 16),(.s 19)]},
  M 5 20]) (.skip)
def c_Sh_40:VC:=
 .ite (.s 66) (.r 18 [oF 68 6 0,
  {op:=.st (.s 68) (.k (.int .i64 (-1))) 1}]) (.r 8 [M 37 4,
  {op:=.call 38 30 [(.s 37),(.k (.int .i64 2))]},
  {op:=.bin 39 .add (.k (.int .i64 359999999)) (.s 38)},
  oF 40 6 1,
  oS 40 39 1])
def c_Sh_36:VC:=
 .ite (.s 63) (.r 16 [oF 65 6 2,
  {op:=.st (.s 65) (.k (.slice none 0 0)) 1}]) (.seq (.r 17 [{op:=.bin 67 .eql (.s 36) (.k (.int .i64 4))},
  M 66 67]) c_Sh_40)
def c_Sh_32:VC:=
 .ite (.s 53) (.d 14 [(0,{op:=.fadk 55 (.s 6) 1 2}),
  (1,{op:=.ldk 56 (.s 55) 1 1 false}),
  (2,{op:=.litr 57 [(.string (ByteArray.mk #[])),(.string (ByteArray.mk #[101,110,100,32])),(.string (ByteArray.mk #[97,9,98])),(.string (ByteArray.mk #[32,32,108,101,100])),(.string (ByteArray.mk #[45,45])),(.string (ByteArray.mk #[45,62]))]}),
  (3,M 58 4),
  (4,⟨some [1048577],[],none,.call 59 30 [(.s 58),(.k (.int .i64 6))]⟩),
  (5,oX 60 57 59 1),
  (6,{op:=.ldr 61 (.s 60) 1 false}),
  (7,{op:=.iadr 62 (.s 56) (.k (.int .i64 0)) 1}),
  (8,oS 62 61 1)]) (.seq (.r 15 [{op:=.bin 64 .eql (.s 36) (.k (.int .i64 3))},
  M 63 64]) c_Sh_36)
def c_Sh_28:VC:=
 .ite (.s 46) (.r 12 [oF 48 6 2,
  oL 49 48 1,
  {op:=.lits 50 [.sc] [(.k (.string (ByteArray.mk #[97,32,45,45,62,32,98])))]},
  {op:=.appr 51 (.s 49) (.s 50) [.sc] 8796093022208},
  oF 52 6 2,
  oS 52 51 1]) (.seq (.r 13 [{op:=.bin 54 .eql (.s 36) (.k (.int .i64 2))},
  M 53 54]) c_Sh_32)
def c_Sh_24:VC:=
 .ite (.s 41) (.r 10 [oF 43 6 0,
  oL 44 43 1,
  oF 45 6 1,
  oS 45 44 1]) (.seq (.r 11 [{op:=.bin 47 .eql (.s 36) (.k (.int .i64 1))},
  M 46 47]) c_Sh_28)
def c_Sh_21:VC:=
 .blk 0 (.seq (.r 9 [{op:=.bin 42 .eql (.s 36) (.k (.int .i64 0))},
  M 41 42]) c_Sh_24)
def c_Sh_43:VC:=
 .pre [.fzc 5 0 2] (.d 19 [(0,M 69 5),
  (1,M 70 4),
  (2,M 71 5),
  (3,{op:=.len 72 (.s 71)}),
  (5,{op:=.ldk 74 (.s 6) 1 3 true}),
  (4,⟨some [1048577],[],none,.call 73 30 [(.s 70),(.s 72)]⟩),
  (6,oX 75 69 73 3),
  (7,oS 75 74 3)])
def c_Sh_18:VC:=
 .seq (.seq (.r 7 [M 35 4,
  {op:=.call 36 30 [(.s 35),(.k (.int .i64 6))]}]) c_Sh_21) (.pre [.fzc 5 0 2,.nlv 6 2 [.sc],.fzv 6 2] (.kp [4,5,6] c_Sh_43))
def c_Sh_15:VC:=
 .ite (.s 27) (.seq (.r 6 [M 28 5,
  M 29 4,
  M 30 5,
  {op:=.len 31 (.s 30)},
  {op:=.call 32 30 [(.s 29),(.s 31)]},
  oX 33 28 32 3,
  {op:=.ld 34 (.s 33) 3 true},
  {op:=.alloc 6 [.k (.int .i64 0),.k (.int .i64 0),.k (.slice none 0 0)]},
  oS 6 34 3]) c_Sh_18) (.skip)
def c_Sh_45:VC:=
 .seq (.r 20 [M 76 5,
  M 77 4,
  M 2 76,
  M 3 77]) (.pre [.fzi 2 0 2] (.ret))
def c_Sh_12:VC:=
 .seq (.seq (.r 5 [M 21 4,
  {op:=.call 22 31 [(.s 21),(.k (.int .i64 4))]},
  M 23 22,
  ⟨none,[],some (23,true),.mv 24 (.s 5)⟩,
  ⟨none,[],some (23,true),.len 25 (.s 24)⟩,
  ⟨none,[],some (23,true),.bin 26 .gtr (.s 25) (.k (.int .i64 0))⟩,
  {op:=.pick 27 (.s 23) (.s 26) (.k (.bool false))}]) (.kp [4,5,27] c_Sh_15)) c_Sh_45
def c_Sh_6:VC:=
 .seq (.seq (.r 3 [M 14 4,
  {op:=.call 15 31 [(.s 14),(.k (.int .i64 40))]}]) c_Sh_9) (.kp [4,5] c_Sh_12)
def c_Sh_4:VC:=
 .seq (.r 2 [M 10 4,
  M 11 4,
  {op:=.call 12 30 [(.s 11),(.k (.int .i64 8))]},
  {op:=.call 13 43 [(.s 10),(.s 12)]},
  M 5 13]) c_Sh_6
def c_Sh_2:VC:=
 .seq (.r 1 [M 7 0,
  {op:=.bld 8 [.k (.slice none 0 0),.k (.int .i64 0),.k (.int .u64 0)] [(0,1,(.s 7))]},
  {op:=.box 9 (.s 8)},
  M 4 9]) c_Sh_4
def c_Sh_0:VC:=
 .seq (.r 0 [{op:=.nil 2 [.sc,.sc,.ro [.sc]]},
  {op:=.mv 3 (.k (.pointer none))}]) c_Sh_2
def vf_Sh:VF:={ pm:=[.ro [.ro [.sc]]],rm:=[.v [.own [.sc,.sc,.ro [.sc]]],.p [.ro [.sc],.sc,.sc]],nslots:=78,res:=[2,3],rc:=[],code:=.kp [0] c_Sh_0 }
def c_Sa_20:VC:=
 .ite (.s 34) (.r 9 [{op:=.lits 36 [.sc] [(.k (.int .i64 (-359999999))),(.k (.int .i64 359999999)),(.k (.int .i64 360000000))]},
  M 37 7,
  {op:=.call 38 30 [(.s 37),(.k (.int .i64 3))]},
  oX 39 36 38 1,
  oL 40 39 1,
  M 10 40]) (.skip)
def c_Sa_16:VC:=
 .ite (.s 27) (.r 7 [{op:=.lits 29 [.sc] [(.k (.int .i64 0)),(.k (.int .i64 1000000)),(.k (.int .i64 1000001))]},
  M 30 7,
  {op:=.call 31 30 [(.s 30),(.k (.int .i64 3))]},
  oX 32 29 31 1,
  oL 33 32 1,
  M 8 33]) (.seq (.r 8 [{op:=.bin 35 .eql (.s 26) (.k (.int .i64 1))},
  M 34 35]) c_Sa_20)
def c_Sa_13:VC:=
 .blk 0 (.seq (.r 6 [{op:=.bin 28 .eql (.s 26) (.k (.int .i64 0))},
  M 27 28]) c_Sa_16)
def c_Sa_23:VC:=
 .seq (.r 10 [M 41 6,
  M 42 8,
  M 43 9,
  M 44 10,
  M 2 41,
  M 3 42,
  M 4 43,
  M 5 44]) (.ret)
def c_Sa_10:VC:=
 .seq (.seq (.r 5 [M 25 7,
  {op:=.call 26 30 [(.s 25),(.k (.int .i64 12))]}]) c_Sa_13) (.kp [6,8,9,10] c_Sa_23)
def c_Sa_8:VC:=
 .seq (.r 4 [M 22 7,
  {op:=.call 23 30 [(.s 22),(.k (.int .i64 9000))]},
  {op:=.bin 24 .sub (.s 23) (.k (.int .i64 4000))},
  M 10 24]) c_Sa_10
def c_Sa_6:VC:=
 .seq (.r 3 [M 19 7,
  {op:=.call 20 30 [(.s 19),(.k (.int .i64 30))]},
  {op:=.bin 21 .add (.k (.int .i64 1)) (.s 20)},
  M 9 21]) c_Sa_8
def c_Sa_4:VC:=
 .seq (.r 2 [M 16 7,
  {op:=.call 17 30 [(.s 16),(.k (.int .i64 30))]},
  {op:=.bin 18 .add (.k (.int .i64 1)) (.s 17)},
  M 8 18]) c_Sa_6
def c_Sa_2:VC:=
 .seq (.r 1 [M 12 0,
  {op:=.call 13 29 [(.s 12)]},
  M 11 13,
  {op:=.ext 14 (.s 11) 0},
  {op:=.ext 15 (.s 11) 1},
  M 6 14,
  M 7 15]) c_Sa_4
def c_Sa_0:VC:=
 .seq (.r 0 [{op:=.nil 2 [.sc,.sc,.ro [.sc]]},
  oN 3 0,
  oN 4 0,
  oN 5 0]) c_Sa_2
def vf_Sa:VF:={ pm:=[.ro [.ro [.sc]]],rm:=[.v [.own [.sc,.sc,.ro [.sc]]],.v [.sc],.v [.sc],.v [.sc]],nslots:=45,res:=[2,3,4,5],rc:=[],code:=.kp [0] c_Sa_0 }
def c_Ig_2:VC:=
 .seq (.r 1 [M 3 0,
  {op:=.bin 4 .geq (.s 3) (.k (.int .i64 0))},
  M 5 4,
  ⟨none,[],some (5,true),.mv 6 (.s 0)⟩,
  ⟨none,[],some (5,true),.bin 7 .leq (.s 6) (.k (.int .i64 359999999))⟩,
  {op:=.pick 8 (.s 5) (.s 7) (.k (.bool false))},
  M 2 8]) (.ret)
def c_Ig_0:VC:=
 .seq (.r 0 [oK 2 false]) c_Ig_2
def vf_Ig:VF:={ pm:=[.ro [.sc]],rm:=[.v [.sc]],nslots:=9,res:=[2],rc:=[],code:=.kp [0] c_Ig_0 }
def ex_strings_Contains (ars:List Arg):Option FRes:=match ars with | [.v false [.lit (.string p0)],.v false [.lit (.string p1)]]=>(gContains p0 p1).map fun r=>⟨[.v false [.lit (.bool r)]],[]⟩ | _=>none
def vf_strings_Contains:VF:={ given:=true,pm:=[.ro [.sc],.ro [.sc]],rm:=[.v [.sc]],nslots:=3,res:=[2],rc:=[],code:=.skip }
def c_Ie_19:VC:=
 .ite (.s 18) (.seq (.r 5 [oN 2 4]) (.ret)) (.skip)
def c_Ie_17:VC:=
 .seq (.r 4 [M 9 0,
  M 10 3,
  {op:=.idx 11 (.s 9) (.s 10)},
  {op:=.bin 12 .lss (.s 11) (.k (.int .u8 32))},
  M 13 12,
  ⟨none,[],some (13,false),.mv 14 (.s 0)⟩,
  ⟨none,[],some (13,false),.mv 15 (.s 3)⟩,
  ⟨none,[],some (13,false),.idx 16 (.s 14) (.s 15)⟩,
  ⟨none,[],some (13,false),.bin 17 .gtr (.s 16) (.k (.int .u8 126))⟩,
  {op:=.pick 18 (.s 13) (.k (.bool true)) (.s 17)}]) c_Ie_19
def c_Ie_24:VC:=
 .r 6 [{op:=.bin 19 .add (.s 6) (.k (.int .i64 1))},
  M 6 19]
def c_Ie_13:VC:=
 .seq (.blk 1 (.seq (.r 3 [M 8 6,
  M 3 8]) c_Ie_17)) c_Ie_24
def c_Ie_9:VC:=
 .seq (.ite (.s 7) (.skip) (.exit 0)) c_Ie_13
def c_Ie_7:VC:=
 .seq (.r 2 [{op:=.bin 7 .lss (.s 6) (.s 5)}]) c_Ie_9
def c_Ie_5:VC:=
 .blk 0 (.loop [0,5,6] c_Ie_7)
def c_Ie_28:VC:=
 .ite (.s 21) (.seq (.r 8 [oN 2 4]) (.ret)) (.skip)
def c_Ie_36:VC:=
 .ite (.s 24) (.seq (.r 10 [oN 2 7]) (.ret)) (.skip)
def c_Ie_41:VC:=
 .seq (.r 11 [oN 2 0]) (.ret)
def c_Ie_33:VC:=
 .seq (.seq (.r 9 [M 22 0,
  {op:=.slen 23 (.s 22)},
  {op:=.bin 24 .gtr (.s 23) (.k (.int .i64 80))}]) c_Ie_36) c_Ie_41
def c_Ie_25:VC:=
 .seq (.seq (.r 7 [M 20 0,
  {op:=.call 21 53 [(.s 20),(.k (.string (ByteArray.mk #[45,45,62])))]}]) c_Ie_28) c_Ie_33
def c_Ie_2:VC:=
 .seq (.seq (.r 1 [M 4 0,
  {op:=.slen 5 (.s 4)},
  oN 6 0]) c_Ie_5) (.kp [0] c_Ie_25)
def c_Ie_0:VC:=
 .seq (.r 0 [oN 2 0]) c_Ie_2
def vf_Ie:VF:={ pm:=[.ro [.sc]],rm:=[.v [.sc]],nslots:=25,res:=[2],rc:=[],code:=.kp [0] c_Ie_0 }
def c_Id_5:VC:=
 .ite (.s 14) (.seq (.r 2 [oK 2 false]) (.ret)) (.skip)
def c_Id_27:VC:=
 .ite (.s 36) (.seq (.r 7 [oK 2 false]) (.ret)) (.skip)
def c_Id_25:VC:=
 .seq (.r 6 [M 22 4,
  {op:=.bin 23 .eql (.s 22) (.k (.string (ByteArray.mk #[])))},
  M 24 23,
  ⟨none,[],some (24,false),.mv 25 (.s 4)⟩,
  ⟨none,[],some (24,false),.mv 26 (.s 4)⟩,
  ⟨none,[],some (24,false),.slen 27 (.s 26)⟩,
  ⟨none,[],some (24,false),.bin 28 .sub (.s 27) (.k (.int .i64 1))⟩,
  ⟨none,[],some (24,false),.idx 29 (.s 25) (.s 28)⟩,
  ⟨none,[],some (24,false),.bin 30 .eql (.s 29) (.k (.int .u8 32))⟩,
  {op:=.pick 31 (.s 24) (.k (.bool true)) (.s 30)},
  M 32 31,
  ⟨none,[],some (32,false),.mv 33 (.s 4)⟩,
  ⟨none,[],some (32,false),.call 34 49 [(.s 33)]⟩,
  ⟨none,[],some (32,false),.bin 35 .neq (.s 34) (.k (.int .i64 0))⟩,
  {op:=.pick 36 (.s 32) (.k (.bool true)) (.s 35)}]) c_Id_27
def c_Id_32:VC:=
 .r 8 [{op:=.bin 37 .add (.s 18) (.k (.int .i64 1))},
  M 18 37]
def c_Id_21:VC:=
 .seq (.blk 1 (.seq (.r 5 [oX 20 16 18 1,
  oL 21 20 1,
  M 4 21]) c_Id_25)) c_Id_32
def c_Id_17:VC:=
 .seq (.ite (.s 19) (.skip) (.exit 0)) c_Id_21
def c_Id_15:VC:=
 .seq (.r 4 [{op:=.bin 19 .lss (.s 18) (.s 17)}]) c_Id_17
def c_Id_13:VC:=
 .blk 0 (.loop [16,17,18] c_Id_15)
def c_Id_33:VC:=
 .seq (.r 9 [oK 2 true]) (.ret)
def c_Id_10:VC:=
 .seq (.seq (.r 3 [oF 15 1 2,
  oL 16 15 1,
  {op:=.len 17 (.s 16)},
  oN 18 0]) c_Id_13) (.kp [] c_Id_33)
def c_Id_2:VC:=
 .seq (.seq (.r 1 [oF 5 1 2,
  oL 6 5 1,
  {op:=.len 7 (.s 6)},
  {op:=.bin 8 .lss (.s 7) (.k (.int .i64 1))},
  M 9 8,
  ⟨none,[],some (9,false),.fadr 10 (.s 1) 2⟩,
  ⟨none,[],some (9,false),.ld 11 (.s 10) 1 false⟩,
  ⟨none,[],some (9,false),.len 12 (.s 11)⟩,
  ⟨none,[],some (9,false),.bin 13 .gtr (.s 12) (.k (.int .i64 4))⟩,
  {op:=.pick 14 (.s 9) (.k (.bool true)) (.s 13)}]) c_Id_5) c_Id_10
def c_Id_0:VC:=
 .seq (.r 0 [{op:=.box 1 (.s 0)},
  oK 2 false]) c_Id_2
def vf_Id:VF:={ pm:=[.ro [.sc,.sc,.ro [.sc]]],rm:=[.v [.sc]],nslots:=38,res:=[2],rc:=[],code:=.kp [0] c_Id_0 }
def c_Ia_5:VC:=
 .ite (.s 7) (.seq (.r 2 [oK 2 false]) (.ret)) (.skip)
def c_Ia_27:VC:=
 .ite (.s 51) (.seq (.r 7 [oK 2 false]) (.ret)) (.skip)
def c_Ia_25:VC:=
 .seq (.d 6 [(0,oG 15 4 0),
  (1,oV 16 15 1),
  (2,{op:=.call 17 35 [(.s 16)]}),
  (3,{op:=.un 18 .not (.s 17)}),
  (4,M 19 18),
  (5,⟨none,[],some (19,false),.fadv 20 (.s 4) 1⟩),
  (6,⟨none,[],some (19,false),.ldv 21 (.s 20) 1 false⟩),
  (7,⟨none,[],some (19,false),.call 22 35 [(.s 21)]⟩),
  (8,⟨none,[],some (19,false),.un 23 .not (.s 22)⟩),
  (9,{op:=.pick 24 (.s 19) (.k (.bool true)) (.s 23)}),
  (10,M 25 24),
  (11,⟨none,[],some (25,false),.fadv 26 (.s 4) 0⟩),
  (12,⟨none,[],some (25,false),.ldv 27 (.s 26) 1 false⟩),
  (13,⟨none,[],some (25,false),.fadv 28 (.s 4) 1⟩),
  (14,⟨none,[],some (25,false),.ldv 29 (.s 28) 1 false⟩),
  (15,⟨none,[],some (25,false),.bin 30 .geq (.s 27) (.s 29)⟩),
  (16,{op:=.pick 31 (.s 25) (.k (.bool true)) (.s 30)}),
  (17,M 32 31),
  (18,⟨none,[],some (32,false),.ldv 33 (.s 4) 3 true⟩),
  (19,⟨none,[],some (32,false),.call 34 41 [(.s 33)]⟩),
  (20,⟨none,[],some (32,false),.un 35 .not (.s 34)⟩),
  (21,{op:=.pick 36 (.s 32) (.k (.bool true)) (.s 35)}),
  (22,M 37 36),
  (23,⟨none,[],some (37,false),.mv 38 (.s 3)⟩),
  (24,⟨none,[],some (37,false),.bin 39 .gtr (.s 38) (.k (.int .i64 0))⟩),
  (25,⟨none,[],some (37,false),.mv 40 (.s 39)⟩),
  (26,⟨none,[],some (40,true),.fadv 41 (.s 4) 0⟩),
  (27,⟨none,[],some (40,true),.ldv 42 (.s 41) 1 false⟩),
  (28,⟨none,[],some (40,true),.mv 43 (.s 0)⟩),
  (29,⟨none,[],some (40,true),.mv 44 (.s 3)⟩),
  (30,⟨none,[],some (40,true),.bin 45 .sub (.s 44) (.k (.int .i64 1))⟩),
  (31,⟨none,[],some (40,true),.iadr 46 (.s 43) (.s 45) 3⟩),
  (32,⟨none,[],some (40,true),.fadv 47 (.s 46) 0⟩),
  (33,⟨none,[],some (40,true),.ldv 48 (.s 47) 1 false⟩),
  (34,⟨none,[],some (40,true),.bin 49 .lss (.s 42) (.s 48)⟩),
  (35,⟨none,[],some (37,false),.pick 50 (.s 40) (.s 49) (.k (.bool false))⟩),
  (36,{op:=.pick 51 (.s 37) (.k (.bool true)) (.s 50)})]) c_Ia_27
def c_Ia_32:VC:=
 .r 8 [{op:=.bin 52 .add (.s 10) (.k (.int .i64 1))},
  M 10 52]
def c_Ia_21:VC:=
 .seq (.blk 1 (.seq (.r 5 [M 12 10,
  oX 13 8 10 3,
  {op:=.ld 14 (.s 13) 3 true},
  {op:=.alloc 4 [.k (.int .i64 0),.k (.int .i64 0),.o [.sc]]},
  M 3 12,
  oS 4 14 3]) c_Ia_25)) c_Ia_32
def c_Ia_17:VC:=
 .seq (.ite (.s 11) (.skip) (.exit 0)) c_Ia_21
def c_Ia_15:VC:=
 .seq (.r 4 [{op:=.bin 11 .lss (.s 10) (.s 9)}]) c_Ia_17
def c_Ia_13:VC:=
 .blk 0 (.loop [0,8,9,10] c_Ia_15)
def c_Ia_33:VC:=
 .seq (.r 9 [oK 2 true]) (.ret)
def c_Ia_10:VC:=
 .seq (.seq (.r 3 [M 8 0,
  {op:=.len 9 (.s 8)},
  oN 10 0]) c_Ia_13) (.kp [] c_Ia_33)
def c_Ia_2:VC:=
 .seq (.seq (.r 1 [M 5 0,
  {op:=.len 6 (.s 5)},
  {op:=.bin 7 .gtr (.s 6) (.k (.int .i64 200))}]) c_Ia_5) c_Ia_10
def c_Ia_0:VC:=
 .seq (.r 0 [oK 2 false]) c_Ia_2
def vf_Ia:VF:={ pm:=[.ro [.ro [.sc,.sc,.ro [.sc]]]],rm:=[.v [.sc]],nslots:=53,res:=[2],rc:=[],code:=.kp [0] c_Ia_0 }
def c_If_7:VC:=
 .ite (.s 19) (.r 3 [M 20 5,
  {op:=.bin 21 .sub (.s 20) (.k (.int .i64 1))},
  M 5 21]) (.skip)
def c_If_10:VC:=
 .seq (.r 4 [M 22 5,
  M 4 22]) (.ret)
def c_If_4:VC:=
 .seq (.seq (.r 2 [M 9 0,
  M 10 1,
  {op:=.bin 11 .rem (.s 9) (.s 10)},
  {op:=.bin 12 .neq (.s 11) (.k (.int .i64 0))},
  M 13 12,
  ⟨none,[],some (13,true),.mv 14 (.s 0)⟩,
  ⟨none,[],some (13,true),.bin 15 .lss (.s 14) (.k (.int .i64 0))⟩,
  ⟨none,[],some (13,true),.mv 16 (.s 1)⟩,
  ⟨none,[],some (13,true),.bin 17 .lss (.s 16) (.k (.int .i64 0))⟩,
  ⟨none,[],some (13,true),.beq 18 true (.s 15) (.s 17)⟩,
  {op:=.pick 19 (.s 13) (.s 18) (.k (.bool false))}]) (.kp [5,19] c_If_7)) c_If_10
def c_If_2:VC:=
 .seq (.r 1 [M 6 0,
  M 7 1,
  {op:=.bin 8 .quo (.s 6) (.s 7)},
  M 5 8]) c_If_4
def c_If_0:VC:=
 .seq (.r 0 [oN 4 0]) c_If_2
def vf_If:VF:={ pm:=[.ro [.sc],.ro [.sc]],rm:=[.v [.sc]],nslots:=23,res:=[4],rc:=[],code:=.kp [0,1] c_If_0 }
def c_Ib_5:VC:=
 .ite (.s 40) (.seq (.r 2 [{op:=.nil 8 [.sc,.sc,.own [.sc]]}]) (.ret)) (.skip)
def c_Ib_32:VC:=
 .ite (.s 73) (.exit 1) (.skip)
def c_Ib_35:VC:=
 .r 9 [M 74 9,
  M 75 12,
  {op:=.mx 76 (.s 75) (.k (.int .i64 0))},
  M 77 13,
  {op:=.lits 78 [.sc] []},
  oF 79 11 2,
  oL 80 79 1,
  {op:=.app 81 (.s 78) (.s 80) [.sc] 8796093022208},
  {op:=.bld 82 [.k (.int .i64 0),.k (.int .i64 0),.k (.slice none 0 0)] [(0,1,(.s 76)),(1,1,(.s 77)),(2,1,(.s 81))]},
  {op:=.lits 83 [.sc,.sc,.own [.sc]] [(.s 82)]},
  {op:=.app 84 (.s 74) (.s 83) [.sc,.sc,.own [.sc]] 3518437208883},
  M 9 84]
def c_Ib_29:VC:=
 .seq (.seq (.r 8 [M 63 13,
  {op:=.bin 64 .leq (.s 63) (.k (.int .i64 0))},
  M 65 64,
  ⟨none,[],some (65,false),.mv 66 (.s 12)⟩,
  ⟨none,[],some (65,false),.mv 67 (.s 13)⟩,
  ⟨none,[],some (65,false),.bin 68 .geq (.s 66) (.s 67)⟩,
  {op:=.pick 69 (.s 65) (.k (.bool true)) (.s 68)},
  M 70 69,
  ⟨none,[],some (70,false),.mv 71 (.s 13)⟩,
  ⟨none,[],some (70,false),.bin 72 .gtr (.s 71) (.k (.int .i64 359999999))⟩,
  {op:=.pick 73 (.s 70) (.k (.bool true)) (.s 72)}]) c_Ib_32) c_Ib_35
def c_Ib_27:VC:=
 .seq (.d 7 [(0,oG 47 11 0),
  (1,oV 48 47 1),
  (2,M 49 1),
  (3,{op:=.bin 50 .mul (.s 48) (.s 49)}),
  (4,M 51 2),
  (5,{op:=.call 52 39 [(.s 50),(.s 51)]}),
  (6,M 53 3),
  (7,{op:=.bin 54 .add (.s 52) (.s 53)}),
  (8,oG 55 11 1),
  (9,oV 56 55 1),
  (10,M 57 1),
  (11,{op:=.bin 58 .mul (.s 56) (.s 57)}),
  (12,M 59 2),
  (13,{op:=.call 60 39 [(.s 58),(.s 59)]}),
  (14,M 61 3),
  (15,{op:=.bin 62 .add (.s 60) (.s 61)}),
  (16,M 12 54),
  (17,M 13 62)]) c_Ib_29
def c_Ib_36:VC:=
 .r 10 [{op:=.bin 85 .add (.s 43) (.k (.int .i64 1))},
  M 43 85]
def c_Ib_23:VC:=
 .seq (.blk 1 (.seq (.r 6 [oX 45 41 43 3,
  {op:=.ld 46 (.s 45) 3 true},
  {op:=.alloc 11 [.k (.int .i64 0),.k (.int .i64 0),.o [.sc]]},
  oS 11 46 3]) c_Ib_27)) c_Ib_36
def c_Ib_19:VC:=
 .seq (.ite (.s 44) (.skip) (.exit 0)) c_Ib_23
def c_Ib_17:VC:=
 .seq (.r 5 [{op:=.bin 44 .lss (.s 43) (.s 42)}]) c_Ib_19
def c_Ib_15:VC:=
 .blk 0 (.loop [1,2,3,9,41,42,43] c_Ib_17)
def c_Ib_37:VC:=
 .seq (.r 11 [M 86 9,
  M 8 86]) (.ret)
def c_Ib_12:VC:=
 .seq (.seq (.r 4 [M 41 0,
  {op:=.len 42 (.s 41)},
  oN 43 0]) c_Ib_15) (.kp [9] c_Ib_37)
def c_Ib_10:VC:=
 .seq (.r 3 [{op:=.nil 9 [.sc,.sc,.own [.sc]]}]) c_Ib_12
def c_Ib_2:VC:=
 .seq (.seq (.r 1 [M 14 0,
  {op:=.call 15 26 [(.s 14)]},
  {op:=.un 16 .not (.s 15)},
  M 17 16,
  ⟨none,[],some (17,false),.mv 18 (.s 1)⟩,
  ⟨none,[],some (17,false),.bin 19 .lss (.s 18) (.k (.int .i64 1))⟩,
  {op:=.pick 20 (.s 17) (.k (.bool true)) (.s 19)},
  M 21 20,
  ⟨none,[],some (21,false),.mv 22 (.s 1)⟩,
  ⟨none,[],some (21,false),.bin 23 .gtr (.s 22) (.k (.int .i64 1000000))⟩,
  {op:=.pick 24 (.s 21) (.k (.bool true)) (.s 23)},
  M 25 24,
  ⟨none,[],some (25,false),.mv 26 (.s 2)⟩,
  ⟨none,[],some (25,false),.bin 27 .lss (.s 26) (.k (.int .i64 1))⟩,
  {op:=.pick 28 (.s 25) (.k (.bool true)) (.s 27)},
  M 29 28,
  ⟨none,[],some (29,false),.mv 30 (.s 2)⟩,
  ⟨none,[],some (29,false),.bin 31 .gtr (.s 30) (.k (.int .i64 1000000))⟩,
  {op:=.pick 32 (.s 29) (.k (.bool true)) (.s 31)},
  M 33 32,
  ⟨none,[],some (33,false),.mv 34 (.s 3)⟩,
  ⟨none,[],some (33,false),.bin 35 .lss (.s 34) (.k (.int .i64 (-359999999)))⟩,
  {op:=.pick 36 (.s 33) (.k (.bool true)) (.s 35)},
  M 37 36,
  ⟨none,[],some (37,false),.mv 38 (.s 3)⟩,
  ⟨none,[],some (37,false),.bin 39 .gtr (.s 38) (.k (.int .i64 359999999))⟩,
  {op:=.pick 40 (.s 37) (.k (.bool true)) (.s 39)}]) c_Ib_5) c_Ib_10
def c_Ib_0:VC:=
 .seq (.r 0 [{op:=.nil 8 [.sc,.sc,.own [.sc]]}]) c_Ib_2
def vf_Ib:VF:={ pm:=[.ro [.ro [.sc,.sc,.ro [.sc]]],.ro [.sc],.ro [.sc],.ro [.sc]],rm:=[.v [.own [.sc,.sc,.own [.sc]]]],nslots:=87,res:=[8],rc:=[],code:=.kp [0,1,2,3] c_Ib_0 }
def c_Sl_2:VC:=
 .seq (.r 1 [M 3 0,
  {op:=.bin 4 .geq (.s 3) (.k (.int .i64 0))},
  M 5 4,
  ⟨none,[],some (5,true),.mv 6 (.s 0)⟩,
  ⟨none,[],some (5,true),.bin 7 .leq (.s 6) (.k (.int .i64 359999999))⟩,
  {op:=.pick 8 (.s 5) (.s 7) (.k (.bool false))},
  M 2 8]) (.ret)
def c_Sl_0:VC:=
 .seq (.r 0 [oK 2 false]) c_Sl_2
def vf_Sl:VF:={ pm:=[.ro [.sc]],rm:=[.v [.sc]],nslots:=9,res:=[2],rc:=[],code:=.kp [0] c_Sl_0 }
def c_Sg_10:VC:=
 .ite (.s 7) (.skip) (.exit 0)
def c_Sg_17:VC:=
 .ite (.s 19) (.seq (.r 5 [oK 2 false]) (.ret)) (.skip)
def c_Sg_22:VC:=
 .r 3 [M 8 3,
  {op:=.bin 9 .add (.s 8) (.k (.int .i64 1))},
  M 3 9]
def c_Sg_13:VC:=
 .seq (.blk 1 (.seq (.r 4 [M 10 0,
  M 11 3,
  {op:=.idx 12 (.s 10) (.s 11)},
  {op:=.bin 13 .lss (.s 12) (.k (.int .u8 32))},
  M 14 13,
  ⟨none,[],some (14,false),.mv 15 (.s 0)⟩,
  ⟨none,[],some (14,false),.mv 16 (.s 3)⟩,
  ⟨none,[],some (14,false),.idx 17 (.s 15) (.s 16)⟩,
  ⟨none,[],some (14,false),.bin 18 .gtr (.s 17) (.k (.int .u8 126))⟩,
  {op:=.pick 19 (.s 14) (.k (.bool true)) (.s 18)}]) c_Sg_17)) c_Sg_22
def c_Sg_7:VC:=
 .seq (.seq (.r 2 [M 4 3,
  M 5 0,
  {op:=.slen 6 (.s 5)},
  {op:=.bin 7 .lss (.s 4) (.s 6)}]) c_Sg_10) c_Sg_13
def c_Sg_5:VC:=
 .blk 0 (.loop [0,3] c_Sg_7)
def c_Sg_23:VC:=
 .seq (.r 6 [oK 2 true]) (.ret)
def c_Sg_2:VC:=
 .seq (.seq (.r 1 [oN 3 0]) c_Sg_5) (.kp [] c_Sg_23)
def c_Sg_0:VC:=
 .seq (.r 0 [oK 2 false]) c_Sg_2
def vf_Sg:VF:={ pm:=[.ro [.sc]],rm:=[.v [.sc]],nslots:=20,res:=[2],rc:=[],code:=.kp [0] c_Sg_0 }
def c_Sk_19:VC:=
 .ite (.s 35) (.seq (.r 5 [oK 2 false]) (.ret)) (.skip)
def c_Sk_17:VC:=
 .seq (.r 4 [M 11 4,
  {op:=.slen 12 (.s 11)},
  {op:=.bin 13 .lss (.s 12) (.k (.int .i64 1))},
  M 14 13,
  ⟨none,[],some (14,false),.mv 15 (.s 4)⟩,
  ⟨none,[],some (14,false),.slen 16 (.s 15)⟩,
  ⟨none,[],some (14,false),.bin 17 .gtr (.s 16) (.k (.int .i64 80))⟩,
  {op:=.pick 18 (.s 14) (.k (.bool true)) (.s 17)},
  M 19 18,
  ⟨none,[],some (19,false),.mv 20 (.s 4)⟩,
  ⟨none,[],some (19,false),.call 21 50 [(.s 20)]⟩,
  ⟨none,[],some (19,false),.un 22 .not (.s 21)⟩,
  {op:=.pick 23 (.s 19) (.k (.bool true)) (.s 22)},
  M 24 23,
  ⟨none,[],some (24,false),.mv 25 (.s 4)⟩,
  ⟨none,[],some (24,false),.mv 26 (.s 4)⟩,
  ⟨none,[],some (24,false),.slen 27 (.s 26)⟩,
  ⟨none,[],some (24,false),.bin 28 .sub (.s 27) (.k (.int .i64 1))⟩,
  ⟨none,[],some (24,false),.idx 29 (.s 25) (.s 28)⟩,
  ⟨none,[],some (24,false),.bin 30 .eql (.s 29) (.k (.int .u8 32))⟩,
  {op:=.pick 31 (.s 24) (.k (.bool true)) (.s 30)},
  M 32 31,
  ⟨none,[],some (32,false),.mv 33 (.s 4)⟩,
  ⟨none,[],some (32,false),.call 34 51 [(.s 33)]⟩,
  {op:=.pick 35 (.s 32) (.k (.bool true)) (.s 34)}]) c_Sk_19
def c_Sk_24:VC:=
 .r 6 [{op:=.bin 36 .add (.s 7) (.k (.int .i64 1))},
  M 7 36]
def c_Sk_13:VC:=
 .seq (.blk 1 (.seq (.r 3 [oX 9 5 7 1,
  oL 10 9 1,
  M 4 10]) c_Sk_17)) c_Sk_24
def c_Sk_9:VC:=
 .seq (.ite (.s 8) (.skip) (.exit 0)) c_Sk_13
def c_Sk_7:VC:=
 .seq (.r 2 [{op:=.bin 8 .lss (.s 7) (.s 6)}]) c_Sk_9
def c_Sk_5:VC:=
 .blk 0 (.loop [0,5,6,7] c_Sk_7)
def c_Sk_25:VC:=
 .seq (.r 7 [M 37 0,
  {op:=.len 38 (.s 37)},
  {op:=.bin 39 .geq (.s 38) (.k (.int .i64 1))},
  M 40 39,
  ⟨none,[],some (40,true),.mv 41 (.s 0)⟩,
  ⟨none,[],some (40,true),.len 42 (.s 41)⟩,
  ⟨none,[],some (40,true),.bin 43 .leq (.s 42) (.k (.int .i64 4))⟩,
  {op:=.pick 44 (.s 40) (.s 43) (.k (.bool false))},
  M 2 44]) (.ret)
def c_Sk_2:VC:=
 .seq (.seq (.r 1 [M 5 0,
  {op:=.len 6 (.s 5)},
  oN 7 0]) c_Sk_5) (.kp [0] c_Sk_25)
def c_Sk_0:VC:=
 .seq (.r 0 [oK 2 false]) c_Sk_2
def vf_Sk:VF:={ pm:=[.ro [.ro [.sc]]],rm:=[.v [.sc]],nslots:=45,res:=[2],rc:=[],code:=.kp [0] c_Sk_0 }
def c_Sc_5:VC:=
 .ite (.s 7) (.seq (.r 2 [oK 2 false]) (.ret)) (.skip)
def c_Sc_27:VC:=
 .ite (.s 52) (.seq (.r 7 [oK 2 false]) (.ret)) (.skip)
def c_Sc_25:VC:=
 .seq (.d 6 [(0,oG 15 4 0),
  (1,oV 16 15 1),
  (2,{op:=.call 17 33 [(.s 16)]}),
  (3,{op:=.un 18 .not (.s 17)}),
  (4,M 19 18),
  (5,⟨none,[],some (19,false),.fadv 20 (.s 4) 1⟩),
  (6,⟨none,[],some (19,false),.ldv 21 (.s 20) 1 false⟩),
  (7,⟨none,[],some (19,false),.call 22 33 [(.s 21)]⟩),
  (8,⟨none,[],some (19,false),.un 23 .not (.s 22)⟩),
  (9,{op:=.pick 24 (.s 19) (.k (.bool true)) (.s 23)}),
  (10,M 25 24),
  (11,⟨none,[],some (25,false),.fadv 26 (.s 4) 0⟩),
  (12,⟨none,[],some (25,false),.ldv 27 (.s 26) 1 false⟩),
  (13,⟨none,[],some (25,false),.fadv 28 (.s 4) 1⟩),
  (14,⟨none,[],some (25,false),.ldv 29 (.s 28) 1 false⟩),
  (15,⟨none,[],some (25,false),.bin 30 .geq (.s 27) (.s 29)⟩),
  (16,{op:=.pick 31 (.s 25) (.k (.bool true)) (.s 30)}),
  (17,M 32 31),
  (18,⟨none,[],some (32,false),.fadv 33 (.s 4) 2⟩),
  (19,⟨none,[],some (32,false),.ldv 34 (.s 33) 1 false⟩),
  (20,⟨none,[],some (32,false),.call 35 42 [(.s 34)]⟩),
  (21,⟨none,[],some (32,false),.un 36 .not (.s 35)⟩),
  (22,{op:=.pick 37 (.s 32) (.k (.bool true)) (.s 36)}),
  (23,M 38 37),
  (24,⟨none,[],some (38,false),.mv 39 (.s 3)⟩),
  (25,⟨none,[],some (38,false),.bin 40 .gtr (.s 39) (.k (.int .i64 0))⟩),
  (26,⟨none,[],some (38,false),.mv 41 (.s 40)⟩),
  (27,⟨none,[],some (41,true),.fadv 42 (.s 4) 0⟩),
  (28,⟨none,[],some (41,true),.ldv 43 (.s 42) 1 false⟩),
  (29,⟨none,[],some (41,true),.mv 44 (.s 0)⟩),
  (30,⟨none,[],some (41,true),.mv 45 (.s 3)⟩),
  (31,⟨none,[],some (41,true),.bin 46 .sub (.s 45) (.k (.int .i64 1))⟩),
  (32,⟨none,[],some (41,true),.iadr 47 (.s 44) (.s 46) 3⟩),
  (33,⟨none,[],some (41,true),.fadv 48 (.s 47) 0⟩),
  (34,⟨none,[],some (41,true),.ldv 49 (.s 48) 1 false⟩),
  (35,⟨none,[],some (41,true),.bin 50 .lss (.s 43) (.s 49)⟩),
  (36,⟨none,[],some (38,false),.pick 51 (.s 41) (.s 50) (.k (.bool false))⟩),
  (37,{op:=.pick 52 (.s 38) (.k (.bool true)) (.s 51)})]) c_Sc_27
def c_Sc_32:VC:=
 .r 8 [{op:=.bin 53 .add (.s 10) (.k (.int .i64 1))},
  M 10 53]
def c_Sc_21:VC:=
 .seq (.blk 1 (.seq (.r 5 [M 12 10,
  oX 13 8 10 3,
  {op:=.ld 14 (.s 13) 3 true},
  {op:=.alloc 4 [.k (.int .i64 0),.k (.int .i64 0),.o [.sc]]},
  M 3 12,
  oS 4 14 3]) c_Sc_25)) c_Sc_32
def c_Sc_17:VC:=
 .seq (.ite (.s 11) (.skip) (.exit 0)) c_Sc_21
def c_Sc_15:VC:=
 .seq (.r 4 [{op:=.bin 11 .lss (.s 10) (.s 9)}]) c_Sc_17
def c_Sc_13:VC:=
 .blk 0 (.loop [0,8,9,10] c_Sc_15)
def c_Sc_33:VC:=
 .seq (.r 9 [oK 2 true]) (.ret)
def c_Sc_10:VC:=
 .seq (.seq (.r 3 [M 8 0,
  {op:=.len 9 (.s 8)},
  oN 10 0]) c_Sc_13) (.kp [] c_Sc_33)
def c_Sc_2:VC:=
 .seq (.seq (.r 1 [M 5 0,
  {op:=.len 6 (.s 5)},
  {op:=.bin 7 .gtr (.s 6) (.k (.int .i64 200))}]) c_Sc_5) c_Sc_10
def c_Sc_0:VC:=
 .seq (.r 0 [oK 2 false]) c_Sc_2
def vf_Sc:VF:={ pm:=[.ro [.ro [.sc,.sc,.ro [.sc]]]],rm:=[.v [.sc]],nslots:=54,res:=[2],rc:=[],code:=.kp [0] c_Sc_0 }
def c_Si_7:VC:=
 .ite (.s 12) (.r 3 [M 13 5,
  {op:=.bin 14 .sub (.s 13) (.k (.int .i64 1))},
  M 5 14]) (.skip)
def c_Si_10:VC:=
 .seq (.r 4 [M 15 5,
  M 4 15]) (.ret)
def c_Si_4:VC:=
 .seq (.seq (.r 2 [M 9 0,
  M 10 1,
  {op:=.bin 11 .rem (.s 9) (.s 10)},
  {op:=.bin 12 .lss (.s 11) (.k (.int .i64 0))}]) c_Si_7) c_Si_10
def c_Si_2:VC:=
 .seq (.r 1 [M 6 0,
  M 7 1,
  {op:=.bin 8 .quo (.s 6) (.s 7)},
  M 5 8]) c_Si_4
def c_Si_0:VC:=
 .seq (.r 0 [oN 4 0]) c_Si_2
def vf_Si:VF:={ pm:=[.ro [.sc],.ro [.sc]],rm:=[.v [.sc]],nslots:=16,res:=[4],rc:=[],code:=.kp [0,1] c_Si_0 }
def c_Sd_5:VC:=
 .ite (.s 41) (.seq (.r 2 [{op:=.nil 8 [.sc,.sc,.own [.sc]]}]) (.ret)) (.skip)
def c_Sd_34:VC:=
 .ite (.s 74) (.exit 1) (.skip)
def c_Sd_40:VC:=
 .ite (.s 76) (.r 11 [oN 12 0]) (.skip)
def c_Sd_47:VC:=
 .r 14 [M 81 9,
  M 82 12,
  M 83 13,
  M 84 14,
  {op:=.bld 85 [.k (.int .i64 0),.k (.int .i64 0),.k (.slice none 0 0)] [(0,1,(.s 82)),(1,1,(.s 83)),(2,1,(.s 84))]},
  {op:=.lits 86 [.sc,.sc,.own [.sc]] [(.s 85)]},
  {op:=.app 87 (.s 81) (.s 86) [.sc,.sc,.own [.sc]] 3518437208883},
  M 9 87]
def c_Sd_45:VC:=
 .seq (.r 13 [M 77 14,
  oF 78 11 2,
  oL 79 78 1,
  {op:=.app 80 (.s 77) (.s 79) [.sc] 8796093022208},
  M 14 80]) c_Sd_47
def c_Sd_43:VC:=
 .seq (.r 12 [{op:=.nil 14 [.sc]}]) c_Sd_45
def c_Sd_37:VC:=
 .seq (.seq (.r 10 [M 75 12,
  {op:=.bin 76 .lss (.s 75) (.k (.int .i64 0))}]) c_Sd_40) (.kp [1,2,3,9,11,12,13,42,43,44] c_Sd_43)
def c_Sd_31:VC:=
 .seq (.seq (.r 9 [M 64 13,
  {op:=.bin 65 .leq (.s 64) (.k (.int .i64 0))},
  M 66 65,
  ⟨none,[],some (66,false),.mv 67 (.s 12)⟩,
  ⟨none,[],some (66,false),.mv 68 (.s 13)⟩,
  ⟨none,[],some (66,false),.bin 69 .geq (.s 67) (.s 68)⟩,
  {op:=.pick 70 (.s 66) (.k (.bool true)) (.s 69)},
  M 71 70,
  ⟨none,[],some (71,false),.mv 72 (.s 13)⟩,
  ⟨none,[],some (71,false),.bin 73 .gtr (.s 72) (.k (.int .i64 359999999))⟩,
  {op:=.pick 74 (.s 71) (.k (.bool true)) (.s 73)}]) c_Sd_34) c_Sd_37
def c_Sd_29:VC:=
 .seq (.r 8 [oF 56 11 1,
  oL 57 56 1,
  M 58 1,
  {op:=.bin 59 .mul (.s 57) (.s 58)},
  M 60 2,
  {op:=.call 61 38 [(.s 59),(.s 60)]},
  M 62 3,
  {op:=.bin 63 .add (.s 61) (.s 62)},
  M 13 63]) c_Sd_31
def c_Sd_27:VC:=
 .seq (.r 7 [oF 48 11 0,
  oL 49 48 1,
  M 50 1,
  {op:=.bin 51 .mul (.s 49) (.s 50)},
  M 52 2,
  {op:=.call 53 38 [(.s 51),(.s 52)]},
  M 54 3,
  {op:=.bin 55 .add (.s 53) (.s 54)},
  M 12 55]) c_Sd_29
def c_Sd_48:VC:=
 .r 15 [{op:=.bin 88 .add (.s 44) (.k (.int .i64 1))},
  M 44 88]
def c_Sd_23:VC:=
 .seq (.blk 1 (.seq (.r 6 [oX 46 42 44 3,
  {op:=.ld 47 (.s 46) 3 true},
  {op:=.alloc 11 [.k (.int .i64 0),.k (.int .i64 0),.o [.sc]]},
  oS 11 47 3]) c_Sd_27)) c_Sd_48
def c_Sd_19:VC:=
 .seq (.ite (.s 45) (.skip) (.exit 0)) c_Sd_23
def c_Sd_17:VC:=
 .seq (.r 5 [{op:=.bin 45 .lss (.s 44) (.s 43)}]) c_Sd_19
def c_Sd_15:VC:=
 .blk 0 (.loop [1,2,3,9,42,43,44] c_Sd_17)
def c_Sd_49:VC:=
 .seq (.r 16 [M 89 9,
  M 8 89]) (.ret)
def c_Sd_12:VC:=
 .seq (.seq (.r 4 [M 42 0,
  {op:=.len 43 (.s 42)},
  oN 44 0]) c_Sd_15) (.kp [9] c_Sd_49)
def c_Sd_10:VC:=
 .seq (.r 3 [{op:=.nil 9 [.sc,.sc,.own [.sc]]}]) c_Sd_12
def c_Sd_2:VC:=
 .seq (.seq (.r 1 [M 15 0,
  {op:=.call 16 27 [(.s 15)]},
  {op:=.un 17 .not (.s 16)},
  M 18 17,
  ⟨none,[],some (18,false),.mv 19 (.s 1)⟩,
  ⟨none,[],some (18,false),.bin 20 .lss (.s 19) (.k (.int .i64 1))⟩,
  {op:=.pick 21 (.s 18) (.k (.bool true)) (.s 20)},
  M 22 21,
  ⟨none,[],some (22,false),.mv 23 (.s 1)⟩,
  ⟨none,[],some (22,false),.bin 24 .gtr (.s 23) (.k (.int .i64 1000000))⟩,
  {op:=.pick 25 (.s 22) (.k (.bool true)) (.s 24)},
  M 26 25,
  ⟨none,[],some (26,false),.mv 27 (.s 2)⟩,
  ⟨none,[],some (26,false),.bin 28 .lss (.s 27) (.k (.int .i64 1))⟩,
  {op:=.pick 29 (.s 26) (.k (.bool true)) (.s 28)},
  M 30 29,
  ⟨none,[],some (30,false),.mv 31 (.s 2)⟩,
  ⟨none,[],some (30,false),.bin 32 .gtr (.s 31) (.k (.int .i64 1000000))⟩,
  {op:=.pick 33 (.s 30) (.k (.bool true)) (.s 32)},
  M 34 33,
  ⟨none,[],some (34,false),.mv 35 (.s 3)⟩,
  ⟨none,[],some (34,false),.bin 36 .lss (.s 35) (.k (.int .i64 (-359999999)))⟩,
  {op:=.pick 37 (.s 34) (.k (.bool true)) (.s 36)},
  M 38 37,
  ⟨none,[],some (38,false),.mv 39 (.s 3)⟩,
  ⟨none,[],some (38,false),.bin 40 .gtr (.s 39) (.k (.int .i64 359999999))⟩,
  {op:=.pick 41 (.s 38) (.k (.bool true)) (.s 40)}]) c_Sd_5) c_Sd_10
def c_Sd_0:VC:=
 .seq (.r 0 [{op:=.nil 8 [.sc,.sc,.own [.sc]]}]) c_Sd_2
def vf_Sd:VF:={ pm:=[.ro [.ro [.sc,.sc,.ro [.sc]]],.ro [.sc],.ro [.sc],.ro [.sc]],rm:=[.v [.own [.sc,.sc,.own [.sc]]]],nslots:=90,res:=[8],rc:=[],code:=.kp [0,1,2,3] c_Sd_0 }
def c_Se_5:VC:=
 .ite (.s 11) (.seq (.r 2 [oK 4 false]) (.ret)) (.skip)
def c_Se_28:VC:=
 .ite (.s 55) (.seq (.r 7 [oK 4 false]) (.ret)) (.skip)
def c_Se_49:VC:=
 .ite (.s 81) (.seq (.r 12 [oK 4 false]) (.ret)) (.skip)
def c_Se_47:VC:=
 .seq (.d 11 [(0,M 65 0),
  (1,M 66 5),
  (2,oX 67 65 66 3),
  (3,oG 68 67 2),
  (4,oV 69 68 1),
  (5,M 70 6),
  (6,oX 71 69 70 1),
  (7,oV 72 71 1),
  (8,M 73 1),
  (9,M 74 5),
  (10,oX 75 73 74 3),
  (11,oG 76 75 2),
  (12,oV 77 76 1),
  (13,M 78 6),
  (14,oX 79 77 78 1),
  (15,oV 80 79 1),
  (16,{op:=.bin 81 .neq (.s 72) (.s 80)})]) c_Se_49
def c_Se_54:VC:=
 .r 13 [{op:=.bin 82 .add (.s 62) (.k (.int .i64 1))},
  M 62 82]
def c_Se_43:VC:=
 .seq (.blk 3 (.seq (.r 10 [M 64 62,
  M 6 64]) c_Se_47)) c_Se_54
def c_Se_39:VC:=
 .seq (.ite (.s 63) (.skip) (.exit 2)) c_Se_43
def c_Se_37:VC:=
 .seq (.r 9 [{op:=.bin 63 .lss (.s 62) (.s 61)}]) c_Se_39
def c_Se_35:VC:=
 .blk 2 (.loop [0,1,5,13,14,61,62] c_Se_37)
def c_Se_33:VC:=
 .seq (.r 8 [M 56 0,
  M 57 5,
  oX 58 56 57 3,
  oF 59 58 2,
  oL 60 59 1,
  {op:=.len 61 (.s 60)},
  oN 62 0]) c_Se_35
def c_Se_25:VC:=
 .seq (.seq (.d 6 [(0,M 17 0),
  (1,M 18 5),
  (2,oX 19 17 18 3),
  (3,oG 20 19 0),
  (4,oV 21 20 1),
  (5,M 22 1),
  (6,M 23 5),
  (7,oX 24 22 23 3),
  (8,oG 25 24 0),
  (9,oV 26 25 1),
  (10,{op:=.bin 27 .neq (.s 21) (.s 26)}),
  (11,M 28 27),
  (12,⟨none,[],some (28,false),.mv 29 (.s 0)⟩),
  (13,⟨none,[],some (28,false),.mv 30 (.s 5)⟩),
  (14,⟨none,[],some (28,false),.iadr 31 (.s 29) (.s 30) 3⟩),
  (15,⟨none,[],some (28,false),.fadv 32 (.s 31) 1⟩),
  (16,⟨none,[],some (28,false),.ldv 33 (.s 32) 1 false⟩),
  (17,⟨none,[],some (28,false),.mv 34 (.s 1)⟩),
  (18,⟨none,[],some (28,false),.mv 35 (.s 5)⟩),
  (19,⟨none,[],some (28,false),.iadr 36 (.s 34) (.s 35) 3⟩),
  (20,⟨none,[],some (28,false),.fadv 37 (.s 36) 1⟩),
  (21,⟨none,[],some (28,false),.ldv 38 (.s 37) 1 false⟩),
  (22,⟨none,[],some (28,false),.bin 39 .neq (.s 33) (.s 38)⟩),
  (23,{op:=.pick 40 (.s 28) (.k (.bool true)) (.s 39)}),
  (24,M 41 40),
  (25,⟨none,[],some (41,false),.mv 42 (.s 0)⟩),
  (26,⟨none,[],some (41,false),.mv 43 (.s 5)⟩),
  (27,⟨none,[],some (41,false),.iadr 44 (.s 42) (.s 43) 3⟩),
  (28,⟨none,[],some (41,false),.fadv 45 (.s 44) 2⟩),
  (29,⟨none,[],some (41,false),.ldv 46 (.s 45) 1 false⟩),
  (30,⟨none,[],some (41,false),.len 47 (.s 46)⟩),
  (31,⟨none,[],some (41,false),.mv 48 (.s 1)⟩),
  (32,⟨none,[],some (41,false),.mv 49 (.s 5)⟩),
  (33,⟨none,[],some (41,false),.iadr 50 (.s 48) (.s 49) 3⟩),
  (34,⟨none,[],some (41,false),.fadv 51 (.s 50) 2⟩),
  (35,⟨none,[],some (41,false),.ldv 52 (.s 51) 1 false⟩),
  (36,⟨none,[],some (41,false),.len 53 (.s 52)⟩),
  (37,⟨none,[],some (41,false),.bin 54 .neq (.s 47) (.s 53)⟩),
  (38,{op:=.pick 55 (.s 41) (.k (.bool true)) (.s 54)})]) c_Se_28) c_Se_33
def c_Se_55:VC:=
 .r 14 [{op:=.bin 83 .add (.s 14) (.k (.int .i64 1))},
  M 14 83]
def c_Se_21:VC:=
 .seq (.blk 1 (.seq (.r 5 [M 16 14,
  M 5 16]) c_Se_25)) (.kp [0,1,13,14] c_Se_55)
def c_Se_17:VC:=
 .seq (.ite (.s 15) (.skip) (.exit 0)) c_Se_21
def c_Se_15:VC:=
 .seq (.r 4 [{op:=.bin 15 .lss (.s 14) (.s 13)}]) c_Se_17
def c_Se_13:VC:=
 .blk 0 (.loop [0,1,13,14] c_Se_15)
def c_Se_56:VC:=
 .seq (.r 15 [oK 4 true]) (.ret)
def c_Se_10:VC:=
 .seq (.seq (.r 3 [M 12 0,
  {op:=.len 13 (.s 12)},
  oN 14 0]) c_Se_13) (.kp [] c_Se_56)
def c_Se_2:VC:=
 .seq (.seq (.r 1 [M 7 0,
  {op:=.len 8 (.s 7)},
  M 9 1,
  {op:=.len 10 (.s 9)},
  {op:=.bin 11 .neq (.s 8) (.s 10)}]) c_Se_5) c_Se_10
def c_Se_0:VC:=
 .seq (.r 0 [oK 4 false]) c_Se_2
def vf_Se:VF:={ pm:=[.ro [.ro [.sc,.sc,.ro [.sc]]],.ro [.ro [.sc,.sc,.ro [.sc]]]],rm:=[.v [.sc]],nslots:=84,res:=[4],rc:=[],code:=.kp [0,1] c_Se_0 }
def c_Sb_16:VC:=
 .ite (.s 36) (.d 7 [(0,{op:=.fadk 37 (.s 7) 1 1}),
  (1,{op:=.ldk 38 (.s 37) 1 1 false}),
  (2,{op:=.bin 39 .sub (.s 38) (.k (.int .i64 1))}),
  (3,M 40 5),
  (4,⟨some [1048577],[],none,.call 41 30 [(.s 40),(.k (.int .i64 2))]⟩),
  (5,{op:=.bin 42 .add (.s 39) (.s 41)}),
  (6,M 6 42)]) (.skip)
def c_Sb_14:VC:=
 .seq (.r 6 [M 35 5,
  {op:=.call 36 31 [(.s 35),(.k (.int .i64 2))]}]) c_Sb_16
def c_Sb_12:VC:=
 .seq (.d 5 [(0,{op:=.fadk 29 (.s 7) 1 0}),
  (1,{op:=.ldk 30 (.s 29) 1 1 false}),
  (2,{op:=.bin 31 .sub (.s 30) (.k (.int .i64 1))}),
  (3,M 32 5),
  (4,⟨some [1048577],[],none,.call 33 30 [(.s 32),(.k (.int .i64 3))]⟩),
  (5,{op:=.bin 34 .add (.s 31) (.s 33)}),
  (6,M 6 34)]) c_Sb_14
def c_Sb_9:VC:=
 .ite (.s 21) (.seq (.r 4 [M 22 4,
  M 23 5,
  M 24 4,
  {op:=.len 25 (.s 24)},
  {op:=.call 26 30 [(.s 23),(.s 25)]},
  oX 27 22 26 3,
  {op:=.ld 28 (.s 27) 3 true},
  {op:=.alloc 7 [.k (.int .i64 0),.k (.int .i64 0),.k (.slice none 0 0)]},
  oS 7 28 3]) c_Sb_12) (.skip)
def c_Sb_20:VC:=
 .seq (.r 8 [M 43 4,
  M 44 6,
  M 2 43,
  M 3 44]) (.ret)
def c_Sb_6:VC:=
 .seq (.seq (.r 3 [M 15 4,
  {op:=.len 16 (.s 15)},
  {op:=.bin 17 .gtr (.s 16) (.k (.int .i64 0))},
  M 18 17,
  ⟨none,[],some (18,true),.mv 19 (.s 5)⟩,
  ⟨none,[],some (18,true),.call 20 31 [(.s 19),(.k (.int .i64 2))]⟩,
  {op:=.pick 21 (.s 18) (.s 20) (.k (.bool false))}]) (.kp [4,5,6,21] c_Sb_9)) (.kp [4,6] c_Sb_20)
def c_Sb_4:VC:=
 .seq (.r 2 [M 13 5,
  {op:=.call 14 30 [(.s 13),(.k (.int .i64 20000))]},
  M 6 14]) c_Sb_6
def c_Sb_2:VC:=
 .seq (.r 1 [M 9 0,
  {op:=.call 10 29 [(.s 9)]},
  M 8 10,
  {op:=.ext 11 (.s 8) 0},
  {op:=.ext 12 (.s 8) 1},
  M 4 11,
  M 5 12]) c_Sb_4
def c_Sb_0:VC:=
 .seq (.r 0 [{op:=.nil 2 [.sc,.sc,.ro [.sc]]},
  oN 3 0]) c_Sb_2
def vf_Sb:VF:={ pm:=[.ro [.ro [.sc]]],rm:=[.v [.own [.sc,.sc,.ro [.sc]]],.v [.sc]],nslots:=45,res:=[2,3],rc:=[],code:=.kp [0] c_Sb_0 }
def c_Ic_5:VC:=
 .ite (.s 15) (.seq (.r 2 [{op:=.nil 4 [.sc]}]) (.ret)) (.skip)
def c_Ic_29:VC:=
 .ite (.s 32) (.r 8 [M 33 5,
  M 34 6,
  {op:=.lits 35 [.sc] [(.s 34)]},
  {op:=.app 36 (.s 33) (.s 35) [.sc] 17592186044416},
  M 5 36]) (.skip)
def c_Ic_27:VC:=
 .seq (.r 7 [oF 23 7 0,
  oL 24 23 1,
  M 25 1,
  {op:=.bin 26 .leq (.s 24) (.s 25)},
  M 27 26,
  ⟨none,[],some (27,true),.mv 28 (.s 1)⟩,
  ⟨none,[],some (27,true),.fadr 29 (.s 7) 1⟩,
  ⟨none,[],some (27,true),.ld 30 (.s 29) 1 false⟩,
  ⟨none,[],some (27,true),.bin 31 .lss (.s 28) (.s 30)⟩,
  {op:=.pick 32 (.s 27) (.s 31) (.k (.bool false))}]) (.kp [1,5,6,16,17,18,32] c_Ic_29)
def c_Ic_32:VC:=
 .r 9 [{op:=.bin 37 .add (.s 18) (.k (.int .i64 1))},
  M 18 37]
def c_Ic_23:VC:=
 .seq (.blk 1 (.seq (.r 6 [M 20 18,
  oX 21 16 18 3,
  {op:=.ld 22 (.s 21) 3 true},
  {op:=.alloc 7 [.k (.int .i64 0),.k (.int .i64 0),.o [.sc]]},
  M 6 20,
  oS 7 22 3]) c_Ic_27)) c_Ic_32
def c_Ic_19:VC:=
 .seq (.ite (.s 19) (.skip) (.exit 0)) c_Ic_23
def c_Ic_17:VC:=
 .seq (.r 5 [{op:=.bin 19 .lss (.s 18) (.s 17)}]) c_Ic_19
def c_Ic_15:VC:=
 .blk 0 (.loop [1,5,16,17,18] c_Ic_17)
def c_Ic_33:VC:=
 .seq (.r 10 [M 38 5,
  M 4 38]) (.ret)
def c_Ic_12:VC:=
 .seq (.seq (.r 4 [M 16 0,
  {op:=.len 17 (.s 16)},
  oN 18 0]) c_Ic_15) (.kp [5] c_Ic_33)
def c_Ic_10:VC:=
 .seq (.r 3 [{op:=.nil 5 [.sc]}]) c_Ic_12
def c_Ic_2:VC:=
 .seq (.seq (.r 1 [M 8 0,
  {op:=.call 9 26 [(.s 8)]},
  {op:=.un 10 .not (.s 9)},
  M 11 10,
  ⟨none,[],some (11,false),.mv 12 (.s 1)⟩,
  ⟨none,[],some (11,false),.call 13 35 [(.s 12)]⟩,
  ⟨none,[],some (11,false),.un 14 .not (.s 13)⟩,
  {op:=.pick 15 (.s 11) (.k (.bool true)) (.s 14)}]) c_Ic_5) c_Ic_10
def c_Ic_0:VC:=
 .seq (.r 0 [{op:=.nil 4 [.sc]}]) c_Ic_2
def vf_Ic:VF:={ pm:=[.ro [.ro [.sc,.sc,.ro [.sc]]],.ro [.sc]],rm:=[.v [.own [.sc]]],nslots:=39,res:=[4],rc:=[],code:=.kp [0,1] c_Ic_0 }
def c_Sf_5:VC:=
 .ite (.s 15) (.seq (.r 2 [{op:=.nil 4 [.sc]}]) (.ret)) (.skip)
def c_Sf_29:VC:=
 .ite (.s 32) (.r 8 [M 33 5,
  M 34 6,
  {op:=.lits 35 [.sc] [(.s 34)]},
  {op:=.app 36 (.s 33) (.s 35) [.sc] 17592186044416},
  M 5 36]) (.skip)
def c_Sf_27:VC:=
 .seq (.r 7 [oF 23 7 0,
  oL 24 23 1,
  M 25 1,
  {op:=.bin 26 .leq (.s 24) (.s 25)},
  M 27 26,
  ⟨none,[],some (27,true),.mv 28 (.s 1)⟩,
  ⟨none,[],some (27,true),.fadr 29 (.s 7) 1⟩,
  ⟨none,[],some (27,true),.ld 30 (.s 29) 1 false⟩,
  ⟨none,[],some (27,true),.bin 31 .lss (.s 28) (.s 30)⟩,
  {op:=.pick 32 (.s 27) (.s 31) (.k (.bool false))}]) (.kp [1,5,6,16,17,18,32] c_Sf_29)
def c_Sf_32:VC:=
 .r 9 [{op:=.bin 37 .add (.s 18) (.k (.int .i64 1))},
  M 18 37]
def c_Sf_23:VC:=
 .seq (.blk 1 (.seq (.r 6 [M 20 18,
  oX 21 16 18 3,
  {op:=.ld 22 (.s 21) 3 true},
  {op:=.alloc 7 [.k (.int .i64 0),.k (.int .i64 0),.o [.sc]]},
  M 6 20,
  oS 7 22 3]) c_Sf_27)) c_Sf_32
def c_Sf_19:VC:=
 .seq (.ite (.s 19) (.skip) (.exit 0)) c_Sf_23
def c_Sf_17:VC:=
 .seq (.r 5 [{op:=.bin 19 .lss (.s 18) (.s 17)}]) c_Sf_19
def c_Sf_15:VC:=
 .blk 0 (.loop [1,5,16,17,18] c_Sf_17)
def c_Sf_33:VC:=
 .seq (.r 10 [M 38 5,
  M 4 38]) (.ret)
def c_Sf_12:VC:=
 .seq (.seq (.r 4 [M 16 0,
  {op:=.len 17 (.s 16)},
  oN 18 0]) c_Sf_15) (.kp [5] c_Sf_33)
def c_Sf_10:VC:=
 .seq (.r 3 [{op:=.nil 5 [.sc]}]) c_Sf_12
def c_Sf_2:VC:=
 .seq (.seq (.r 1 [M 8 0,
  {op:=.call 9 27 [(.s 8)]},
  {op:=.un 10 .not (.s 9)},
  M 11 10,
  ⟨none,[],some (11,false),.mv 12 (.s 1)⟩,
  ⟨none,[],some (11,false),.call 13 33 [(.s 12)]⟩,
  ⟨none,[],some (11,false),.un 14 .not (.s 13)⟩,
  {op:=.pick 15 (.s 11) (.k (.bool true)) (.s 14)}]) c_Sf_5) c_Sf_10
def c_Sf_0:VC:=
 .seq (.r 0 [{op:=.nil 4 [.sc]}]) c_Sf_2
def vf_Sf:VF:={ pm:=[.ro [.ro [.sc,.sc,.ro [.sc]]],.ro [.sc]],rm:=[.v [.own [.sc]]],nslots:=39,res:=[4],rc:=[],code:=.kp [0,1] c_Sf_0 }
def c_La_5:VC:=
 .ite (.s 10) (.seq (.r 2 [oK 4 false]) (.ret)) (.skip)
def c_La_27:VC:=
 .ite (.s 24) (.seq (.r 7 [oK 4 false]) (.ret)) (.skip)
def c_La_25:VC:=
 .seq (.d 6 [(0,M 16 0),
  (1,M 17 5),
  (2,oX 18 16 17 1),
  (3,oV 19 18 1),
  (4,M 20 1),
  (5,M 21 5),
  (6,oX 22 20 21 1),
  (7,oV 23 22 1),
  (8,{op:=.bin 24 .neq (.s 19) (.s 23)})]) c_La_27
def c_La_32:VC:=
 .r 8 [{op:=.bin 25 .add (.s 13) (.k (.int .i64 1))},
  M 13 25]
def c_La_21:VC:=
 .seq (.blk 1 (.seq (.r 5 [M 15 13,
  M 5 15]) c_La_25)) c_La_32
def c_La_17:VC:=
 .seq (.ite (.s 14) (.skip) (.exit 0)) c_La_21
def c_La_15:VC:=
 .seq (.r 4 [{op:=.bin 14 .lss (.s 13) (.s 12)}]) c_La_17
def c_La_13:VC:=
 .blk 0 (.loop [0,1,12,13] c_La_15)
def c_La_33:VC:=
 .seq (.r 9 [oK 4 true]) (.ret)
def c_La_10:VC:=
 .seq (.seq (.r 3 [M 11 0,
  {op:=.len 12 (.s 11)},
  oN 13 0]) c_La_13) (.kp [] c_La_33)
def c_La_2:VC:=
 .seq (.seq (.r 1 [M 6 0,
  {op:=.len 7 (.s 6)},
  M 8 1,
  {op:=.len 9 (.s 8)},
  {op:=.bin 10 .neq (.s 7) (.s 9)}]) c_La_5) c_La_10
def c_La_0:VC:=
 .seq (.r 0 [oK 4 false]) c_La_2
def vf_La:VF:={ pm:=[.ro [.ro [.sc]],.ro [.ro [.sc]]],rm:=[.v [.sc]],nslots:=26,res:=[4],rc:=[],code:=.kp [0,1] c_La_0 }
def c_laws_FnRetimed_5:VC:=
 .ite (.s 15) (.seq (.r 2 [oK 2 true]) (.ret)) (.skip)
def c_laws_FnRetimed_17:VC:=
 .ite (.s 45) (.seq (.r 6 [oK 2 false]) (.ret)) (.skip)
def c_laws_FnRetimed_25:VC:=
 .ite (.s 48) (.seq (.r 8 [M 49 7,
  {op:=.len 50 (.s 49)},
  {op:=.bin 51 .eql (.s 50) (.k (.int .i64 0))},
  M 2 51]) (.ret)) (.skip)
def c_laws_FnRetimed_37:VC:=
 .ite (.s 72) (.seq (.r 12 [oK 2 false]) (.ret)) (.skip)
def c_laws_FnRetimed_46:VC:=
 .seq (.r 15 [M 81 12,
  M 82 3,
  M 83 11,
  {op:=.call 84 13 [(.s 82),(.s 83)]},
  {op:=.call 85 10 [(.s 81),(.s 84)]},
  M 2 85]) (.ret)
def c_laws_FnRetimed_44:VC:=
 .seq (.r 14 [M 78 3,
  M 79 11,
  {op:=.call 80 15 [(.s 78),(.s 79)]},
  M 12 80]) c_laws_FnRetimed_46
def c_laws_FnRetimed_42:VC:=
 .seq (.r 13 [M 74 0,
  {op:=.call 75 28 [(.s 74)]},
  M 73 75,
  {op:=.ext 76 (.s 73) 0},
  {op:=.ext 77 (.s 73) 1},
  M 10 76,
  M 11 77]) c_laws_FnRetimed_44
def c_laws_FnRetimed_34:VC:=
 .seq (.seq (.r 11 [M 59 9,
  {op:=.len 60 (.s 59)},
  M 61 3,
  {op:=.len 62 (.s 61)},
  {op:=.bin 63 .eql (.s 60) (.s 62)},
  M 64 63,
  ⟨none,[],some (64,true),.mv 65 (.s 9)⟩,
  ⟨none,[],some (64,true),.mv 66 (.s 8)⟩,
  ⟨none,[],some (64,true),.un 67 .neg (.s 66)⟩,
  ⟨none,[],some (64,true),.call 68 22 [(.s 65),(.k (.int .i64 1)),(.k (.int .i64 1)),(.s 67)]⟩,
  ⟨none,[],some (64,true),.mv 69 (.s 3)⟩,
  ⟨none,[],some (64,true),.call 70 25 [(.s 68),(.s 69)]⟩,
  ⟨none,[],some (64,true),.un 71 .not (.s 70)⟩,
  {op:=.pick 72 (.s 64) (.s 71) (.k (.bool false))}]) c_laws_FnRetimed_37) (.kp [0,3] c_laws_FnRetimed_42)
def c_laws_FnRetimed_32:VC:=
 .seq (.r 10 [M 56 3,
  M 57 8,
  {op:=.call 58 22 [(.s 56),(.k (.int .i64 1)),(.k (.int .i64 1)),(.s 57)]},
  M 9 58]) c_laws_FnRetimed_34
def c_laws_FnRetimed_30:VC:=
 .seq (.r 9 [M 52 0,
  {op:=.len 53 (.s 52)},
  {op:=.bin 54 .rem (.s 53) (.k (.int .i64 1000))},
  {op:=.bin 55 .add (.k (.int .i64 1)) (.s 54)},
  M 8 55]) c_laws_FnRetimed_32
def c_laws_FnRetimed_22:VC:=
 .seq (.seq (.r 7 [M 46 3,
  {op:=.call 47 27 [(.s 46)]},
  {op:=.un 48 .not (.s 47)}]) c_laws_FnRetimed_25) c_laws_FnRetimed_30
def c_laws_FnRetimed_14:VC:=
 .seq (.seq (.r 5 [M 28 7,
  M 29 3,
  M 30 4,
  M 31 5,
  M 32 6,
  {op:=.call 33 21 [(.s 29),(.s 30),(.s 31),(.s 32)]},
  {op:=.call 34 25 [(.s 28),(.s 33)]},
  {op:=.un 35 .not (.s 34)},
  M 36 35,
  ⟨none,[],some (36,false),.mv 37 (.s 7)⟩,
  ⟨none,[],some (36,false),.len 38 (.s 37)⟩,
  ⟨none,[],some (36,false),.bin 39 .gtr (.s 38) (.k (.int .i64 0))⟩,
  ⟨none,[],some (36,false),.mv 40 (.s 39)⟩,
  ⟨none,[],some (40,true),.mv 41 (.s 7)⟩,
  ⟨none,[],some (40,true),.call 42 26 [(.s 41)]⟩,
  ⟨none,[],some (40,true),.un 43 .not (.s 42)⟩,
  ⟨none,[],some (36,false),.pick 44 (.s 40) (.s 43) (.k (.bool false))⟩,
  {op:=.pick 45 (.s 36) (.k (.bool true)) (.s 44)}]) c_laws_FnRetimed_17) (.kp [0,3,7] c_laws_FnRetimed_22)
def c_laws_FnRetimed_12:VC:=
 .seq (.r 4 [M 23 3,
  M 24 4,
  M 25 5,
  M 26 6,
  {op:=.call 27 22 [(.s 23),(.s 24),(.s 25),(.s 26)]},
  M 7 27]) c_laws_FnRetimed_14
def c_laws_FnRetimed_10:VC:=
 .seq (.r 3 [M 17 0,
  {op:=.call 18 24 [(.s 17)]},
  M 16 18,
  {op:=.ext 19 (.s 16) 0},
  {op:=.ext 20 (.s 16) 1},
  {op:=.ext 21 (.s 16) 2},
  {op:=.ext 22 (.s 16) 3},
  M 3 19,
  M 4 20,
  M 5 21,
  M 6 22]) c_laws_FnRetimed_12
def c_laws_FnRetimed_2:VC:=
 .seq (.seq (.r 1 [M 13 0,
  {op:=.len 14 (.s 13)},
  {op:=.bin 15 .gtr (.s 14) (.k (.int .i64 1048576))}]) c_laws_FnRetimed_5) c_laws_FnRetimed_10
def c_laws_FnRetimed_0:VC:=
 .seq (.r 0 [oK 2 false]) c_laws_FnRetimed_2
def vf_laws_FnRetimed:VF:={ pm:=[.ro [.ro [.sc]]],rm:=[.v [.sc]],nslots:=86,res:=[2],rc:=[],code:=.kp [0] c_laws_FnRetimed_0 }
def ext:FuncId→List Arg→Option FRes:=fun f ars=>if f=53 then ex_strings_Contains ars else none
def tblL:List (FuncId×VF):=[(44,vf_Sn),(30,vf_Sp),(52,vf_Sq),(51,vf_Sj),(43,vf_Sm),(31,vf_So),(29,vf_Sh),(24,vf_Sa),(35,vf_Ig),(53,vf_strings_Contains),(49,vf_Ie),(41,vf_Id),(26,vf_Ia),(39,vf_If),(22,vf_Ib),(33,vf_Sl),(50,vf_Sg),(42,vf_Sk),(27,vf_Sc),(38,vf_Si),(21,vf_Sd),(25,vf_Se),(28,vf_Sb),(15,vf_Ic),(13,vf_Sf),(10,vf_La),(6,vf_laws_FnRetimed)]
def tbl:FuncId→Option VF:=fun f=>tblL.lookup f
end Go.Proofs.V

namespace Go.Proofs.V
open Go
theorem fi_Sn:funcIs Go.Proofs.Try.prog tbl 44 vf_Sn=true:=by kernel_rfl
theorem fi_Sp:funcIs Go.Proofs.Try.prog tbl 30 vf_Sp=true:=by kernel_rfl
theorem fi_Sq:funcIs Go.Proofs.Try.prog tbl 52 vf_Sq=true:=by kernel_rfl
theorem fi_Sj:funcIs Go.Proofs.Try.prog tbl 51 vf_Sj=true:=by kernel_rfl
theorem fi_Sm:funcIs Go.Proofs.Try.prog tbl 43 vf_Sm=true:=by kernel_rfl
theorem fi_So:funcIs Go.Proofs.Try.prog tbl 31 vf_So=true:=by kernel_rfl
theorem fi_Sh:funcIs Go.Proofs.Try.prog tbl 29 vf_Sh=true:=by kernel_rfl
theorem fi_Sa:funcIs Go.Proofs.Try.prog tbl 24 vf_Sa=true:=by kernel_rfl
theorem fi_Ig:funcIs Go.Proofs.Try.prog tbl 35 vf_Ig=true:=by kernel_rfl
theorem fi_Ie:funcIs Go.Proofs.Try.prog tbl 49 vf_Ie=true:=by kernel_rfl
theorem fi_Id:funcIs Go.Proofs.Try.prog tbl 41 vf_Id=true:=by kernel_rfl
theorem fi_Ia:funcIs Go.Proofs.Try.prog tbl 26 vf_Ia=true:=by kernel_rfl
theorem fi_If:funcIs Go.Proofs.Try.prog tbl 39 vf_If=true:=by kernel_rfl
theorem fi_Ib:funcIs Go.Proofs.Try.prog tbl 22 vf_Ib=true:=by kernel_rfl
theorem fi_Sl:funcIs Go.Proofs.Try.prog tbl 33 vf_Sl=true:=by kernel_rfl
theorem fi_Sg:funcIs Go.Proofs.Try.prog tbl 50 vf_Sg=true:=by kernel_rfl
theorem fi_Sk:funcIs Go.Proofs.Try.prog tbl 42 vf_Sk=true:=by kernel_rfl
theorem fi_Sc:funcIs Go.Proofs.Try.prog tbl 27 vf_Sc=true:=by kernel_rfl
theorem fi_Si:funcIs Go.Proofs.Try.prog tbl 38 vf_Si=true:=by kernel_rfl
theorem fi_Sd:funcIs Go.Proofs.Try.prog tbl 21 vf_Sd=true:=by kernel_rfl
theorem fi_Se:funcIs Go.Proofs.Try.prog tbl 25 vf_Se=true:=by kernel_rfl
theorem fi_Sb:funcIs Go.Proofs.Try.prog tbl 28 vf_Sb=true:=by kernel_rfl
theorem fi_Ic:funcIs Go.Proofs.Try.prog tbl 15 vf_Ic=true:=by kernel_rfl
theorem fi_Sf:funcIs Go.Proofs.Try.prog tbl 13 vf_Sf=true:=by kernel_rfl
theorem fi_La:funcIs Go.Proofs.Try.prog tbl 10 vf_La=true:=by kernel_rfl
theorem fi_laws_FnRetimed:funcIs Go.Proofs.Try.prog tbl 6 vf_laws_FnRetimed=true:=by kernel_rfl
def gI:GInv:=gCell 0
def ren_strings_Contains:Go.Shelf.Ren:=⟨fun n=>match n with | 144=>53 | 143=>54 | 219=>55 | 217=>56 | 225=>57 | 224=>58 | 267=>59 | 266=>60 | 314=>61 | n=>n,fun n=>match n with | 9=>9 | 4=>4 | 3=>3 | 5=>5 | 46=>70 | 146=>75 | 51=>74 | n=>n,fun n=>match n with | 1=>0 | n=>n⟩
theorem lays_strings_Contains:Go.Proofs.LaysM.n144 Go.Proofs.Try.prog ren_strings_Contains where
 mixed:=by kernel_rfl
 f143:=Go.Proofs.Try.func54.trans (congrArg some (by kernel_rfl))
 f144:=Go.Proofs.Try.func53.trans (congrArg some (by kernel_rfl))
 f217:=Go.Proofs.Try.func56.trans (congrArg some (by kernel_rfl))
 f219:=Go.Proofs.Try.func55.trans (congrArg some (by kernel_rfl))
 f224:=Go.Proofs.Try.func58.trans (congrArg some (by kernel_rfl))
 f225:=Go.Proofs.Try.func57.trans (congrArg some (by kernel_rfl))
 f266:=Go.Proofs.Try.func60.trans (congrArg some (by kernel_rfl))
 f267:=Go.Proofs.Try.func59.trans (congrArg some (by kernel_rfl))
 f314:=Go.Proofs.Try.func61.trans (congrArg some (by kernel_rfl))
 t3:=Go.Proofs.Try.underlying3
 a3:=Go.Proofs.Try.isAgg3
 z3:=Go.Proofs.Try.sizeOf3
 v3:=Go.Proofs.Try.zeroValue3
 t4:=Go.Proofs.Try.underlying4
 a4:=Go.Proofs.Try.isAgg4
 z4:=Go.Proofs.Try.sizeOf4
 v4:=Go.Proofs.Try.zeroValue4
 t5:=Go.Proofs.Try.underlying5
 a5:=Go.Proofs.Try.isAgg5
 z5:=Go.Proofs.Try.sizeOf5
 v5:=Go.Proofs.Try.zeroValue5
 t9:=Go.Proofs.Try.underlying9
 a9:=Go.Proofs.Try.isAgg9
 z9:=Go.Proofs.Try.sizeOf9
 v9:=Go.Proofs.Try.zeroValue9
 t46:=Go.Proofs.Try.underlying70
 a46:=Go.Proofs.Try.isAgg70
 z46:=Go.Proofs.Try.sizeOf70
 v46:=Go.Proofs.Try.zeroValue70
 t51:=Go.Proofs.Try.underlying74
 a51:=Go.Proofs.Try.isAgg74
 z51:=Go.Proofs.Try.sizeOf74
 v51:=Go.Proofs.Try.zeroValue74
 t146:=Go.Proofs.Try.underlying75
 a146:=Go.Proofs.Try.isAgg75
 z146:=Go.Proofs.Try.sizeOf75
 v146:=Go.Proofs.Try.zeroValue75
 g1:=by kernel_rfl
 i3:=by kernel_rfl
 i4:=by kernel_rfl
 i5:=by kernel_rfl
 i9:=by kernel_rfl
 i46:=by kernel_rfl
 i51:=by kernel_rfl
 i146:=by kernel_rfl
 m1:=by kernel_rfl
 s1_3:=fun w h=>Go.Proofs.cell_of_shapedOpen_int (zero:=#[.int .i64 0]) (t:=3) h (of_decide_eq_true (by kernel_rfl)) (by kernel_rfl) rfl (by kernel_rfl) (by kernel_rfl) Go.Proofs.Try.underlying3
theorem giv_strings_Contains (p0:ByteArray) (p1:ByteArray) (r:Bool) (h:gContains p0 p1=some r) (w:World) (hw:gI.I w):Calls Go.Proofs.Try.prog 53 [(.string p0:Value),(.string p1:Value)].toArray w fun e w'=>e=.returned (.bool r)∧w' = w:=by
 unfold gContains at h
 split at h
 ·rename_i hs
  obtain rfl:=Option.some.inj h
  obtain ⟨m,hm⟩:=hw
  exact Go.Proofs.Any.strings_Contains { lays_strings_Contains with } p0 p1 m w hs hm
 ·simp at h
theorem gv_strings_Contains:∀ ars res st0,enter vf_strings_Contains ars=some st0→ext 53 ars=some res→callable Go.Proofs.Try.prog 53=true∧Does gI Go.Proofs.Try.prog 53 vf_strings_Contains st0 res:=by
 intro ars res st0 he hx
 refine ⟨by kernel_rfl,?_⟩
 have key:∃ p0 p1,ars=[.v false [.lit (.string p0)],.v false [.lit (.string p1)]]∧(gContains p0 p1).map (fun r=>(⟨[.v false [.lit (.bool r)]],[]⟩:FRes))=some res:=by
  have hx' : ex_strings_Contains ars=some res:=hx
  unfold ex_strings_Contains at hx'
  split at hx'
  ·exact ⟨_,_,rfl,hx'⟩
  ·simp at hx'
 obtain ⟨p0,p1,rfl,h2⟩:=key
 obtain ⟨r,h3,rfl⟩:=Option.map_eq_some_iff.1 h2
 refine given_does (vals:=[(.string p0:Value),(.string p1:Value)]) (v:=.bool r) (m:=2) rfl rfl rfl rfl rfl rfl he ?_ ?_
 ·have h4:enter vf_strings_Contains ([.v false [.lit (.string p0)],.v false [.lit (.string p1)]])=some ⟨[SV.v false [.lit (.string p0)],SV.v false [.lit (.string p1)]]++[undefS],[],[]⟩:=by kernel_rfl
  exact Option.some.inj (he.symm.trans h4)
 ·intro w hw
  exact giv_strings_Contains p0 p1 r h3 w hw
end Go.Proofs.V
