import Derived.Test.YtejakgejjjncbaaFnRoomyV2
import Derived.Lib.Bytealg
import Derived.Lib.IndexMore
import Derived.IntWalk
import Derived.Lib.IndexBytes
import Derived.Test.YtejakgejjjncbaaProg
import Derived.KernelRfl
import Derived.Shelf.LaysM
import Derived.Shelf.Strings.Search3
import Derived.Shelf.Vars
set_option linter.unusedSimpArgs false
set_option linter.unusedVariables false
namespace Go.Proofs.V
open Go
def All : List Prop → Prop
  | [] => True
  | p :: ps => p ∧ All ps
theorem All.app : ∀ {ps qs : List Prop}, All (ps ++ qs) → All ps ∧ All qs
  | [], qs, h => ⟨trivial, h⟩
  | p :: ps, qs, h => ⟨⟨h.1, (All.app h.2).1⟩, (All.app h.2).2⟩
def Ok {α : Type} (x : X α) (r : α → Prop) : Prop := ∀ os a os' ps, x os = some (a, os', ps) → All ps → r a
section
variable {α β : Type} {r : α → Prop} {q : β → Prop}
theorem Ok.mono {x : X α} {r' : α → Prop} (h : Ok x r) (hr : ∀ a, r a → r' a) : Ok x r' := fun os a os' ps h1 h2 => hr a (h os a os' ps h1 h2)
theorem Ok.pure {a : α} (h : r a) : Ok (xpure a) r := fun os b os' ps h1 _ => by simp [xpure] at h1; rw [← h1.1]; exact h
theorem Ok.bind {x : X α} {f : α → X β} (h1 : Ok x r) (h2 : ∀ a, r a → Ok (f a) q) : Ok (xbind x f) q := by
  intro os b os' ps h hp
  unfold xbind at h
  split at h
  · simp at h
  · rename_i a os1 p hx
    split at h
    · simp at h
    · rename_i b' os2 p2 hf
      simp at h
      obtain ⟨rfl, rfl, rfl⟩ := h
      obtain ⟨hp1, hp2⟩ := hp.app
      exact h2 a (h1 _ _ _ _ hx hp1) _ _ _ _ hf hp2
theorem Ok.fail : Ok (xfail : X α) r := fun os a os' ps h _ => by simp [xfail] at h
theorem Ok.of {o : Option α} (h : ∀ a, o = some a → r a) : Ok (xof o) r := by
  cases o with
  | none => exact Ok.fail
  | some a => exact Ok.pure (h a rfl)
theorem Ok.ask {p : Prop} {r : Unit → Prop} (h : p → r ()) : Ok (xask p) r := fun os a os' ps h1 h2 => by
  simp [xask] at h1; obtain ⟨_, rfl⟩ := h1; exact h h2.1
theorem Ok.any {x : X α} (h : ∀ a, r a) : Ok x r := fun os a os' ps _ _ => h a
theorem Ok.true {x : X α} : Ok x fun _ => True := fun _ _ _ _ _ _ => trivial
theorem Ok.ite {c : Prop} [Decidable c] {x y : X α} (h1 : c → Ok x r) (h2 : ¬c → Ok y r) : Ok (if c then x else y) r := by
  split
  · exact h1 ‹_›
  · exact h2 ‹_›
theorem Ok.iteF {c : Prop} [Decidable c] {x : X α} (h1 : c → Ok x r) : Ok (if c then x else xfail) r := Ok.ite h1 fun _ => Ok.fail
end
theorem Ok.asked {β : Type} {p : Prop} {f : Unit → X β} {q : β → Prop} (h : p → Ok (f ()) q) : Ok (xbind (xask p) f) q := Ok.bind (r := fun _ => p) (Ok.ask fun h => h) fun _ hp => h hp
theorem Ok.took {α β : Type} {x : X α} {f : α → X β} {q : β → Prop} (h : ∀ a, Ok (f a) q) : Ok (xbind x f) q := Ok.bind Ok.true fun a _ => h a
theorem Ok.ofb {α β : Type} {o : Option α} {f : α → X β} {q : β → Prop} (h : ∀ a, o = some a → Ok (f a) q) : Ok (xbind (xof o) f) q := Ok.bind (r := fun a => o = some a) (Ok.of fun _ h => h) h
theorem tell_ok (es : List (List T)) : Ok (xtell es) fun x => x = es := Ok.took fun x => Ok.asked fun h => Ok.pure h.symm
theorem size_ok (n : Nat) : Ok (xsize n) fun x => x = n := Ok.took fun x => Ok.asked fun h => Ok.pure h.symm
theorem truth_ok (v : Option Value) : Ok (xtruth v) fun b => v = some (.bool b) := by
  unfold xtruth
  split
  · exact Ok.took fun b => Ok.asked fun h => Ok.pure (by rw [h])
  · exact Ok.fail
theorem binX_ok (op : BinOp) (a b : Value) : Ok (binX op a b) fun v => vbin op a b = some v := by
  unfold binX
  split
  · split
    · exact Ok.asked fun h => Ok.pure (by simp [vbin]; omega)
    · exact Ok.asked fun h => Ok.pure (by simp [vbin]; omega)
    · exact Ok.iteF fun hk => Ok.asked fun h => Ok.pure (by simp [vbin, hk, h])
    · exact Ok.iteF fun hk => Ok.asked fun h => Ok.pure (by simp [vbin, hk, h])
    · exact Ok.of fun a h => h
  · split
    · exact Ok.asked fun h => Ok.pure (by simp [vbin, h])
    · exact Ok.of fun a h => h
  · exact Ok.iteF fun hk => Ok.took fun r => Ok.asked fun h => Ok.pure (by simp only [vbin, if_pos hk, h]; rfl)
  · exact Ok.fail
theorem idxX_ok (a b : Value) : Ok (idxX a b) fun v => vidx a b = some v := by
  unfold idxX
  split
  · refine Ok.took fun x => Ok.asked fun h => Ok.asked fun h2 => Ok.pure ?_
    simp only [vidx, if_pos h]
    rw [Option.map_eq_some_iff] at h2 ⊢
    obtain ⟨c, h3, h4⟩ := h2
    exact ⟨c, h3, by rw [← h4]⟩
  · exact Ok.fail
theorem loX_ok (st : St) (h : Nat) (lo : Option Opd) : Ok (loX st h lo) fun x => vlo st h lo = some x := by
  cases lo with
  | none => exact Ok.pure rfl
  | some o =>
    unfold loX
    refine Ok.ofb fun k hk => Ok.asked fun h2 => Ok.pure ?_
    simp [vlo, hk, h2]
theorem boundsX_ok (st : St) (n : Nat) (lo hi : Option Opd) : Ok (boundsX st n lo hi) fun x => vbounds st n lo hi = some x := by
  cases hi with
  | none => exact loX_ok st n lo
  | some o => exact Ok.ofb fun k hk => Ok.asked fun h2 => (loX_ok st k.toNat lo).mono fun x hx => by simp [vbounds, hk, h2, hx]
theorem subX_ok : ∀ (p : Pth) (ot : List OT) (es : List (List T)), Ok (subX ot es p) fun x => subEs ot es p = some x
  | [], ot, es => Ok.pure rfl
  | (i, j) :: r, ot, es => by
    refine Ok.took fun rw => Ok.asked fun h => ?_
    split
    · rename_i ot' es' h1 h2
      exact (subX_ok r ot' es').mono fun x hx => by simp [subEs, h1, h, h2, hx]
    · exact Ok.fail
theorem updX_ok : ∀ (p : Pth) (ot : List OT) (es new : List (List T)), Ok (updX ot es p new) fun x => updEs ot es p new = some x
  | [], ot, es, new => Ok.pure rfl
  | (i, j) :: r, ot, es, new => by
    refine Ok.took fun rw => Ok.asked fun h => ?_
    split
    · rename_i ot' es' h1 h2
      refine Ok.bind (updX_ok r ot' es' new) fun x hx => (tell_ok _).mono fun y hy => ?_
      simp [updEs, h1, h, h2, hx, hy]
    · exact Ok.fail
theorem rdCX_ok (id : Nat) (p : Pth) (i j : Nat) (o : OT) (t : T) : Ok (rdCX id p i j o t) fun c => c = rdC id p i j o t := by
  unfold rdCX
  split
  · exact Ok.bind (size_ok _) fun n hn => Ok.pure (by simp [rdC, hn])
  · exact Ok.pure rfl
theorem rdCsX_ok (id : Nat) (p : Pth) (i : Nat) : ∀ (j : Nat) (ot : List OT) (row : List T), Ok (rdCsX id p i j ot row) fun cs => cs = rdCs id p i j ot row
  | j, o :: ot, x :: row => Ok.bind (rdCX_ok id p i j o x) fun c hc => Ok.bind (rdCsX_ok id p i (j + 1) ot row) fun cs hcs => Ok.pure (by simp [rdCs, hc, hcs])
  | j, [], _ => Ok.pure (by simp [rdCs])
  | j, _ :: _, [] => Ok.pure (by simp [rdCs])
theorem toTX_ok (st : St) (o : OT) (c : C) : Ok (toTX st o c) fun x => toT st o c = some x := by
  unfold toTX
  split
  · refine Ok.ofb fun ob hob => Ok.iteF fun hb => Ok.asked fun hl => Ok.bind (tell_ok _) fun es hes => Ok.pure ?_
    simp [toT, hob, hb, hl, hes]
  · refine Ok.ofb fun ob hob => Ok.iteF fun hb => Ok.asked fun hl => Ok.bind (tell_ok _) fun es hes => Ok.pure ?_
    simp [toT, hob, hb, hl, hes]
  · exact Ok.of fun x h => h
theorem toTsX_ok (st : St) : ∀ (o : List OT) (c : List C), Ok (toTsX st o c) fun x => toTs st o c = some x
  | [], [] => Ok.pure rfl
  | [], _ :: _ => Ok.fail
  | _ :: _, [] => Ok.fail
  | o :: ot, c :: cs => Ok.bind (toTX_ok st o c) fun x hx => Ok.bind (toTsX_ok st ot cs) fun y hy => Ok.pure (by simp [toTs, hx, hy])
theorem lendTX_ok (st : St) (o : OT) (c : C) : Ok (lendTX st o c) fun x => lendT st o c = some x := by
  unfold lendTX
  split
  · refine Ok.ofb fun ob hob => Ok.bind (subX_ok _ _ _) fun x hx => Ok.iteF fun hb => Ok.asked fun hl => Ok.bind (tell_ok _) fun es hes => Ok.pure ?_
    simp [lendT, hob, hb, hl, hes, hx]
  · exact Ok.of fun x h => h
theorem lendTsX_ok (st : St) : ∀ (o : List OT) (c : List C), Ok (lendTsX st o c) fun x => lendTs st o c = some x
  | [], [] => Ok.pure rfl
  | [], _ :: _ => Ok.fail
  | _ :: _, [] => Ok.fail
  | o :: ot, c :: cs => Ok.bind (lendTX_ok st o c) fun x hx => Ok.bind (lendTsX_ok st ot cs) fun y hy => Ok.pure (by simp [lendTs, hx, hy])
theorem inCX_ok (objs : List (Option Ob)) (o : OT) (t : T) : Ok (inCX objs o t) fun x => inC objs o t = some x := by
  unfold inCX
  split
  · exact Ok.bind (size_ok _) fun n hn => Ok.pure (by simp [inC, hn])
  · exact Ok.of fun x h => h
theorem inCsX_ok : ∀ (o : List OT) (t : List T) (objs : List (Option Ob)), Ok (inCsX objs o t) fun x => inCs objs o t = some x
  | [], [], objs => Ok.pure rfl
  | [], _ :: _, objs => Ok.fail
  | _ :: _, [], objs => Ok.fail
  | o :: ot, c :: cs, objs => Ok.bind (inCX_ok objs o c) fun x hx => Ok.bind (inCsX_ok ot cs x.2) fun y hy => Ok.pure (by simp [inCs, hx, hy])
theorem frzCX_ok (i : Nat) (o : Ob) (c : C) : Ok (frzCX i o c) fun x => x = frzC i o c := by
  unfold frzCX
  split
  · refine Ok.ite (fun hi => ?_) fun hi => Ok.pure (by simp [frzC, hi])
    refine Ok.bind (subX_ok _ _ _) fun x hx => Ok.ite (fun hb => Ok.asked fun hl => Ok.bind (tell_ok _) fun es hes => Ok.pure ?_) fun hb => Ok.pure ?_
    · simp [frzC, hi, hx, hl, hes, hb]
    · simp [frzC, hi, hx, hb]
  · exact Ok.pure (by cases c <;> first | rfl | (rename_i hne; exact absurd rfl (hne _ _ _ _)))
theorem fzcCX_ok (i c0 : Nat) (o : Ob) (c : C) : Ok (fzcCX i c0 o c) fun x => x = fzcC i c0 o c := by
  unfold fzcCX
  split
  · refine Ok.ite (fun hi => ?_) fun hi => Ok.pure (by simp [fzcC, hi])
    refine Ok.ite (fun hc => ?_) fun hc => Ok.pure (by simp [fzcC, hi, hc])
    refine Ok.bind (subX_ok _ _ _) fun x hx => Ok.asked fun hl => Ok.bind (tell_ok _) fun es hes => Ok.pure ?_
    simp [fzcC, hi, hc, hx, ← hl, hes]
  · rename_i hne
    refine Ok.pure ?_
    unfold fzcC
    split
    · exact absurd rfl (hne _ _ _ _)
    · rfl
theorem mapX_ok {α β : Type} {f : α → X β} {g : α → β} (h : ∀ a, Ok (f a) fun b => b = g a) : ∀ l : List α, Ok (mapX f l) fun l' => l' = l.map g
  | [] => Ok.pure rfl
  | a :: l => Ok.bind (h a) fun b hb => Ok.bind (mapX_ok h l) fun l' hl => Ok.pure (by simp [hb, hl])
theorem svmapX_ok {f : C → X C} {g : C → C} (h : ∀ a, Ok (f a) fun b => b = g a) (s : SV) : Ok (SV.mapX f s) fun x => x = s.map g := by
  cases s with
  | v a cs => exact Ok.bind (mapX_ok h cs) fun x hx => Ok.pure (by simp [SV.map, hx])
  | tup ss =>
    have h1 : ∀ x : Bool × List C, Ok (xbind (V.mapX f x.2) fun cs => xpure (x.1, cs)) fun y => y = (x.1, x.2.map g) := by
      intro x
      refine Ok.bind (mapX_ok h x.2) fun y hy => Ok.pure ?_
      rw [hy]
    unfold SV.mapX
    refine Ok.bind (mapX_ok h1 ss) fun x hx => Ok.pure ?_
    rw [hx]
    rfl
  | ifc t c => exact Ok.bind (h c) fun b hb => Ok.pure (by simp [SV.map, hb])
  | any => exact Ok.pure rfl
theorem optX_ok {α β : Type} {f : α → X β} {g : α → β} (h : ∀ a, Ok (f a) fun b => b = g a) (o : Option α) : Ok (optX f o) fun x => x = o.map g := by
  cases o with
  | none => exact Ok.pure rfl
  | some a => exact Ok.bind (h a) fun b hb => Ok.pure (by simp [hb])
theorem stmapX_ok {f : C → X C} {g : C → C} (h : ∀ a, Ok (f a) fun b => b = g a) (st : St) : Ok (St.mapX st f) fun x => x = st.mapC g :=
  Ok.bind (mapX_ok (svmapX_ok h) st.slots) fun sl hsl => Ok.bind (mapX_ok (optX_ok (mapX_ok h)) st.vars) fun vs hvs => Ok.pure (by simp [St.mapC, hsl, hvs])
theorem freezeX_ok (st : St) (k j : Nat) : Ok (freezeX st k j) fun x => st.freeze k j = some x := by
  unfold freezeX
  split
  · rename_i a cs h1
    split
    · rename_i id p off len h2
      exact Ok.ofb fun o ho => Ok.bind (stmapX_ok (frzCX_ok id o) st) fun x hx => Ok.pure (by simp [St.freeze, h1, h2, ho, hx])
    · exact Ok.fail
  · exact Ok.fail
theorem frzCoX_ok (st : St) (id c : Nat) : Ok (frzCoX st id c) fun x => st.frzCo id c = some x := by
  unfold frzCoX
  refine Ok.ofb fun o ho => ?_
  split
  · rename_i q hq
    exact Ok.bind (stmapX_ok (fzcCX_ok id c o) st) fun x hx => Ok.pure (by simp [St.frzCo, ho, hq, hx])
  · exact Ok.fail
theorem takeX_ok (st : St) (k j : Nat) : Ok (takeX st k j) fun x => st.take k j = some x := by
  unfold takeX
  split
  · rename_i agg cs h1
    split
    · rename_i id r c off len h2
      refine Ok.ofb fun o ho => Ok.took fun rw => Ok.asked fun hr => ?_
      split
      · rename_i q es hq hx
        exact Ok.pure (by simp [St.take, h1, h2, ho, hq, hr, hx])
      · exact Ok.fail
    · rename_i h2 h3
      exact Ok.pure (by
        unfold St.take
        rw [h1]
        simp only
        split
        · rename_i h4; rw [h3] at h4; simp at h4; exact absurd h4 (by first | exact h2 _ _ _ _ _ | simp_all)
        · rfl
        · rename_i h4; rw [h3] at h4; simp at h4)
    · exact Ok.fail
  · exact Ok.fail
theorem closeX_ok (st : St) (id j : Nat) : Ok (closeX st id j) fun x => st.close id j = some x := by
  unfold closeX
  split
  · rename_i o ho
    split
    · rename_i q hq
      exact Ok.asked fun h => Ok.pure (by simp [St.close, ho, hq, h])
    · rename_i hn
      exact Ok.pure (by
        unfold St.close
        rw [ho]
        show (match o.ot[j]? with
          | some (OT.hol q) => if noPt j o.es = true then some _ else none
          | _ => some st) = some st
        split
        · rename_i q hq; exact absurd hq (hn q)
        · rfl)
  · rename_i ho
    exact Ok.pure (by simp [St.close, ho])
theorem closeAtX_ok (c : Option C) (st : St) : Ok (closeAtX c st) fun x => closeAt c st = some x := by
  unfold closeAtX closeAt
  split
  · exact closeX_ok st _ _
  · rename_i hn
    refine Ok.pure ?_
    first
      | rfl
      | (split
         · rename_i id i j; exact absurd rfl (hn id i j)
         · rfl)
theorem preOneX_ok (st : St) (x : Pre) : Ok (preOneX st x) fun y => preOne st x = some y := by
  cases x with
  | tk k j => exact takeX_ok st k j
  | pado n => exact (show Ok (xof (preOne st (.pado n))) _ from Ok.of fun x hx => hx)
  | pad n => exact (show Ok (xof (preOne st (.pad n))) _ from Ok.of fun x hx => hx)
  | fzi k j c => exact (show Ok (xof (preOne st (.fzi k j c))) _ from Ok.of fun x hx => hx)
  | fziv k j c => exact (show Ok (xof (preOne st (.fziv k j c))) _ from Ok.of fun x hx => hx)
  | fzc k j c =>
    simp only [preOneX, preOne]
    split
    · rename_i a cs h1
      split
      · rename_i id _ _ _ h2
        split
        · rename_i q h3
          simp only [h1, h2, h3]
          exact frzCoX_ok st _ c
        · rename_i h3
          refine Ok.pure ?_
          simp only [h1, h2]
      · rename_i h2
        refine Ok.pure ?_
        simp only [h1]
    · rename_i h1
      refine Ok.pure ?_
      simp only []
  | dd k j => exact (show Ok (xof (preOne st (.dd k j))) _ from Ok.of fun x hx => hx)
  | fz k j =>
    simp only [preOneX, preOne]
    split
    · rename_i a cs h1
      split
      · rename_i h2
        simp only [h1, h2]
        exact freezeX_ok st k j
      · rename_i c hne h2
        refine Ok.pure ?_
        simp only [h1, h2]
      · exact Ok.fail
    · exact Ok.fail
  | fzv k j =>
    simp only [preOneX, preOne]
    split
    · rename_i id h1
      split
      · rename_i o _ _ _ h2
        refine Ok.ofb fun ob ho => Ok.bind (stmapX_ok (frzCX_ok o ob) st) fun x hx => Ok.pure ?_
        simp only [h1, h2, ho, Option.map_some, hx]
      · rename_i c hne h2
        refine Ok.pure ?_
        simp only [h1, h2]
      · exact Ok.fail
    · exact Ok.fail
  | nl k j p => exact Ok.of fun x hx => hx
  | nlv k j p => exact Ok.of fun x hx => hx
theorem preAllX_ok : ∀ (l : List Pre) (st : St), Ok (preAllX st l) fun x => preAll st l = some x
  | [], st => Ok.pure rfl
  | x :: l, st => Ok.bind (preOneX_ok st x) fun y hy => (preAllX_ok l y).mono fun z hz => by simp [preAll, hy, hz]
theorem pushX_ok (st : St) (d : Nat) (ot : List OT) (es : List (List T)) : Ok (pushX st d ot es) fun x => x = st.push d ⟨ot, es⟩ :=
  Ok.bind (tell_ok es) fun es' he => Ok.bind (size_ok _) fun n hn => Ok.pure (by subst he; subst hn; rfl)
theorem rdCs_take (id : Nat) (p : Pth) (i : Nat) : ∀ (n j : Nat) (ot : List OT) (row : List T), rdCs id p i j (ot.take n) (row.take n) = (rdCs id p i j ot row).take n
  | 0, j, ot, row => by simp [rdCs]
  | n + 1, j, [], row => by simp [rdCs]
  | n + 1, j, o :: ot, [] => by simp [rdCs]
  | n + 1, j, o :: ot, x :: row => by simp [rdCs, rdCs_take id p i n]
theorem loadX_ok (st : St) (d : Nat) (x : Opd) (n : Nat) (agg : Bool) : Ok (loadX st d x n agg) fun y => vload st d x n agg = some y := by
  unfold loadX
  simp only
  split
  · rename_i p cs h1
    exact Ok.iteF fun h => Ok.pure (by unfold vload; simp only [h1]; rw [if_pos h])
  · rename_i id p i j h1
    refine Ok.ofb fun o ho => Ok.bind (subX_ok _ _ _) fun y hy => Ok.took fun rw' => Ok.asked fun hrw => Ok.bind (rdCsX_ok _ _ _ _ _ _) fun cs hcs => Ok.iteF fun hl => Ok.pure ?_
    rw [rdCs_take] at hcs
    subst hcs
    unfold vload
    simp only [h1, ho, hy, hrw]
    rw [if_pos hl]
  · rename_i id j h1
    exact Ok.ofb fun cs hcs => Ok.iteF fun h => Ok.pure (by unfold vload; simp only [h1, hcs]; rw [if_pos h])
  · exact Ok.fail
theorem putOX_ok (st : St) (id : Nat) (p : Pth) (i j : Nat) (c : C) : Ok (putOX st id p i j c) fun x => st.putO id p i j c = some x := by
  unfold putOX
  refine Ok.ofb fun o ho => Ok.bind (subX_ok _ _ _) fun y hy => Ok.ofb fun oc hoc => Ok.bind (toTX_ok _ _ _) fun x hx => Ok.ite (fun _ => Ok.fail) fun hu => Ok.took fun es1 => Ok.asked fun h1 => Ok.bind (updX_ok _ _ _ _) fun es' he => Ok.pure ?_
  obtain ⟨row, h2, h3, h4⟩ := h1
  unfold St.putO
  have hn : ¬ row.length ≤ j := by omega
  simp only [ho, hy, hoc, h2, hx]
  rw [if_neg (by simp [hn]; simpa using hu), h4, he]
  rfl
theorem putOsX_ok (id : Nat) (p : Pth) (i : Nat) : ∀ (cs : List C) (j : Nat) (st : St), Ok (putOsX st id p i j cs) fun x => st.putOs id p i j cs = some x
  | [], j, st => Ok.pure rfl
  | c :: cs, j, st => Ok.bind (putOX_ok st id p i j c) fun x hx => (putOsX_ok id p i cs (j + 1) x).mono fun y hy => by simp [St.putOs, hx, hy]
theorem storeX_ok (st : St) (x : Opd) (n : Nat) (y : SV) : Ok (storeX st x n y) fun z => vstore st x n y = some z := by
  unfold storeX
  split
  · rename_i id p i j a cs h1 h2
    exact Ok.iteF fun h => (putOsX_ok id p i cs j st).mono fun z hz => by unfold vstore; simp only [h1, h2, if_pos h]; exact hz
  · exact Ok.of fun z h => h
theorem srcX_ok (st : St) (p : List OT) (c : C) : Ok (srcX st p c) fun x => srcRows st p c = some x := by
  unfold srcX
  split
  · refine Ok.ofb fun o ho => Ok.bind (subX_ok _ _ _) fun y hy => Ok.ite (fun hb => ?_) fun hb => Ok.iteF fun hb2 => ?_
    · exact Ok.asked fun hl => Ok.pure (by simp only [srcRows, ho, hy, if_pos hl, if_pos hb])
    · refine Ok.asked fun h1 => Ok.asked fun hl => Ok.pure ?_
      simp only [srcRows, ho, hy, if_pos hl]
      rw [if_neg hb, if_pos]
      simp only [Bool.and_eq_true, decide_eq_true_eq] at hb2 ⊢
      exact ⟨hb2.1, hb2.2, h1⟩
  · exact Ok.of fun x h => h
theorem appX_ok (st : St) (d : Nat) (x y : Opd) (p : List OT) (lim : Nat) : Ok (appX st d x y p lim) fun z => vappend st d x y p lim = some z := by
  unfold appX
  refine Ok.ofb fun cx hx => Ok.ofb fun cy hy => Ok.bind (srcX_ok st p cy) fun s hs => ?_
  split
  · exact Ok.asked fun h => (pushX_ok _ _ _ _).mono fun z hz => by simp only [vappend, hx, hy, hs, if_pos h, hz]
  · refine Ok.ofb fun o ho => Ok.iteF fun hb => Ok.asked fun h => (pushX_ok _ _ _ _).mono fun z hz => ?_
    simp only [vappend, hx, hy, hs, ho]
    simp only [Bool.and_eq_true] at hb
    rw [if_pos (by simp only [hb.1, hb.2, Bool.true_and, Bool.and_true, decide_eq_true_eq]; exact h), hz]
  · exact Ok.fail
theorem apprX_ok (st : St) (d : Nat) (x y : Opd) (p : List OT) (lim : Nat) : Ok (apprX st d x y p lim) fun z => vappr st d x y p lim = some z := by
  unfold apprX
  refine Ok.ofb fun cx hx => Ok.ofb fun cy hy => Ok.bind (srcX_ok st p cy) fun s hs => ?_
  split
  · rename_i id r c len hus
    refine Ok.ofb fun o ho => Ok.bind (subX_ok _ _ _) fun z hz => Ok.iteF fun hb => Ok.asked fun h => Ok.bind (frzCoX_ok st id c) fun st1 h1 => Ok.bind (tell_ok _) fun es hes => Ok.pure ?_
    obtain ⟨rows, us⟩ := s
    simp only at hus h hes
    subst hus
    simp only [Bool.and_eq_true] at hb
    simp only [vappr, hx, hy, hs, ho, hz]
    rw [if_pos (by simp only [hb.1, hb.2, Bool.true_and, decide_eq_true_eq]; exact h), h1, hes]
    rfl
  · exact Ok.fail
theorem cpyX_ok (st : St) (d : Nat) (x y : Opd) : Ok (cpyX st d x y) fun z => vcopy st d x y = some z := by
  unfold cpyX
  refine Ok.ofb fun cx hx => Ok.ofb fun cy hy => Ok.bind (srcX_ok st [.sc] cy) fun s hs => ?_
  split
  · refine Ok.ofb fun o ho => Ok.iteF fun hb => Ok.asked fun h => Ok.bind (tell_ok _) fun es he => Ok.bind (size_ok _) fun n hn => Ok.pure ?_
    subst he
    subst hn
    simp only [vcopy, hx, hy, hs, ho]
    rw [if_pos (by simp only [hb, Bool.true_and, decide_eq_true_eq]; exact h)]
  · exact Ok.fail
theorem appSX_ok (st : St) (d : Nat) (x y : Opd) (lim : Nat) : Ok (appSX st d x y lim) fun z => vappendS st d x y lim = some z := by
  unfold appSX
  refine Ok.ofb fun cx hx => ?_
  split
  · rename_i s hs
    split
    · exact Ok.asked fun h => (pushX_ok _ _ _ _).mono fun z hz => by simp only [vappendS, hx, hs, if_pos h, hz]
    · refine Ok.ofb fun o ho => Ok.iteF fun hb => Ok.asked fun h => (pushX_ok _ _ _ _).mono fun z hz => ?_
      simp only [vappendS, hx, hs, ho]
      rw [if_pos (by simp only [hb, Bool.true_and, decide_eq_true_eq]; exact h), hz]
    · exact Ok.fail
  · exact Ok.fail
theorem iadrX_ok (st : St) (k : Int) (n : Nat) (c : C) : Ok (iadrX st k n c) fun x => iadrC st k n c = some x := by
  unfold iadrX
  split
  · exact Ok.iteF fun hp => Ok.took fun rw' => Ok.asked fun h1 => Ok.asked fun h2 => Ok.pure (by simp only [iadrC, if_pos h1, h2, if_pos hp])
  · refine Ok.asked fun h1 => ?_
    split
    · rename_i ot ho
      exact Ok.iteF fun hn => Ok.pure (by simp only [iadrC, if_pos h1, ho, if_pos hn])
    · exact Ok.fail
  · exact Ok.fail
theorem slcX_ok (st : St) (lo hi : Option Opd) (n : Nat) (c : C) : Ok (slcX st lo hi n c) fun x => slcR st lo hi n c = some x := by
  unfold slcX
  split
  · exact Ok.iteF fun hp => Ok.bind (boundsX_ok _ _ _ _) fun b hb => Ok.bind (tell_ok _) fun es he => Ok.pure (by simp only [slcR, if_pos hp, hb, Option.map_some, he])
  · split
    · rename_i ot ho
      exact Ok.iteF fun hn => Ok.bind (boundsX_ok _ _ _ _) fun b hb => Ok.pure (by simp only [slcR, ho, if_pos hn, hb, Option.map_some])
    · exact Ok.fail
  · exact Ok.bind (boundsX_ok _ _ _ _) fun b hb => Ok.pure (by simp only [slcR, hb, Option.map_some])
  · exact Ok.fail
theorem nilX_ok (st : St) (c : C) : Ok (nilX st c) fun x => nilC st c = some x := by
  unfold nilX
  split
  · exact Ok.pure rfl
  · exact Ok.asked fun h => Ok.pure (by simp [nilC, h])
  · exact Ok.asked fun h => Ok.ofb fun o ho => Ok.pure (by simp [nilC, h, ho])
  · exact Ok.fail
theorem rowsAllX_ok (st : St) (p : List OT) : ∀ xs : List Opd, Ok (rowsAllX st p xs) fun r => rowsAll st p xs = some r
  | [] => Ok.pure rfl
  | x :: xs => Ok.ofb fun c hc => Ok.bind (rowsAllX_ok st p xs) fun r hr => Ok.bind (toTsX_ok st p c.2) fun t ht => Ok.pure (by simp [rowsAll, hc, hr, ht])
theorem mgFullX_ok (st : St) : ∀ cs : List C, Ok (mgFullX st cs) fun _ => mgFull st cs = true
  | [] => Ok.pure rfl
  | .ref id p off len :: cs => Ok.ofb fun o ho => Ok.asked fun hl => (mgFullX_ok st cs).mono fun _ h => by simp [mgFull, ho, hl, h]
  | .lit _ :: cs => (mgFullX_ok st cs).mono fun _ h => by simpa [mgFull] using h
  | .ro .. :: cs => (mgFullX_ok st cs).mono fun _ h => by simpa [mgFull] using h
  | .ptr .. :: cs => (mgFullX_ok st cs).mono fun _ h => by simpa [mgFull] using h
  | .rptr .. :: cs => (mgFullX_ok st cs).mono fun _ h => by simpa [mgFull] using h
  | .vptr .. :: cs => (mgFullX_ok st cs).mono fun _ h => by simpa [mgFull] using h
  | .clo .. :: cs => (mgFullX_ok st cs).mono fun _ h => by simpa [mgFull] using h
  | .dead :: cs => (mgFullX_ok st cs).mono fun _ h => by simpa [mgFull] using h
theorem passOneX_ok (st : St) (pm : PM) (x : SV) : Ok (passOneX st pm x) fun a => passOne st pm x = some a := by
  unfold passOneX
  split
  · exact Ok.bind (lendTsX_ok _ _ _) fun t ht => Ok.pure (by simp [passOne, ht])
  · exact Ok.bind (toTsX_ok _ _ _) fun t ht => Ok.pure (by simp [passOne, ht])
  · exact Ok.ofb fun cs hcs => Ok.bind (toTsX_ok _ _ _) fun t ht => Ok.pure (by simp [passOne, ht, hcs])
  · exact Ok.ofb fun o ho => Ok.bind (subX_ok _ _ _) fun y hy => Ok.iteF fun hb => Ok.asked fun hl => Ok.pure (by simp [passOne, ho, hy, hb, hl])
  · exact Ok.bind (toTsX_ok _ _ _) fun t ht => Ok.ofb fun bs hb => Ok.bind (mgFullX_ok _ _) fun _ hf => Ok.pure (by simp [passOne, ht, hb, hf])
  · exact Ok.fail
theorem passAllX_ok (st : St) : ∀ (pms : List PM) (xs : List SV), Ok (passAllX st pms xs) fun a => passAll st pms xs = some a
  | [], [] => Ok.pure rfl
  | [], _ :: _ => Ok.fail
  | _ :: _, [] => Ok.fail
  | pm :: pms, x :: xs => Ok.bind (passOneX_ok st pm x) fun a ha => Ok.bind (passAllX_ok st pms xs) fun b hb => Ok.pure (by simp [passAll, ha, hb])
theorem giveBackX_ok (os : List (Option Ob)) : ∀ (bs : List Back) (ms : List T) (st : St), Ok (giveBackX os bs ms st) fun x => giveBack os bs ms st = some x
  | [], [], st => Ok.pure rfl
  | [], _ :: _, st => Ok.fail
  | .no :: bs, ms, st => (giveBackX_ok os bs ms st).mono fun x hx => by simpa [giveBack] using hx
  | .var id ots :: bs, [], st => Ok.fail
  | .var id ots :: bs, .lit _ :: ms, st => Ok.fail
  | .var id ots :: bs, .sl _ :: ms, st => Ok.fail
  | .var id ots :: bs, .pt ts :: ms, st => Ok.bind (inCsX_ok _ _ _) fun c hc => (giveBackX_ok os bs ms _).mono fun x hx => by simp [giveBack, hc, hx]
  | .obj id p ot :: bs, [], st => Ok.fail
  | .obj id p ot :: bs, .lit _ :: ms, st => Ok.fail
  | .obj id p ot :: bs, .pt _ :: ms, st => Ok.fail
  | .obj id p ot :: bs, .sl es :: ms, st => Ok.ofb fun o ho => Ok.bind (subX_ok _ _ _) fun y hy => Ok.asked fun hl => Ok.bind (updX_ok _ _ _ _) fun es' he => (giveBackX_ok os bs ms _).mono fun x hx => by
      simp only [giveBack, ho, hy, he, if_pos hl]
      exact hx
theorem inRX_ok (st : St) (m : RM) (a : Arg) : Ok (inRX st m a) fun x => inR st m a = some x := by
  unfold inRX
  split
  · exact Ok.bind (inCsX_ok _ _ _) fun c hc => Ok.pure (by simp [inR, hc])
  · exact Ok.bind (inCsX_ok _ _ _) fun c hc => Ok.pure (by simp [inR, hc])
  · exact Ok.fail
theorem inRsX_ok : ∀ (ms : List RM) (ars : List Arg) (st : St), Ok (inRsX st ms ars) fun x => inRs st ms ars = some x
  | [], [], st => Ok.pure rfl
  | [], _ :: _, st => Ok.fail
  | _ :: _, [], st => Ok.fail
  | m :: ms, a :: ars, st => Ok.bind (inRX_ok st m a) fun x hx => Ok.bind (inRsX_ok ms ars x.2) fun y hy => Ok.pure (by simp [inRs, hx, hy])
section
variable {ext : FuncId → List Arg → Option FRes} {tbl : FuncId → Option VF}
theorem callX_ok (st : St) (d : Nat) (f : FuncId) (xs : List SV) : Ok (callX ext tbl st d f xs) fun x => ∃ n, vcall tbl (vrun ext tbl n) st d f xs = some x := by
  unfold callX
  split
  · exact Ok.fail
  · rename_i vf hvf
    refine Ok.bind (passAllX_ok _ _ _) fun ps hps => Ok.iteF fun hc => Ok.took fun r => Ok.asked fun hr => Ok.bind (giveBackX_ok _ _ _ _) fun st2 hst2 => Ok.bind (inRsX_ok _ _ _) fun y hy => ?_
    obtain ⟨n, hr⟩ := hr
    split
    · exact Ok.pure ⟨n, by simp only [vcall, hvf, hps]; rw [if_pos hc]; simp only [hr, hst2, hy]⟩
    · rename_i l st3 hne
      refine Ok.pure ⟨n, ?_⟩
      simp only [vcall, hvf, hps]
      rw [if_pos hc]
      simp only [hr, hst2, hy]
theorem opX_ok (st : St) (o : VOp) : Ok (opX ext tbl st o) fun x => ∃ n, vop tbl (vrun ext tbl n) st o = some x := by
  have base : ∀ o : VOp, (∀ x, vop tbl (fun _ _ => none) st o = some x → ∃ n, vop tbl (vrun ext tbl n) st o = some x) := fun o x h => ⟨0, vop_mono (fun _ _ _ h => by simp at h) h⟩
  cases o with
  | pick d c a b =>
    refine Ok.bind (truth_ok _) fun t ht => Ok.of fun x hx => ⟨0, ?_⟩
    simp only [vop, ht]
    cases t <;> exact hx
  | bin d op x y => exact Ok.ofb fun a ha => Ok.ofb fun b hb => Ok.bind (binX_ok op a b) fun r hr => Ok.pure ⟨0, by simp [vop, ha, hb, hr]⟩
  | len d x =>
    refine Ok.ofb fun c hc => ?_
    unfold lenX
    split
    · exact Ok.bind (r := fun n => n = 0) (Ok.pure rfl) fun n hn => Ok.pure ⟨0, by subst hn; simp [vop, hc]⟩
    · exact Ok.bind (size_ok _) fun n hn => Ok.pure ⟨0, by subst hn; simp [vop, hc]⟩
    · rename_i id p off len
      refine Ok.bind (r := fun n => n = len ∧ ∃ o, st.obj id = some o) (Ok.ofb fun o ho => Ok.pure ⟨rfl, o, ho⟩) fun n hn => Ok.pure ⟨0, ?_⟩
      obtain ⟨rfl, o, ho⟩ := hn
      simp [vop, hc, ho]
    · exact Ok.bind (r := fun _ => False) Ok.fail fun _ h => h.elim
  | lenr d x =>
    simp only [opX]
    split
    · rename_i hc
      exact Ok.pure ⟨0, by simp [vop, hc]⟩
    · rename_i p es hc
      exact Ok.bind (size_ok _) fun n hn => Ok.pure ⟨0, by subst hn; simp [vop, hc]⟩
    · exact Ok.fail
  | idx d x i => exact Ok.ofb fun a ha => Ok.ofb fun b hb => Ok.bind (idxX_ok a b) fun r hr => Ok.pure ⟨0, by simp [vop, ha, hb, hr]⟩
  | sstr d x lo hi =>
    simp only [opX]
    split
    · rename_i s hs
      exact Ok.bind (boundsX_ok _ _ _ _) fun b hb => Ok.pure ⟨0, by simp [vop, hs, hb]⟩
    · exact Ok.fail
  | iadr d x i n => exact Ok.ofb fun c hc => Ok.ofb fun k hk => Ok.bind (iadrX_ok st k n c) fun r hr => Ok.pure ⟨0, by simp [vop, hc, hk, hr]⟩
  | ld d x n agg =>
    simp only [opX]
    exact Ok.iteF fun h => (loadX_ok st d x n agg).mono fun y hy => ⟨0, by simp only [vop, if_pos h, hy]⟩
  | ldo d x n agg =>
    simp only [opX]
    split
    · rename_i id j a b h1
      exact Ok.iteF fun h => (loadX_ok st d x n agg).mono fun y hy => ⟨0, by simp only [vop, h1, if_pos h, hy]⟩
    · exact Ok.fail
  | ldv d x n agg =>
    simp only [opX]
    split
    · rename_i id j h1
      exact Ok.iteF fun h => (loadX_ok st d x n agg).mono fun y hy => ⟨0, by simp only [vop, h1, if_pos h, hy]⟩
    · rename_i id j h1
      exact Ok.iteF fun h => (loadX_ok st d x n agg).mono fun y hy => ⟨0, by simp only [vop, h1, if_pos h, hy]⟩
    · exact Ok.fail
  | st x y n => exact Ok.bind (r := fun z => (st.get y).bind (vstore st x n) = some z) (Ok.ofb fun s hs => (storeX_ok st x n s).mono fun z hz => by simp [hs, hz]) fun z hz => (closeAtX_ok (st.cell x) z).mono fun z2 hz2 => ⟨0, by simp only [vop, hz, Option.bind_some, hz2]⟩
  | lits d p rs => exact Ok.bind (rowsAllX_ok st p rs) fun r hr => Ok.iteF fun hd => (pushX_ok _ _ _ _).mono fun z hz => ⟨0, by simp [vop, hr, hd, hz]⟩
  | mk d n p zero lim => exact Ok.ofb fun k hk => Ok.asked fun h => (pushX_ok _ _ _ _).mono fun z hz => ⟨0, by simp only [vop, hk, if_pos h, hz]⟩
  | litr d vs => exact Ok.iteF fun h => Ok.bind (tell_ok _) fun es he => Ok.pure ⟨0, by subst he; simp only [vop, if_pos h]⟩
  | mkk d n p zero lim id =>
    refine Ok.ofb fun k hk => Ok.asked fun h => ?_
    split
    · rename_i ho
      exact Ok.bind (tell_ok _) fun es he => Ok.bind (size_ok _) fun m hm => Ok.pure ⟨0, by subst he; subst hm; simp only [vop, hk, if_pos h, ho]; rfl⟩
    · exact Ok.fail
  | app d x y p lim => exact (appX_ok st d x y p lim).mono fun z hz => ⟨0, hz⟩
  | appr d x y p lim => exact (apprX_ok st d x y p lim).mono fun z hz => ⟨0, hz⟩
  | apps d x y lim => exact (appSX_ok st d x y lim).mono fun z hz => ⟨0, hz⟩
  | slc d x lo hi n => exact Ok.ofb fun c hc => Ok.bind (slcX_ok st lo hi n c) fun s hs => Ok.pure ⟨0, by simp [vop, hc, hs]⟩
  | eqn d neg x => exact Ok.ofb fun c hc => Ok.bind (nilX_ok st c) fun b hb => Ok.pure ⟨0, by simp [vop, hc, hb]⟩
  | s2b d x =>
    simp only [opX]
    split
    · rename_i s hs
      exact Ok.asked fun h => (pushX_ok _ _ _ _).mono fun z hz => ⟨0, by simp only [vop, hs, if_pos h, hz]⟩
    · exact Ok.fail
  | gix d r len i n =>
    simp only [opX]
    split
    · rename_i vf k h1 h2
      exact Ok.asked fun h => Ok.took fun cs => Ok.asked fun hc => Ok.pure ⟨0, by simp only [vop, h1, h2, if_pos h, hc]⟩
    · exact Ok.fail
  | cvf d c x =>
    refine Ok.ofb fun a ha => ?_
    split
    · exact Ok.took fun n => Ok.asked fun h => Ok.pure ⟨0, by simp [vop, ha, vcvf, h]⟩
    · exact Ok.ofb fun r hr => Ok.pure ⟨0, by simp [vop, ha, hr]⟩
  | cvb d x =>
    simp only [opX]
    split
    · rename_i id p len hs
      refine Ok.iteF fun h => Ok.pure ⟨0, ?_⟩
      obtain ⟨o, ho⟩ := Option.isSome_iff_exists.1 h
      simp [vop, hs, ho]
    · exact Ok.fail
  | b2s d x =>
    refine Ok.ofb fun c hc => Ok.bind (lendTX_ok _ _ _) fun t ht => ?_
    split
    · rename_i es he
      refine Ok.took fun s => Ok.asked fun hs => Ok.pure ⟨0, ?_⟩
      obtain ⟨t1, t2⟩ := t
      simp only at he
      subst he
      simp [vop, hc, ht, hs]
    · exact Ok.fail
  | call d f xs => exact Ok.ofb fun l hl => (callX_ok st d f l).mono fun z ⟨n, hz⟩ => ⟨n, by simp [vop, hl, hz]⟩
  | callc d x xs =>
    simp only [opX]
    split
    · rename_i f caps l h1 h2
      exact Ok.iteF fun h => (callX_ok st d f _).mono fun z ⟨n, hz⟩ => ⟨n, by simp only [vop, h1, h2, if_pos h, hz]⟩
    · exact Ok.fail
  | nil d p => exact (show Ok (xof (vop tbl (fun _ _ => none) st (.nil d p))) _ from Ok.of fun x hx => base _ x hx)
  | cpy d x y => exact (cpyX_ok st d x y).mono fun z hz => ⟨0, hz⟩
  | _ => exact Ok.of fun x hx => base _ x hx
theorem roX1_ok (st : St) (o : ROp) : Ok (roX1 ext tbl st o) fun x => ∃ n, vro1 tbl (vrun ext tbl n) st o = some x := by
  have hdo : Ok (xbind (preAllX st o.fz) fun st1 => opX ext tbl st1 o.op) fun x => ∃ n, (preAll st o.fz).bind (fun st1 => vop tbl (vrun ext tbl n) st1 o.op) = some x :=
    Ok.bind (preAllX_ok _ _) fun st1 h1 => (opX_ok st1 o.op).mono fun x ⟨n, hx⟩ => ⟨n, by simp [h1, hx]⟩
  unfold roX1 vro1
  split
  · rename_i hg
    simp only [hg]
    exact hdo
  · rename_i s want hg
    simp only [hg]
    split
    · rename_i v hs
      split
      · rename_i e
        refine Ok.took fun b => Ok.asked fun he => Ok.ite (fun hb => ?_) fun hb => ?_
        · refine hdo.mono fun x ⟨n, hx⟩ => ⟨n, ?_⟩
          simp only [hs]
          rw [if_pos (he.trans hb)]
          exact hx
        · exact Ok.pure ⟨0, by simp only [hs]; rw [if_neg (by rw [he]; exact hb)]⟩
      · rename_i hne
        refine Ok.pure ⟨0, ?_⟩
        simp only [hs]
    · exact Ok.fail
theorem roX_ok (st : St) (o : ROp) : Ok (roX ext tbl st o) fun x => ∃ n, vro tbl (vrun ext tbl n) st o = some x := by
  unfold roX vro
  cases o.kp with
  | none => exact roX1_ok st o
  | some l => exact Ok.bind (roX1_ok st o) fun st1 ⟨n, h1⟩ => Ok.iteF fun h => Ok.pure ⟨n, by simp only [h1, Option.bind_some]; rw [if_pos h]⟩
theorem opsX_ok : ∀ (l : List ROp) (st : St), Ok (opsX ext tbl st l) fun x => ∃ n, vops tbl (vrun ext tbl n) st l = some x
  | [], st => Ok.pure ⟨0, rfl⟩
  | o :: l, st => Ok.bind (roX_ok st o) fun st1 ⟨n, h1⟩ => (opsX_ok l st1).mono fun x ⟨m, hx⟩ => ⟨max n m, by
      simp only [vops, vro_mono (runs_le (Nat.le_max_left n m)) h1]
      exact vops_mono (runs_le (Nat.le_max_right n m)) hx⟩
end
end Go.Proofs.V

namespace Go.Proofs.V
open Go
inductive Fr where
 | sq (b:VC)
 | bk (id:Nat)
 | lp (keep:List Nat) (c:VC)
inductive Cu where
 | c (c:VC)
 | x (x:VX)
section
variable {ext:FuncId→List Arg→Option FRes} {tbl:FuncId→Option VF}
def EvK (ext:FuncId→List Arg→Option FRes) (tbl:FuncId→Option VF):VX→List Fr→St→(VX→St→Prop)→Prop
 | x,[],st,Q=>Q x st
 | .n,.sq b::K,st,Q=>Ev ext tbl b st fun x st=>EvK ext tbl x K st Q
 | .e i,.sq _::K,st,Q=>EvK ext tbl (.e i) K st Q
 | .r,.sq _::K,st,Q=>EvK ext tbl .r K st Q
 | .n,.bk _::K,st,Q=>EvK ext tbl .n K st Q
 | .e i,.bk id::K,st,Q=>if i=id then EvK ext tbl .n K st Q else EvK ext tbl (.e i) K st Q
 | .r,.bk _::K,st,Q=>EvK ext tbl .r K st Q
 | .n,.lp keep c::K,st,Q=>Ev ext tbl (.loop keep c) st fun x st=>EvK ext tbl x K st Q
 | .e i,.lp _ _::K,st,Q=>EvK ext tbl (.e i) K st Q
 | .r,.lp _ _::K,st,Q=>EvK ext tbl .r K st Q
def EvU (ext:FuncId→List Arg→Option FRes) (tbl:FuncId→Option VF) (u:Cu) (K:List Fr) (st:St) (Q:VX→St→Prop):Prop:=
 match u with
 | .c c=>Ev ext tbl c st fun x st=>EvK ext tbl x K st Q
 | .x x=>EvK ext tbl x K st Q
theorem Ev.loop1 {keep:List Nat} {a:VC} {st:St} {Q:VX→St→Prop} (h:Ev ext tbl a (st.sweep keep) (VX.then (fun st1=>Ev ext tbl (.loop keep a) st1 Q) Q)):Ev ext tbl (.loop keep a) st Q:=by
 obtain ⟨n,x,st1,h1,h2⟩:=h
 cases x with
 | n=>
  obtain ⟨m,y,st2,h3,h4⟩:=h2
  refine ⟨max n m+1,y,st2,?_,h4⟩
  simp only [vexec] at h3 ⊢
  have hb:vexec tbl (vrun ext tbl (max n m+1)) (max n m+1) a (st.sweep keep)=some (.n,st1):=ex_le (by omega) h1
  simp only [vloop,hb]
  exact vloop_mono (fun st r hr=>ex_le (by omega) hr) (by omega) h3
 | e i=>
  refine ⟨n+1,.e i,st1,?_,h2⟩
  have hb:=ex_le (Nat.le_succ n) h1
  simp only [vexec,vloop,hb]
 | r=>
  refine ⟨n+1,.r,st1,?_,h2⟩
  have hb:=ex_le (Nat.le_succ n) h1
  simp only [vexec,vloop,hb]
variable (ext) (tbl) in
def runX:Nat→Cu→List Fr→St→X (Cu×List Fr×St)
 | 0,_,_,_=>xfail
 | n+1,.c c,K,st=>
  match c with
  | .skip=>runX n (.x .n) K st
  | .r _ ops=>xbind (opsX ext tbl st ops) fun st1=>runX n (.x .n) K st1
  | .d _ ops=>xbind (opsX ext tbl st (ops.map (·.2))) fun st1=>runX n (.x .n) K st1
  | .kp keep c=>xpure (.c c,K,st.sweep keep)
  | .pre ps c=>xbind (preAllX st ps) fun st1=>runX n (.c c) K st1
  | .seq a b=>runX n (.c a) (.sq b::K) st
  | .ite o a b=>xbind (xtruth (st.val o)) fun t=>runX n (.c (match t with | true=>a | false=>b)) K st
  | .blk id a=>runX n (.c a) (.bk id::K) st
  | .loop keep a=>xpure (.c a,.lp keep a::K,st.sweep keep)
  | .exit id=>runX n (.x (.e id)) K st
  | .ret=>runX n (.x .r) K st
 | n+1,.x x,K,st=>
  match K with
  | []=>xpure (.x x,[],st)
  | .sq b::K=>
   match x with
   | .n=>runX n (.c b) K st
   | x=>runX n (.x x) K st
  | .bk id::K=>
   match x with
   | .e i=>if i=id then runX n (.x .n) K st else runX n (.x (.e i)) K st
   | x=>runX n (.x x) K st
  | .lp keep a::K=>
   match x with
   | .n=>xpure (.c a,.lp keep a::K,st.sweep keep)
   | x=>runX n (.x x) K st
theorem runX_ok {Q:VX→St→Prop} : ∀ (n:Nat) (u:Cu) (K:List Fr) (st:St),Ok (runX ext tbl n u K st) fun y=>EvU ext tbl y.1 y.2.1 y.2.2 Q→EvU ext tbl u K st Q
 | 0,u,K,st=>Ok.fail
 | n+1,.c c,K,st=>by
  cases c with
  | skip=>exact (runX_ok n (.x .n) K st).mono fun y h hy=>Ev.skip (h hy)
  | r id ops=>
   refine Ok.bind (opsX_ok ops st) fun st1 ⟨m,h1⟩=>(runX_ok (Q:=Q) n (.x .n) K st1).mono fun y h hy=>?_
   exact Ev.r ⟨m,st1,h1,h hy⟩
  | d id ops=>
   refine Ok.bind (opsX_ok (ops.map (·.2)) st) fun st1 ⟨m,h1⟩=>(runX_ok (Q:=Q) n (.x .n) K st1).mono fun y h hy=>?_
   exact ⟨m,.n,st1,by simp [vexec,h1],h hy⟩
  | kp keep c=>
   refine Ok.pure fun hy=>?_
   obtain ⟨m,x,st1,h1,h2⟩:=hy
   exact ⟨m,x,st1,h1,h2⟩
  | pre ps c=>
   refine Ok.bind (preAllX_ok ps st) fun st1 h1=>(runX_ok (Q:=Q) n (.c c) K st1).mono fun y h hy=>?_
   obtain ⟨m,x,st2,h3,h4⟩:=h hy
   exact ⟨m,x,st2,by simp only [vexec,h1,Option.bind_some];exact h3,h4⟩
  | seq a b=>
   refine (runX_ok n (.c a) (.sq b::K) st).mono fun y h hy=>Ev.seq ((h hy).mono fun x st1 hx=>?_)
   cases x <;> exact hx
  | ite o a b=>
   refine Ok.bind (truth_ok _) fun t ht=>(runX_ok (Q:=Q) n _ K st).mono fun y h hy=>?_
   refine Ev.ite ht (fun e=>?_) fun e=>?_
   ·subst e;exact h hy
   ·subst e;exact h hy
  | blk id a=>
   refine (runX_ok n (.c a) (.bk id::K) st).mono fun y h hy=>Ev.blk ((h hy).mono fun x st1 hx=>?_)
   cases x <;> exact hx
  | loop keep a=>
   refine Ok.pure fun hy=>Ev.loop1 (Ev.mono hy fun x st1 hx=>?_)
   cases x <;> exact hx
  | exit id=>exact (runX_ok n (.x (.e id)) K st).mono fun y h hy=>Ev.exit (h hy)
  | ret=>exact (runX_ok n (.x .r) K st).mono fun y h hy=>Ev.ret (h hy)
 | n+1,.x x,K,st=>by
  cases K with
  | nil=>exact Ok.pure fun hy=>hy
  | cons fr K=>
   cases fr with
   | sq b=>
    cases x with
    | n=>exact (runX_ok n (.c b) K st).mono fun y h hy=>h hy
    | e i=>exact (runX_ok n (.x (.e i)) K st).mono fun y h hy=>h hy
    | r=>exact (runX_ok n (.x .r) K st).mono fun y h hy=>h hy
   | bk id=>
    cases x with
    | n=>exact (runX_ok n (.x .n) K st).mono fun y h hy=>h hy
    | e i=>
     simp only [runX]
     refine Ok.ite (fun hi=>(runX_ok (Q:=Q) n (.x .n) K st).mono fun y h hy=>?_) fun hi=>(runX_ok (Q:=Q) n (.x (.e i)) K st).mono fun y h hy=>?_
     ·simp only [EvU,EvK];rw [if_pos hi];exact h hy
     ·simp only [EvU,EvK];rw [if_neg hi];exact h hy
    | r=>exact (runX_ok n (.x .r) K st).mono fun y h hy=>h hy
   | lp keep a=>
    cases x with
    | n=>
     refine Ok.pure fun hy=>Ev.loop1 (Ev.mono hy fun x st1 hx=>?_)
     cases x <;> exact hx
    | e i=>exact (runX_ok n (.x (.e i)) K st).mono fun y h hy=>h hy
    | r=>exact (runX_ok n (.x .r) K st).mono fun y h hy=>h hy
def lenCX:C→X C
 | .ref id p off len=>xbind (xsize len) fun n=>xpure (.ref id p off n)
 | c=>xpure c
theorem lenCX_ok (c:C):Ok (lenCX c) fun x=>x=id c:=by
 cases c with
 | ref id p off len=>exact Ok.bind (size_ok len) fun n hn=>Ok.pure (by rw [hn];rfl)
 | _=>exact Ok.pure rfl
theorem SV.map_id:∀ s:SV,s.map id=s
 | .v a cs=>by simp [SV.map]
 | .tup ss=>by simp [SV.map]
 | .ifc _ _=>by simp [SV.map]
 | .any=>rfl
theorem mapC_id (st:St):st.mapC id=st:=by
 have h1:SV.map (id:C→C)=id:=funext SV.map_id
 have h2:(Option.map (List.map (id:C→C)))=id:=by funext o;cases o <;> simp
 simp [St.mapC,h1,h2]
def relenX (st:St):X St:=St.mapX st lenCX
theorem relenX_ok (st:St):Ok (relenX st) fun x=>x=st:=(stmapX_ok lenCX_ok st).mono fun x hx=>by rw [hx,mapC_id]
variable (ext) (tbl) in
def stepX (n:Nat) (u:Cu) (K:List Fr) (st:St):X (Cu×List Fr×St):=
 xbind (runX ext tbl n u K st) fun y=>xbind (relenX y.2.2) fun st1=>xpure (y.1,y.2.1,st1)
theorem stepX_ok {Q:VX→St→Prop} (n:Nat) (u:Cu) (K:List Fr) (st:St):Ok (stepX ext tbl n u K st) fun y=>EvU ext tbl y.1 y.2.1 y.2.2 Q→EvU ext tbl u K st Q:=
 Ok.bind (runX_ok n u K st) fun y h=>Ok.bind (relenX_ok _) fun st1 h1=>Ok.pure fun hy=>h (by subst h1;exact hy)
def outRX (st:St):RM→SV→X (Arg×List Nat×List Nat)
 | .v ots,.v agg cs=>xbind (toTsX st ots cs) fun t=>xpure (.v agg t.1,t.2,[])
 | .p ots,.v false [.vptr id 0]=>xbind (xof (st.var id)) fun cs=>xbind (toTsX st ots cs) fun t=>xpure (.m (.pt t.1),t.2,[id])
 | _,_=>xfail
def outRsX (st:St):List RM→List Nat→X (List Arg×List Nat×List Nat)
 | [],[]=>xpure ([],[],[])
 | m::ms,k::ks=>xbind (xof (st.slots[k]?)) fun s=>xbind (outRX st m s) fun a=>xbind (outRsX st ms ks) fun b=>xpure (a.1::b.1,a.2.1++b.2.1,a.2.2++b.2.2)
 | _,_=>xfail
def outMX (st:St):List PM→Nat→X (List T×List Nat×List Nat)
 | [],_=>xpure ([],[],[])
 | .ro _::ms,k=>outMX st ms (k+1)
 | .mv _::ms,k=>outMX st ms (k+1)
 | .mb ots::ms,k=>
  xbind (xof (st.slots[k]?)) fun s=>xbind (outMX st ms (k+1)) fun r=>
  match s with
  | .v false [.vptr id 0]=>xbind (xof (st.var id)) fun cs=>xbind (toTsX st ots cs) fun t=>xpure (.pt t.1::r.1,t.2++r.2.1,id::r.2.2)
  | _=>xfail
 | .ms ot::ms,k=>
  xbind (xof (st.slots[k]?)) fun s=>xbind (outMX st ms (k+1)) fun r=>
  match s with
  | .v false [.ref id [] 0 _]=>xbind (xof (st.obj id)) fun o=>if OT.beqs ot o.ot then xpure (.sl o.es::r.1,id::r.2.1,r.2.2) else xfail
  | _=>xfail
 | .mg ots::ms,k=>
  xbind (xof (st.slots[k]?)) fun s=>xbind (outMX st ms (k+1)) fun r=>
  match s with
  | .v _ cs=>xbind (xof (mgOut st ots cs)) fun e=>xpure (e.1++r.1,e.2++r.2.1,r.2.2)
  | _=>xfail
def leaveX (vf:VF) (st:St):X FRes:=
 xbind (outRsX st vf.rm vf.res) fun a=>xbind (outMX st vf.pm 0) fun b=>if distinct (a.2.1++b.2.1)&&distinct (a.2.2++b.2.2) then xpure ⟨a.1,b.1⟩ else xfail
theorem outRX_ok (st:St) (m:RM) (s:SV):Ok (outRX st m s) fun x=>outR st m s=some x:=by
 unfold outRX
 split
 ·exact Ok.bind (toTsX_ok _ _ _) fun t ht=>Ok.pure (by simp [outR,ht])
 ·exact Ok.ofb fun cs hcs=>Ok.bind (toTsX_ok _ _ _) fun t ht=>Ok.pure (by simp [outR,ht,hcs])
 ·exact Ok.fail
theorem outRsX_ok (st:St):∀ (ms:List RM) (ks:List Nat),Ok (outRsX st ms ks) fun x=>outRs st ms ks=some x
 | [],[]=>Ok.pure rfl
 | [],_::_=>Ok.fail
 | _::_,[]=>Ok.fail
 | m::ms,k::ks=>Ok.ofb fun s hs=>Ok.bind (outRX_ok st m s) fun a ha=>Ok.bind (outRsX_ok st ms ks) fun b hb=>Ok.pure (by simp [outRs,hs,ha,hb])
theorem outMX_ok (st:St):∀ (ms:List PM) (k:Nat),Ok (outMX st ms k) fun x=>outM st ms k=some x
 | [],k=>Ok.pure rfl
 | .ro _::ms,k=>(outMX_ok st ms (k+1)).mono fun x hx=>by simpa [outM] using hx
 | .mv _::ms,k=>(outMX_ok st ms (k+1)).mono fun x hx=>by simpa [outM] using hx
 | .mb ots::ms,k=>by
  refine Ok.ofb fun s hs=>Ok.bind (outMX_ok st ms (k+1)) fun r hr=>?_
  split
  ·refine Ok.ofb fun cs hcs=>Ok.bind (toTsX_ok _ _ _) fun t ht=>Ok.pure ?_
   simp [outM,hs,hr,hcs,ht]
  ·exact Ok.fail
 | .ms ot::ms,k=>by
  refine Ok.ofb fun s hs=>Ok.bind (outMX_ok st ms (k+1)) fun r hr=>?_
  split
  ·refine Ok.ofb fun o ho=>Ok.iteF fun hb=>Ok.pure ?_
   simp [outM,hs,hr,ho,hb]
  ·exact Ok.fail
 | .mg ots::ms,k=>by
  refine Ok.ofb fun s hs=>Ok.bind (outMX_ok st ms (k+1)) fun r hr=>?_
  split
  ·refine Ok.ofb fun e he=>Ok.pure ?_
   simp [outM,hs,hr,he]
  ·exact Ok.fail
theorem leaveX_ok (vf:VF) (st:St):Ok (leaveX vf st) fun x=>leave vf st=some x:=by
 unfold leaveX
 refine Ok.bind (outRsX_ok _ _ _) fun a ha=>Ok.bind (outMX_ok _ _ _) fun b hb=>Ok.iteF fun hd=>Ok.pure ?_
 simp only [leave,ha,hb,if_pos hd]
def resX:List Nat→List (Option (Nat×Bool))→St→X St
 | k::ks,some (n,agg)::rc,st=>xbind (if agg||decide (n=1) then loadX st k (.s k) n agg else xfail) fun st1=>resX ks rc st1
 | _::ks,none::rc,st=>resX ks rc st
 | [],_,st=>xpure st
 | _::_,[],st=>xpure st
theorem resX_ok:∀ (ks:List Nat) (rc:List (Option (Nat×Bool))) (st:St),Ok (resX ks rc st) fun x=>resLoad ks rc st=some x
 | k::ks,some (n,agg)::rc,st=>Ok.bind (r:=fun st1=>(if agg||decide (n=1) then vload st k (.s k) n agg else none)=some st1) (Ok.iteF fun h=>(loadX_ok st k (.s k) n agg).mono fun y hy=>by rw [if_pos h,hy]) fun st1 h1=>(resX_ok ks rc st1).mono fun x hx=>by simp only [resLoad,h1,hx]
 | _::ks,none::rc,st=>resX_ok ks rc st
 | [],_,st=>Ok.pure (by simp [resLoad])
 | _::_,[],st=>Ok.pure (by simp [resLoad])
def leave2X (vf:VF) (st:St):X FRes:=xbind (resX vf.res vf.rc st) fun st1=>leaveX vf st1
theorem leave2X_ok (vf:VF) (st:St):Ok (leave2X vf st) fun x=>leave2 vf st=some x:=Ok.bind (resX_ok _ _ st) fun st1 h1=>(leaveX_ok vf st1).mono fun x hx=>by simp [leave2,h1,hx]
def Post (vf:VF) (r:FRes) (x:VX) (st:St):Prop:=(x=.n∨x=.r)∧leave2 vf st=some r
variable (ext) (tbl) in
def finX (vf:VF) (n:Nat) (u:Cu) (K:List Fr) (st:St):X FRes:=
 xbind (runX ext tbl n u K st) fun y=>
 match y with
 | (.x .n,[],st1)=>leave2X vf st1
 | (.x .r,[],st1)=>leave2X vf st1
 | _=>xfail
theorem finX_ok (vf:VF) (n:Nat) (u:Cu) (K:List Fr) (st:St):Ok (finX ext tbl vf n u K st) fun r=>EvU ext tbl u K st (Post vf r):=by
 intro os r os' ps h hp
 have key:Ok (finX ext tbl vf n u K st) fun r=>∀ r',r=r'→EvU ext tbl u K st (Post vf r'):=by
  intro os r os' ps h hp r' e
  subst e
  have:Ok (finX ext tbl vf n u K st) fun r1=>r1=r→EvU ext tbl u K st (Post vf r):=by
   refine Ok.bind (runX_ok (Q:=Post vf r) n u K st) fun y hy=>?_
   split
   ·exact (leave2X_ok vf _).mono fun x hx e=>hy ⟨.inl rfl,by rw [←e];exact hx⟩
   ·exact (leave2X_ok vf _).mono fun x hx e=>hy ⟨.inr rfl,by rw [←e];exact hx⟩
   ·exact Ok.fail
  exact this _ _ _ _ h hp rfl
 exact key _ _ _ _ h hp r rfl
def outX {α:Type} (x:X α) (os:List Orc):Option (α×Prop):=
 match x os with
 | some (a,[],ps)=>some (a,All ps)
 | _=>none
theorem outX_ok {α:Type} {x:X α} {os:List Orc} {a:α} {p:Prop} {r:α→Prop} (h:Ok x r) (hx:outX x os=some (a,p)) (hp:p):r a:=by
 unfold outX at hx
 split at hx
 ·rename_i b ps h1
  simp only [Option.some.injEq,Prod.mk.injEq] at hx
  obtain ⟨rfl,rfl⟩:=hx
  exact h _ _ _ _ h1 hp
 ·simp at hx
theorem go_on {u u' : Cu} {K K' : List Fr} {st st' : St} {Q:VX→St→Prop} (os:List Orc) (n:Nat) {p:Prop} (hp:p) (hn:EvU ext tbl u' K' st' Q) (h:outX (stepX ext tbl n u K st) os=some ((u',K',st'),p)):EvU ext tbl u K st Q:=
 outX_ok (stepX_ok n u K st) h hp hn
theorem go_end {u:Cu} {K:List Fr} {st:St} {vf:VF} {r r' : FRes} (os:List Orc) (n:Nat) {p:Prop} (hp:p) (hr:r' = r) (h:outX (finX ext tbl vf n u K st) os=some (r',p)):EvU ext tbl u K st (Post vf r):=by
 subst hr
 exact outX_ok (r:=fun r=>EvU ext tbl u K st (Post vf r)) (finX_ok vf n u K st) h hp
theorem runs_of {f:FuncId} {vf:VF} {ars:List Arg} {r:FRes} {st:St} (hvf:tbl f=some vf) (hg:vf.given=false) (he:enter vf ars=some st) (h:EvU ext tbl (.c vf.code) [] st (Post vf r)):Runs ext tbl f ars r:=
 Runs.intro hvf hg he h
section
variable {σ ε:Type}
def iterM (b:σ→Option (σ⊕ε)):Nat→σ→Option ε
 | 0,_=>none
 | n+1,s=>
  match b s with
  | none=>none
  | some (.inl s')=>iterM b n s'
  | some (.inr e)=>some e
theorem iterM_mono {b:σ→Option (σ⊕ε)} : ∀ {n m:Nat} {s:σ} {e:ε},n≤m→iterM b n s=some e→iterM b m s=some e
 | 0,m,s,e,_,h=>by simp [iterM] at h
 | n+1,0,s,e,hm,_=>by omega
 | n+1,m+1,s,e,hm,h=>by
  simp only [iterM] at h ⊢
  split at h
  ·simp at h
  ·exact iterM_mono (Nat.le_of_succ_le_succ hm) h
  ·exact h
open Classical in
noncomputable def loopM (b:σ→Option (σ⊕ε)) (s:σ):Option ε:=if h:∃ e n,iterM b n s=some e then some h.choose else none
theorem loopM_some {b:σ→Option (σ⊕ε)} {s:σ} {e:ε} : loopM b s=some e↔∃ n,iterM b n s=some e:=by
 unfold loopM
 constructor
 ·intro h
  split at h
  ·rename_i hx
   simp at h
   subst h
   exact hx.choose_spec
  ·simp at h
 ·rintro ⟨n,h⟩
  have hx:∃ e n,iterM b n s=some e:=⟨e,n,h⟩
  rw [dif_pos hx]
  obtain ⟨m,h2⟩:=hx.choose_spec
  have h3:=iterM_mono (Nat.le_max_left n m) h
  have h4:=iterM_mono (Nat.le_max_right n m) h2
  rw [h3] at h4
  exact h4.symm
theorem loopM_eq (b:σ→Option (σ⊕ε)) (s:σ):loopM b s=match b s with
  | none=>none
  | some (.inl s')=>loopM b s'
  | some (.inr e)=>some e:=by
 have key:∀ e,loopM b s=some e↔(match b s with
  | none=>none
  | some (.inl s')=>loopM b s'
  | some (.inr e)=>some e)=some e:=by
  intro e
  rw [loopM_some]
  constructor
  ·rintro ⟨n,h⟩
   cases n with
   | zero=>simp [iterM] at h
   | succ n=>
    simp only [iterM] at h
    split at h
    ·simp at h
    ·rename_i s' hb
     exact loopM_some.2 ⟨n,h⟩
    ·rename_i e' hb
     exact h
  ·intro h
   split at h
   ·simp at h
   ·rename_i s' hb
    obtain ⟨n,h⟩:=loopM_some.1 h
    exact ⟨n+1,by simp only [iterM,hb];exact h⟩
   ·rename_i e' hb
    exact ⟨1,by simp only [iterM,hb];exact h⟩
 cases h1:loopM b s with
 | some e=>rw [(key e).1 h1]
 | none=>
  cases h2:(match b s with
  | none=>none
  | some (.inl s')=>loopM b s'
  | some (.inr e)=>some e) with
  | none=>rfl
  | some e=>rw [(key e).2 h2] at h1;simp at h1
theorem loop_rule {b:σ→Option (σ⊕ε)} {stJ:σ→St} {u:Cu} {K:List Fr} {Q:VX→St→Prop} {We:ε→Prop}
  (H:∀ s y,b s=some y→(∀ s',y=.inl s'→EvU ext tbl u K (stJ s') Q)→(∀ e,y=.inr e→We e)→EvU ext tbl u K (stJ s) Q) {s:σ} {e:ε} (h:loopM b s=some e) (he:We e):EvU ext tbl u K (stJ s) Q:=by
 replace h:=loopM_some.1 h
 obtain ⟨n,h⟩:=h
 induction n generalizing s with
 | zero=>simp [iterM] at h
 | succ n ih=>
  simp only [iterM] at h
  split at h
  ·simp at h
  ·rename_i s' hb
   exact H s _ hb (fun s'' e=>by simp at e;subst e;exact ih h) (fun e h=>by simp at h)
  ·rename_i e' hb
   simp at h
   subst h
   exact H s _ hb (fun s'' e=>by simp at e) (fun e h=>by simp at h;subst h;exact he)
end
end
end Go.Proofs.V

namespace Go.Proofs.V
open Go
section
variable {α β:Type}
def w64 (x:Int):Int:=IntKind.wrap .i64 x
def wr (k:IntKind) (x:Int):Int:=IntKind.wrap k x
def shrI (k:IntKind) (a b:Int):Int:=a.fdiv (2 ^ min b.toNat k.bits)
def andI (k:IntKind) (x y:Int):Int:=k.wrap (BitVec.ofInt k.bits x &&& BitVec.ofInt k.bits y).toNat
def rd (l:List α) (k:Int):Option α:=if 0≤k then l[k.toNat]? else none
def ck (b:Bool):Option Unit:=if b then some () else none
def sat (s:ByteArray) (k:Int):Option Int:=if 0≤k then (s[k.toNat]?).map (fun c=>(c.toNat:Int)) else none
def rI (k:IntKind) (n:Int):List T:=[.lit (.int k n)]
def rB (b:Bool):List T:=[.lit (.bool b)]
def rS (s:ByteArray):List T:=[.lit (.string s)]
def rL (f:α→List T) (l:List α):List T:=[.sl (l.map f)]
def mkSl (n:Nat) (l:List (Nat×SV)):List SV:=(List.range n).map fun k=>(l.lookup k).getD .any
theorem split_ite {c:Bool} {A B:Option α} {r:α} (h:(if c then A else B)=some r):(c=true∧A=some r)∨(c=false∧B=some r):=by
 cases c with
 | true=>exact .inl ⟨rfl,h⟩
 | false=>exact .inr ⟨rfl,h⟩
theorem bind_some {x:Option α} {f:α→Option β} {r:β} (h:x.bind f=some r):∃ a,x=some a∧f a=some r:=Option.bind_eq_some_iff.1 h
theorem ck_p {p:Prop} [Decidable p] {u:Unit} (h:ck (decide p)=some u):p:=by
 unfold ck at h
 split at h
 ·rename_i h1;exact of_decide_eq_true h1
 ·simp at h
section
variable {l:List α} {k:Int} {x:α}
theorem rd_nn (h:rd l k=some x):0≤k:=by
 unfold rd at h
 split at h
 ·assumption
 ·simp at h
theorem rd_get (h:rd l k=some x):l[k.toNat]? = some x:=by
 unfold rd at h
 split at h
 ·exact h
 ·simp at h
theorem rd_get0 (h:rd l k=some x):l[0+k.toNat]? = some x:=by rw [Nat.zero_add];exact rd_get h
theorem rd_lt (h:rd l k=some x):k < l.length:=by
 have h1:=rd_get h
 have h2:=rd_nn h
 have:=(List.getElem?_eq_some_iff.1 h1).1
 omega
theorem rd_in {n:Nat} (hn:n=l.length) (h:rd l k=some x):0≤k∧k < (n:Int):=⟨rd_nn h,by rw [hn];exact rd_lt h⟩
end
theorem at_row (f:α→List T) {l:List α} {i:Nat} {x:α} (h:l[i]? = some x):(l.map f)[i]? = some (f x):=by rw [List.getElem?_map,h];rfl
theorem set_at {l:List α} {i:Nat} {x:α} (v:α) (h:l[i]? = some x):(l.set i v)[i]? = some v:=by
 have:=(List.getElem?_eq_some_iff.1 h).1
 simp [List.getElem?_set,this]
theorem set_len {l:List α} {n i:Nat} {v:α} (h:n=l.length):n=(l.set i v).length:=by rw [List.length_set];exact h
theorem put_ob (f:α→List T) {l:List α} {i:Nat} {x:α} (v:α) (j:Nat) (c:T) (h:l[i]? = some x) (h2:decide (j < (f x).length)=true) (h3:(f x).set j c=f v) :
  ∃ row,(l.map f)[i]? = some row∧j < row.length∧(l.map f).set i (row.set j c)=(l.set i v).map f:=
 ⟨f x,at_row f h,of_decide_eq_true h2,by rw [h3,List.map_set]⟩
theorem put_ob2 (f:α→List T) {l:List α} {i:Nat} {x y:α} (v:α) (j:Nat) (c:T) (h:(l.set i y)[i]? = some x) (h2:decide (j < (f x).length)=true) (h3:(f x).set j c=f v) :
  ∃ row,((l.set i y).map f)[i]? = some row∧j < row.length∧((l.set i y).map f).set i (row.set j c)=(l.set i v).map f:=
 ⟨f x,at_row f h,of_decide_eq_true h2,by rw [h3,List.map_set,List.set_set,List.map_set]⟩
theorem set_at2 {l:List α} {i:Nat} {y x:α} (v:α) (h:(l.set i y)[i]? = some x):(l.set i v)[i]? = some v:=by
 have h1:=(List.getElem?_eq_some_iff.1 h).1
 simp at h1
 simp [List.getElem?_set,h1]
theorem upd_ob (f:α→List T) (l:List α) (i:Nat) (x v:α) (j:Nat) (c:T) (h3:(f x).set j c=f v):(l.map f).set i ((f x).set j c)=(l.set i v).map f:=by rw [h3,List.map_set]
theorem len_map (f:α→β) {l:List α} {n:Nat} (h:n=l.length):(l.map f).length=n:=by rw [List.length_map,h]
theorem lens (m n:Nat) (h:m=n):m=n:=h
section
variable {lim n1 n2:Nat} (f:α→List T) (l1 l2:List α)
theorem app_ck {u:Unit} (h1:n1=l1.length) (h2:n2=l2.length) (h:ck (decide (l1.length+l2.length≤lim))=some u):n1≤(l1.map f).length∧n1+(((l2.map f).drop 0).take n2).length≤lim:=by
 have:=ck_p h
 subst h1;subst h2
 simp
 omega
theorem app_ck_ro {u:Unit} (h1:n1=l1.length) (h:ck (decide (l1.length+l2.length≤lim))=some u):n1≤(l1.map f).length∧n1+(l2.map f).length≤lim:=by
 have:=ck_p h
 subst h1
 simp
 omega
theorem app_tell (h1:n1=l1.length) (h2:n2=l2.length):(l1.map f).take n1++((l2.map f).drop 0).take n2=(l1++l2).map f:=by
 subst h1;subst h2
 rw [List.take_of_length_le (by simp),List.drop_zero,List.take_of_length_le (by simp),List.map_append]
theorem appr_ck {u:Unit} (h1:n1=l1.length) (h2:n2=l2.length) (h:ck (decide (l1.length+l2.length≤lim))=some u):n1=(l1.map f).length∧n1+(((l2.map f).drop 0).take n2).length≤lim:=by
 have:=ck_p h
 subst h1;subst h2
 simp
 omega
theorem appr_tell (h2:n2=l2.length):l1.map f++((l2.map f).drop 0).take n2=(l1++l2).map f:=by
 subst h2
 rw [List.drop_zero,List.take_of_length_le (by simp),List.map_append]
theorem app_tell_ro (h1:n1=l1.length):(l1.map f).take n1++l2.map f=(l1++l2).map f:=by
 subst h1
 rw [List.take_of_length_le (by simp),List.map_append]
theorem all_le {n:Nat} (h:n=l1.length):0+n≤(l1.map f).length:=by subst h;simp
theorem all_le0 {n:Nat} (h:n=l1.length):n≤(l1.map f).length:=by subst h;simp
theorem all_eq {n:Nat} (h:n=l1.length):n=(l1.map f).length:=by subst h;simp
theorem all_dt {n:Nat} (h:n=l1.length):((l1.map f).drop 0).take n=l1.map f:=by subst h;rw [List.drop_zero,List.take_of_length_le (by simp)]
theorem all_t {n:Nat} (h:n=l1.length):(l1.map f).take n=l1.map f:=by subst h;rw [List.take_of_length_le (by simp)]
end
theorem rep_ob (f:α→List T) (n:Nat) (z:α) (row:List T) (h:row=f z):List.replicate n row=(List.replicate n z).map f:=by rw [h,List.map_replicate]
theorem rep_len (n:Nat) (z:α):n=(List.replicate n z).length:=by simp
theorem sat_nn {s:ByteArray} {k b:Int} (h:sat s k=some b):0≤k:=by
 unfold sat at h
 split at h
 ·assumption
 ·simp at h
theorem sat_at {s:ByteArray} {k b:Int} (h:sat s k=some b):(s[k.toNat]?).map (fun c=>(c.toNat:Int))=some b:=by
 unfold sat at h
 split at h
 ·exact h
 ·simp at h
def bstr (l:List Int):Option ByteArray:=(bytesOf (l.map (rI .u8))).map fun bs=>⟨bs.toArray⟩
theorem bstr_t {l:List Int} {s:ByteArray} (h:bstr l=some s):bytesOf (l.map (rI .u8))=some s.data.toList:=by
 unfold bstr at h
 obtain ⟨bs,h1,h2⟩:=Option.map_eq_some_iff.1 h
 rw [h1,←h2]
theorem not_t {e:Bool} (h:e=false):(!e)=true:=by rw [h];rfl
theorem not_f {e:Bool} (h:e=true):(!e)=false:=by rw [h];rfl
end
end Go.Proofs.V

namespace Go.Proofs.V
open Go
theorem J {a b:Prop} (x:a) (y:b):a∧b:=⟨x,y⟩
theorem J0:True:=trivial
theorem eT:true=true:=rfl
theorem eF:false=false:=rfl
abbrev zT:Orc:=.bit true
abbrev zF:Orc:=.bit false
theorem lm {α β:Type} (f:α→β) (l:List α):(l.map f).length=l.length:=len_map f rfl
theorem ln (n:Nat):n=n:=rfl
theorem qj {α:Type} {a b:α} (h:some a=some b):a=b:=Option.some.inj h
abbrev zi (l:List Int):Orc:=.rows (List.map (rI .i64) l)
abbrev zb (l:List Bool):Orc:=.rows (List.map rB l)
abbrev zn (n:Nat):Orc:=.num n
theorem Ja {α:Type} {c:Prop} (f:α→List T) (l:List α) (y:c):l.length≤(l.map f).length∧(l.map f).take l.length=l.map f∧c:=⟨all_le0 f l rfl,all_t f l rfl,y⟩
abbrev vI (n:Int):Value:=.int .i64 n
abbrev mi (l:List Int):List (List T):=List.map (rI .i64) l
abbrev mb (l:List Bool):List (List T):=List.map rB l
abbrev M (d s:Nat):ROp:={ op:=.mv d (.s s) }
abbrev oF (d s j:Nat):ROp:={ op:=.fadr d (.s s) j }
abbrev oL (d s t:Nat):ROp:={ op:=.ld d (.s s) t false }
abbrev oV (d s t:Nat):ROp:={ op:=.ldv d (.s s) t false }
abbrev oG (d s j:Nat):ROp:={ op:=.fadv d (.s s) j }
abbrev oX (d s i t:Nat):ROp:={ op:=.iadr d (.s s) (.s i) t }
abbrev oS (d s t:Nat):ROp:={ op:=.st (.s d) (.s s) t }
abbrev oK (d:Nat) (b:Bool):ROp:={ op:=.mv d (.k (.bool b)) }
abbrev oN (d:Nat) (n:Int):ROp:={ op:=.mv d (.k (.int .i64 n)) }
abbrev sI (n:Int):SV:=.v false [.lit (.int .i64 n)]
abbrev sB (b:Bool):SV:=.v false [.lit (.bool b)]
abbrev sP (a b:Nat):SV:=.v false [.vptr a b]
abbrev cI (n:Int):C:=.lit (.int .i64 n)
abbrev cB (b:Bool):C:=.lit (.bool b)
abbrev cR {α:Type} (i:Nat) (l:List α):C:=.ref i [] 0 l.length
abbrev jI (l:List Int):Option Ob:=some ⟨[.sc],List.map (rI .i64) l⟩
abbrev jB (l:List Bool):Option Ob:=some ⟨[.sc],List.map rB l⟩
abbrev q3:List OT:=[.sc,.sc,.sc]
abbrev q4:List OT:=[.sc,.sc,.sc,.sc]
abbrev q5:List OT:=[.sc,.sc,.sc,.sc,.ro [.sc]]
structure WJ where
 os:List Orc
 p:Prop
 h:p
def z0:WJ:=⟨[],True,trivial⟩
def wO (o:Orc) (w:WJ):WJ:=⟨o::w.os,w.p,w.h⟩
def wP {a:Prop} (x:a) (w:WJ):WJ:=⟨w.os,a∧w.p,x,w.h⟩
def u1 {c:Bool} (x:c=true) (w:WJ):WJ:=⟨zT::w.os,c=true∧w.p,x,w.h⟩
def v1 {c:Bool} (x:c=false) (w:WJ):WJ:=⟨zF::w.os,c=false∧w.p,x,w.h⟩
def u2 {c:Bool} (x:c=true) (w:WJ):WJ:=u1 x (u1 x w)
def v2 {c:Bool} (x:c=false) (w:WJ):WJ:=v1 x (v1 x w)
def u3 {c:Bool} (x:c=true) (w:WJ):WJ:=u2 x (u1 x w)
def v3 {c:Bool} (x:c=false) (w:WJ):WJ:=v2 x (v1 x w)
def u4 {c:Bool} (x:c=true) (w:WJ):WJ:=u2 x (u2 x w)
def v4 {c:Bool} (x:c=false) (w:WJ):WJ:=v2 x (v2 x w)
def wN (n:Nat) (w:WJ):WJ:=⟨zn n::w.os,n=n∧w.p,rfl,w.h⟩
def wL {α β:Type} (f:α→β) (l:List α) (w:WJ):WJ:=⟨zn l.length::w.os,(l.map f).length=l.length∧w.p,lm f l,w.h⟩
def wA {α:Type} (f:α→List T) (l:List α) (w:WJ):WJ:=⟨w.os,l.length≤(l.map f).length∧(l.map f).take l.length=l.map f∧w.p,Ja f l w.h⟩
def wR {α:Type} (f:α→List T) (l:List α) (w:WJ):WJ:=wO (.rows (List.map f l)) (wA f l w)
theorem gm {ext:FuncId→List Arg→Option FRes} {tbl:FuncId→Option VF} {u:Cu} {K:List Fr} {st:St} {Q:VX→St→Prop} (c:VC) (K' : List Fr) (st' : St) (w:WJ) (hn:EvU ext tbl (.c c) K' st' Q) (h:outX (stepX ext tbl 1000 u K st) w.os=some ((.c c,K',st'),w.p)):EvU ext tbl u K st Q:=go_on w.os 1000 w.h hn h
theorem gw {ext:FuncId→List Arg→Option FRes} {tbl:FuncId→Option VF} {u:Cu} {K:List Fr} {st:St} {Q:VX→St→Prop} {c:VC} {K' : List Fr} {st' : St} (hn:EvU ext tbl (.c c) K' st' Q) (w:WJ) (h:outX (stepX ext tbl 1000 u K st) w.os=some ((.c c,K',st'),w.p)):EvU ext tbl u K st Q:=go_on w.os 1000 w.h hn h
theorem ge {ext:FuncId→List Arg→Option FRes} {tbl:FuncId→Option VF} {u:Cu} {K:List Fr} {st:St} {vf:VF} {r r' : FRes} (w:WJ) (hr:r' = r) (h:outX (finX ext tbl vf 1000 u K st) w.os=some (r',w.p)):EvU ext tbl u K st (Post vf r):=go_end w.os 1000 w.h hr h
end Go.Proofs.V

namespace Go.Proofs.V
open Go
def Dec {α:Type} (p:List Ty) (enc:α→List T) (wf:α→Prop):Prop:=∀ ts,Wts p ts→∃ x,ts=enc x∧wf x
theorem wts_one {q:Ty} {ts:List T} (h:Wts [q] ts):∃ x,ts=[x]∧Wt q x:=by
 obtain ⟨h1,h2⟩:=h
 match ts,h1 with
 | [x],_=>exact ⟨x,rfl,h2 0 q x rfl rfl⟩
def inK (k:IntKind) (n:Int):Prop:=k.min≤n∧n≤k.max
theorem dec_int (k:IntKind):Dec [.int k] (rI k) (inK k):=by
 intro ts h
 obtain ⟨x,rfl,hx⟩:=wts_one h
 cases hx with
 | @int _ n hn=>
  refine ⟨n,rfl,?_⟩
  simp only [Lit.wf,Bool.and_eq_true,decide_eq_true_eq] at hn
  exact hn
theorem dec_sl {α:Type} {p:List Ty} {enc:α→List T} {wf:α→Prop} (h:Dec p enc wf):Dec [.sl p] (rL enc) (fun l=>l.length≤maxLen∧∀ x ∈ l,wf x):=by
 intro ts ht
 obtain ⟨x,rfl,hx⟩:=wts_one ht
 cases hx with
 | @sl _ es hl hr hs=>
  have key:∀ es:List (List T),(∀ row ∈ es,Wts p row)→∃ l:List α,es=l.map enc∧∀ x ∈ l,wf x:=by
   intro es
   induction es with
   | nil=>intro _;exact ⟨[],rfl,by simp⟩
   | cons row es ih=>
    intro hrow
    obtain ⟨x,hx,hw⟩:=h row (hrow row (by simp))
    obtain ⟨l,hl,hwl⟩:=ih fun r hr=>hrow r (by simp [hr])
    exact ⟨x::l,by rw [hx,hl];rfl,by simpa using ⟨hw,hwl⟩⟩
  obtain ⟨l,rfl,hw⟩:=key es (by
   intro row hrow
   obtain ⟨i,hi,rfl⟩:=List.getElem_of_mem hrow
   have he:es[i]? = some es[i]:=List.getElem?_eq_getElem hi
   exact ⟨hr i _ he,fun j q x hq hx=>hs i j _ x q he hx hq⟩)
  exact ⟨l,rfl,by simpa using hl,hw⟩
theorem lookup_mem {α:Type} {f:FuncId} {v:α} : ∀ {l:List (FuncId×α)},l.lookup f=some v→(f,v) ∈ l
 | [],h=>by simp at h
 | (g,u)::l,h=>by
  simp only [List.lookup] at h
  split at h
  ·rename_i e
   simp at e h
   subst e;subst h
   simp
  ·exact List.mem_cons_of_mem _ (lookup_mem h)
theorem table_sound {P:Program} {g:GInv} {l:List (FuncId×VF)} {tbl:FuncId→Option VF} (ht:∀ f,tbl f=l.lookup f) (ext:FuncId→List Arg→Option FRes)
  (hg:∀ x ∈ l,x.2.given=true→∀ ars res st0,enter x.2 ars=some st0→ext x.1 ars=some res→callable P x.1=true∧Does g P x.1 x.2 st0 res)
  (hf:∀ x ∈ l,x.2.given=false→funcIs P tbl x.1 x.2=true) (hb:(l.all fun x=>decide (x.1 < gBase))=true:=by rfl):∀ n,FSound g P tbl (vrun ext tbl n):=
 vrun_sound (fun r vf h=>by
  rw [ht] at h
  have h1:=lookup_mem h
  exact absurd (of_decide_eq_true (List.all_eq_true.1 hb _ h1)) (Nat.not_lt.2 (Nat.le_add_right gBase r))) (fun f vf ars res st0 h h2 h3 h4=>by
  rw [ht] at h
  exact hg _ (lookup_mem h) h2 ars res st0 h3 h4) (fun f vf h h2=>by rw [ht] at h;exact hf _ (lookup_mem h) h2)
theorem given_does {P:Program} {g:GInv} {f:FuncId} {vf:VF} {st0:St} {vals:List Value} {v:Value} {m:Nat} (hv:isLit v=true)
  (hpm:vf.pm=List.replicate m (.ro [.sc])) (hrm:vf.rm=[.v [.sc]]) (hres:vf.res=[m]) (hn:vf.nslots=m+1) (hm:vals.length=m)
  (he:enter vf (vals.map fun x=>.v false [.lit x])=some st0) (hst:st0=⟨vals.map (fun x=>.v false [.lit x])++[undefS],[],[]⟩)
  (hc:∀ w,g.I w→Calls P f vals.toArray w fun e w'=>e=.returned v∧w' = w):Does g P f vf st0 ⟨[.v false [.lit v]],[]⟩:=by
 intro args w Fc Ac O Go Gv hsz ga hrel
 subst hst
 have hal:args.size=m:=by rw [hsz,hpm,List.length_replicate]
 have hargs:args=vals.toArray:=by
  apply Array.ext
  ·simp [hal,hm]
  ·intro i h1 h2
   have h3:i < vals.length:=by simpa using h2
   have h4:(initTm args vf.nslots)[i]? = some args[i]:=by
    unfold initTm
    rw [Array.getElem?_append,if_pos h1]
    simp [h1]
   have h5:=hrel.slots i args[i] (.v false [.lit vals[i]]) h4 (by simp [List.getElem?_append,h3])
   obtain ⟨c,g1,_,g2⟩:=h5
   simp at g1
   subst g1
   simpa [CRel] using g2
 subst hargs
 have hpin:pinsOf vf.pm vals.toArray.toList 0=[]:=by
  rw [hpm]
  have:∀ (k:Nat) (vs:List Value) (j:Nat),pinsOf (List.replicate k (.ro [.sc])) vs j=[]:=by
   intro k
   induction k with
   | zero=>intro vs j;simp [pinsOf]
   | succ k ih=>intro vs j;cases vs with
    | nil=>simp [pinsOf,List.replicate_succ]
    | cons a vs=>simp [pinsOf,List.replicate_succ,PM.isBack,ih]
  exact this m _ 0
 refine (hc w ga.2.2.1).mono ?_
 rintro e w' ⟨rfl,rfl⟩
 refine ⟨v,rfl,Fc,O,Go,Gv,_,_,hrel.put (d:=m) (v:=v) (s:=.v false [.lit v]) (litRel hv) (by rw [hpin];simp),Step.refl _ _,fun _ h=>h,fun _ h=>.inl h,?_,?_⟩
 ·have hsl:(St.set ⟨vals.map (fun x=>SV.v false [.lit x])++[undefS],[],[]⟩ m (.v false [.lit v])).slots[m]? = some (.v false [.lit v]):=by
   simp [St.set,hm]
  have hom:∀ (k j:Nat) (st:St),outM st (List.replicate k (.ro [.sc])) j=some ([],[],[]):=by
   intro k
   induction k with
   | zero=>intro j st;rfl
   | succ k ih=>intro j st;rw [List.replicate_succ];exact ih (j+1) st
  unfold leave
  rw [hrm,hres,hpm,hom]
  simp only [outRs,hsl,Option.bind_some,outR,toTs,toT,hv,if_true]
  rfl
 ·rw [hres]
  have:m < (initTm vals.toArray vf.nslots).size:=by unfold initTm;simp [hn,hm]
  simp [resV,this]
end Go.Proofs.V

namespace Go.Proofs.V
open Go
def gContains (s t:ByteArray):Option Bool:=if s.size < 4294967281 then some (Go.Lib.contains s.data.toList t.data.toList) else none
def gCell (b:Nat):GInv:=⟨b+1,fun w=>∃ m,w.cell? ⟨b,0,none⟩=some (.int .i64 m),fun w w' h ⟨m,hm⟩=>⟨m,by
 unfold World.cell? at hm ⊢
 rw [h b (Nat.lt_succ_self b)]
 exact hm⟩⟩
theorem gCell_le {b:Nat} {w:World} (h:∃ m,w.cell? ⟨b,0,none⟩=some (.int .i64 m)):(gCell b).gl≤w.heap.size:=by
 obtain ⟨m,hm⟩:=h
 show b+1≤w.heap.size
 rcases Nat.lt_or_ge b w.heap.size with h1 | h1
 ·exact h1
 ·unfold World.cell? at hm
  simp [Array.getElem?_eq_none h1] at hm
end Go.Proofs.V

namespace Go.Proofs.V
open Go
theorem w64_id {x:Int} (h1 : -9223372036854775808≤x) (h2:x≤9223372036854775807):w64 x=x:=IntWalk.i64_in x ⟨h1,h2⟩
theorem wu8_id {x:Int} (h1:0≤x) (h2:x≤255):wr .u8 x=x:=IntWalk.u8_in x ⟨h1,h2⟩
theorem wu64_id {x:Int} (h1:0≤x) (h2:x≤18446744073709551615):wr .u64 x=x:=IntWalk.u64_in x ⟨h1,h2⟩
theorem wu32_id {x:Int} (h1:0≤x) (h2:x≤4294967295):wr .u32 x=x:=IntWalk.u32_in x ⟨h1,h2⟩
theorem wu64_eq (x:Int):wr .u64 x=x % 18446744073709551616:=by
 unfold wr IntKind.wrap
 simp [IntKind.bits,IntKind.signed]
theorem wu8_eq (x:Int):wr .u8 x=x % 256:=by
 unfold wr IntKind.wrap
 simp [IntKind.bits,IntKind.signed]
theorem w64_succ {i:Nat} (h:i < 4611686018427387904):w64 ((i:Int)+1)=((i+1:Nat):Int):=by rw [w64_id (by omega) (by omega)];omega
section
variable {α σ τ ε:Type}
theorem loopM_fun {b:τ→Option (τ⊕ε)} (mk:Nat→σ→τ) (n:Nat) (f:Nat→σ) {e:ε} (step:∀ i,i < n→b (mk i (f i))=some (.inl (mk (i+1) (f (i+1))))) (done:b (mk n (f n))=some (.inr e)):loopM b (mk 0 (f 0))=some e:=by
 have key:∀ d i,i+d=n→loopM b (mk i (f i))=some e:=by
  intro d
  induction d with
  | zero=>
   intro i hi
   have:i=n:=by omega
   subst this
   rw [loopM_eq,done]
  | succ d ih=>
   intro i hi
   rw [loopM_eq,step i (by omega)]
   exact ih (i+1) (by omega)
 exact key n 0 (by omega)
theorem loopM_inv {b:τ→Option (τ⊕ε)} (mk:Nat→σ→τ) (n:Nat) (I:Nat→σ→Prop) (R:ε→Prop)
  (step:∀ i s,i < n→I i s→(∃ s',b (mk i s)=some (.inl (mk (i+1) s'))∧I (i+1) s')∨∃ e,b (mk i s)=some (.inr e)∧R e)
  (done:∀ s,I n s→∃ e,b (mk n s)=some (.inr e)∧R e) {s:σ} (h:I 0 s):∃ e,loopM b (mk 0 s)=some e∧R e:=by
 have key:∀ d i s,i+d=n→I i s→∃ e,loopM b (mk i s)=some e∧R e:=by
  intro d
  induction d with
  | zero=>
   intro i s hi hs
   have:i=n:=by omega
   subst this
   obtain ⟨e,h1,h2⟩ :=done s hs
   exact ⟨e,by rw [loopM_eq,h1],h2⟩
  | succ d ih=>
   intro i s hi hs
   rcases step i s (by omega) hs with ⟨s',h1,h2⟩ | ⟨e,h1,h2⟩
   ·rw [loopM_eq,h1]
    exact ih (i+1) s' (by omega) h2
   ·exact ⟨e,by rw [loopM_eq,h1],h2⟩
 exact key n 0 s (by omega) h
theorem rd_eq {l:List α} {i:Nat} (h:i < l.length):rd l (i:Int)=some l[i]:=by
 unfold rd
 rw [if_pos (by omega)]
 simp [h]
theorem rd_eq' {l:List α} {k:Int} {i:Nat} (hk:k=i) (h:i < l.length):rd l k=some l[i]:=by subst hk;exact rd_eq h
theorem ck_eq {p:Prop} [Decidable p] (h:p):ck (decide p)=some ():=by unfold ck;rw [if_pos (by simpa using h)]
theorem fill_set (l:List α) (z:α) (i:Nat) (h:i < l.length):(l.take i++List.replicate (l.length - i) z).set i l[i]=l.take (i+1)++List.replicate (l.length - (i+1)) z:=by
 apply List.ext_getElem?
 intro j
 simp only [List.getElem?_set,List.getElem?_append,List.length_take,List.getElem?_take,List.getElem?_replicate,List.length_append,List.length_replicate]
 by_cases hj:i=j
 ·subst hj
  have h1:min i l.length=i:=by omega
  have h2:min (i+1) l.length=i+1:=by omega
  simp [h1,h2]
  rw [if_pos (by omega),List.getElem?_eq_getElem h]
 ·rw [if_neg hj]
  have h1:min i l.length=i:=by omega
  have h2:min (i+1) l.length=i+1:=by omega
  rw [h1,h2]
  by_cases h3:j < i
  ·rw [if_pos h3,if_pos (show j < i+1 by omega),if_pos h3,if_pos (show j < i+1 by omega)]
  ·rw [if_neg h3,if_neg (show ¬ j < i+1 by omega)]
   by_cases h4:j < l.length
   ·rw [if_pos (by omega),if_pos (by omega)]
   ·rw [if_neg (by omega),if_neg (by omega)]
theorem fill_set0 (l:List α) (z:α) (i:Nat) (h:i < l.length):(l.take i++List.replicate (l.length - i) z).set (0+Int.toNat (i:Int)) l[i]=l.take (i+1)++List.replicate (l.length - (i+1)) z:=by
 rw [Nat.zero_add]
 exact fill_set l z i h
theorem mark_set (g:Nat→α) (l:List α) (i:Nat) (h:i < l.length):((List.range i).map g++l.drop i).set (0+Int.toNat (i:Int)) (g i)=(List.range (i+1)).map g++l.drop (i+1):=by
 apply List.ext_getElem?
 intro j
 simp only [Nat.zero_add,Int.toNat_natCast,List.getElem?_set,List.getElem?_append,List.length_map,List.length_range,List.getElem?_map,List.length_append,List.length_drop,List.getElem?_drop]
 by_cases hj:i=j
 ·subst hj
  rw [if_pos rfl,if_pos (by omega),if_pos (by omega)]
  simp
 ·rw [if_neg hj]
  by_cases h3:j < i
  ·rw [if_pos h3,if_pos (by omega)]
   simp [h3,show j < i+1 by omega]
  ·rw [if_neg h3,if_neg (by omega)]
   congr 1
   omega
end
end Go.Proofs.V

namespace Go.Proofs.V
open Go
theorem if_t {α:Sort _} {c:Prop} [Decidable c] {a b:α} (h:c):(if c then a else b)=a:=if_pos h
theorem if_f {α:Sort _} {c:Prop} [Decidable c] {a b:α} (h : ¬ c):(if c then a else b)=b:=if_neg h
theorem rd_d {α:Type} {l:List α} {i:Nat} (z:α) (h:i < l.length):rd l (i:Int)=some (l.getD i z):=by
 rw [rd_eq h,List.getD_eq_getElem?_getD,List.getElem?_eq_getElem h];rfl
section
variable {α:Type}
theorem to_list {l:List α} {b:Int×List α→Option ((Int×List α)⊕List α)} (step:∀ (i:Nat) (out:List α) (h:i < l.length),out.length=l.length→b ((i:Int),out)=some (.inl (((i+1:Nat):Int),out.set (0+Int.toNat (i:Int)) l[i])))
  (done:∀ out,b ((l.length:Int),out)=some (.inr out)) (z:α):loopM b (0,List.replicate (Int.toNat (l.length:Int)) z)=some l:=by
 have:=loopM_fun (b:=b) (fun i (s:List α)=>((i:Int),s)) l.length (fun i=>l.take i++List.replicate (l.length - i) z) (e:=l) (fun i hi=>by
  rw [step i _ hi (by simp;omega),fill_set0 l z i hi]) (by
  rw [done];simp)
 simpa using this
theorem eq_list {n:Nat} {b:Int→Option (Int⊕(Bool⊕Unit))} (step:∀ i:Nat,i < n→b (i:Int)=some (.inl ((i+1:Nat):Int))) (done:b (n:Int)=some (.inr (.inr ()))):loopM b 0=some (.inr ()):=
 loopM_fun (b:=b) (fun i (s:Unit)=>(i:Int)) n (fun _=>()) step done
theorem sz_list {l:List α} {Sm:α→Prop} {b:Int×Int→Option ((Int×Int)⊕(Int⊕Int))} (step:∀ (left:Int) (i:Nat) (h:i < l.length),0≤left→left≤1048576→b (left,(i:Int))=some (.inr (.inl (-1)))∨∃ left',b (left,(i:Int))=some (.inl (left',((i+1:Nat):Int)))∧0≤left'∧left'≤left∧Sm l[i])
  (done:∀ left,b (left,(l.length:Int))=some (.inr (.inr left))) (left:Int) (h0:0≤left) (h1:left≤1048576) :
  ∃ e,loopM b (left,0)=some e∧(e = .inl (-1)∨∃ s,e = .inr s∧0≤s∧s≤left∧∀ x ∈ l,Sm x):=by
 have key:=loopM_inv (b:=b) (fun i (s:Int)=>(s,(i:Int))) l.length (fun i s=>0≤s∧s≤left∧∀ j,j < i→∀ x,l[j]? = some x→Sm x) (fun e=>e = .inl (-1)∨∃ s,e = .inr s∧0≤s∧s≤left∧∀ x ∈ l,Sm x) ?_ ?_ (s:=left) ⟨h0,by omega,by omega⟩
 ·exact key
 ·rintro i s hi ⟨h3,h4,h5⟩
  rcases step s i hi h3 (by omega) with h6 | ⟨s',h6,h7,h8,h9⟩
  ·exact .inr ⟨_,h6,.inl rfl⟩
  ·refine .inl ⟨s',h6,h7,by omega,?_⟩
   intro j hj x hxj
   by_cases hji:j=i
   ·subst hji
    rw [List.getElem?_eq_getElem hi] at hxj
    simp at hxj
    subst hxj
    exact h9
   ·exact h5 j (by omega) x hxj
 ·rintro s ⟨h3,h4,h5⟩
  refine ⟨.inr s,done s,.inr ⟨s,rfl,h3,h4,?_⟩⟩
  intro x hx'
  obtain ⟨j,hj,e⟩ :=List.getElem_of_mem hx'
  exact h5 j hj x (by rw [List.getElem?_eq_getElem hj,e])
theorem mark_list {Sm:α→Prop} (C:Nat) {b:Int×Int×List α→Option ((Int×Int×List α)⊕(Int×List α))} {bh:List α→Int×Int→Option ((Int×Int)⊕(Int⊕Int))}
  (step:∀ (l:List α) (i k:Nat) (h:i < l.length),l.length≤1048576→k+C≤4611686018427387904→Sm l[i]→∃ x' k' : _,b ((k:Int),(i:Int),l)=some (.inl (((k' : Nat):Int),((i+1:Nat):Int),l.set i x'))∧k≤k'∧k'≤k+C∧
   ∀ (l' : List α) (h' : i < l'.length),l'.length≤1048576→l'[i]=x'→bh l' ((k:Int),(i:Int))=some (.inl ((k' : Int),((i+1:Nat):Int))))
  (done:∀ (l:List α) (k:Int),b (k,(l.length:Int),l)=some (.inr (k,l))) (hdone:∀ (l:List α) (k:Int),bh l (k,(l.length:Int))=some (.inr (.inr k)))
  (l:List α) (k:Nat) (hl:l.length≤1048576) (hk:k+l.length*C≤4611686018427387904) (hs:∀ x ∈ l,Sm x) :
  ∃ (l' : List α) (k' : Nat),loopM b ((k:Int),0,l)=some ((k' : Int),l')∧l'.length=l.length∧k≤k'∧k'≤k+l.length*C∧loopM (bh l') ((k:Int),0)=some (.inr (k' : Int)):=by
 have key:∀ (d i k:Nat) (l:List α),i+d=l.length→l.length≤1048576→k+d*C≤4611686018427387904→(∀ x ∈ l.drop i,Sm x)→
   ∃ (l' : List α) (k' : Nat),loopM b ((k:Int),(i:Int),l)=some ((k' : Int),l')∧l'.length=l.length∧k≤k'∧k'≤k+d*C∧l'.take i=l.take i∧loopM (bh l') ((k:Int),(i:Int))=some (.inr (k' : Int)):=by
  intro d
  induction d with
  | zero=>
   intro i k l hi hl hk hs
   have:i=l.length:=by omega
   subst this
   refine ⟨l,k,?_,rfl,by omega,by omega,rfl,?_⟩
   ·rw [loopM_eq,done]
   ·rw [loopM_eq,hdone]
  | succ d ih=>
   intro i k l hi hl hk hs
   have hlt:i < l.length:=by omega
   rw [Nat.succ_mul] at hk
   obtain ⟨x',k1,h1,h2,h3,h4⟩ :=step l i k hlt hl (by have:0≤d*C:=Nat.zero_le _;omega) (hs _ (by rw [List.drop_eq_getElem_cons hlt];exact List.mem_cons_self))
   obtain ⟨l',k2,g1,g2,g3,g4,g5,g6⟩ :=ih (i+1) k1 (l.set i x') (by simp;omega) (by simpa using hl) (by omega) (by
    intro x hx
    rw [List.drop_set_of_lt (by omega)] at hx
    exact hs x (by rw [List.drop_eq_getElem_cons hlt];exact List.mem_cons_of_mem _ hx))
   simp only [List.length_set] at g2
   have hx:l'[i]'(by omega)=x':=by
    have h5:(l'.take (i+1))[i]? = ((l.set i x').take (i+1))[i]?:=by rw [g5]
    simp only [List.getElem?_take,show i < i+1 by omega,if_true] at h5
    rw [List.getElem?_eq_getElem (by omega),List.getElem?_eq_getElem (by simpa using hlt)] at h5
    simpa using h5
   refine ⟨l',k2,?_,g2,by omega,by rw [Nat.succ_mul];omega,?_,?_⟩
   ·rw [loopM_eq,h1];exact g1
   ·have h5:(l'.take (i+1)).take i=((l.set i x').take (i+1)).take i:=by rw [g5]
    rw [List.take_take,List.take_take,show min i (i+1)=i by omega] at h5
    rw [h5,List.take_set_of_le (by omega)]
   ·rw [loopM_eq,h4 l' (by omega) (by omega) hx];exact g6
 obtain ⟨l',k',h1,h2,h3,h4,_,h6⟩ :=key l.length 0 k l (by omega) hl hk (by simpa using hs)
 exact ⟨l',k',h1,h2,h3,h4,h6⟩
theorem mark_list0 {Sm:α→Prop} (C:Nat) {b:Int×Int×List α→Option ((Int×Int×List α)⊕(Int×List α))}
  (step:∀ (l:List α) (i k:Nat) (h:i < l.length),l.length≤1048576→k+C≤4611686018427387904→Sm l[i]→∃ x' k' : _,b ((k:Int),(i:Int),l)=some (.inl (((k' : Nat):Int),((i+1:Nat):Int),l.set i x'))∧k≤k'∧k'≤k+C)
  (done:∀ (l:List α) (k:Int),b (k,(l.length:Int),l)=some (.inr (k,l)))
  (l:List α) (k:Nat) (hl:l.length≤1048576) (hk:k+l.length*C≤4611686018427387904) (hs:∀ x ∈ l,Sm x) :
  ∃ (l' : List α) (k' : Nat),loopM b ((k:Int),0,l)=some ((k' : Int),l')∧l'.length=l.length∧k≤k'∧k'≤k+l.length*C:=by
 have key:∀ (d i k:Nat) (l:List α),i+d=l.length→l.length≤1048576→k+d*C≤4611686018427387904→(∀ x ∈ l.drop i,Sm x)→
   ∃ (l' : List α) (k' : Nat),loopM b ((k:Int),(i:Int),l)=some ((k' : Int),l')∧l'.length=l.length∧k≤k'∧k'≤k+d*C:=by
  intro d
  induction d with
  | zero=>
   intro i k l hi hl hk hs
   have:i=l.length:=by omega
   subst this
   exact ⟨l,k,by rw [loopM_eq,done],rfl,by omega,by omega⟩
  | succ d ih=>
   intro i k l hi hl hk hs
   have hlt:i < l.length:=by omega
   rw [Nat.succ_mul] at hk
   obtain ⟨x',k1,h1,h2,h3⟩ :=step l i k hlt hl (by have:0≤d*C:=Nat.zero_le _;omega) (hs _ (by rw [List.drop_eq_getElem_cons hlt];exact List.mem_cons_self))
   obtain ⟨l',k2,g1,g2,g3,g4⟩ :=ih (i+1) k1 (l.set i x') (by simp;omega) (by simpa using hl) (by omega) (by
    intro x hx
    rw [List.drop_set_of_lt (by omega)] at hx
    exact hs x (by rw [List.drop_eq_getElem_cons hlt];exact List.mem_cons_of_mem _ hx))
   simp only [List.length_set] at g2
   exact ⟨l',k2,by rw [loopM_eq,h1];exact g1,g2,by omega,by rw [Nat.succ_mul];omega⟩
 exact key l.length 0 k l (by omega) hl hk (by simpa using hs)
end
end Go.Proofs.V

namespace Go.Proofs.V
open Go
section
variable {α σ τ ε:Type}
theorem all_fold {l:List α} (mk:σ→Nat→τ) {q:α→Bool} {g:σ→α→σ} {I:Nat→σ→Prop} {b:τ→Option (τ⊕ε)} {e0:ε} {e1:σ→ε}
  (step:∀ (i:Nat) (s:σ) (h:i < l.length),I i s→(q l[i]=true→b (mk s i)=some (.inl (mk (g s l[i]) (i+1)))∧I (i+1) (g s l[i]))∧(q l[i]=false→b (mk s i)=some (.inr e0)))
  (done:∀ s,I l.length s→b (mk s l.length)=some (.inr (e1 s))) (s0:σ) (h0:I 0 s0):loopM b (mk s0 0)=some (bif l.all q then e1 (l.foldl g s0) else e0):=by
 have key:∀ (d i:Nat) (s:σ),i+d=l.length→I i s→loopM b (mk s i)=some (bif (l.drop i).all q then e1 ((l.drop i).foldl g s) else e0):=by
  intro d
  induction d with
  | zero=>
   intro i s hi hI
   have:i=l.length:=by omega
   subst this
   rw [loopM_eq,done s hI,List.drop_length]
   rfl
  | succ d ih=>
   intro i s hi hI
   have hlt:i < l.length:=by omega
   obtain ⟨h1,h2⟩ :=step i s hlt hI
   rw [loopM_eq,List.drop_eq_getElem_cons hlt]
   simp only [List.all_cons,List.foldl_cons]
   by_cases hq:q l[i]=true
   ·obtain ⟨h3,h4⟩ :=h1 hq
    rw [h3,hq,Bool.true_and]
    exact ih (i+1) _ (by omega) h4
   ·have hq' : q l[i]=false:=by simpa using hq
    rw [h2 hq',hq']
    rfl
 simpa using key l.length 0 s0 (by omega) h0
theorem all_list {l:List α} {q:α→Bool} {b:Int→Option (Int⊕(Bool⊕Unit))} (hl:l.length≤4611686018427387903)
  (step:∀ (i:Nat) (h:i < l.length),b (i:Int)=if q l[i]=true then some (.inl (((i+1:Nat):Int))) else some (.inr (.inl false))) (done:b (l.length:Int)=some (.inr (.inr ()))) :
  loopM b 0=some (bif l.all q then .inr () else .inl false):=by
 have:=all_fold (l:=l) (σ:=Unit) (fun _ i=>(i:Int)) (q:=q) (g:=fun _ _=>()) (I:=fun _ _=>True) (b:=b) (e0:=.inl false) (e1:=fun _=>.inr ())
  (fun i s h _=>⟨fun hq=>⟨by rw [step i h,if_pos hq],trivial⟩,fun hq=>by rw [step i h,if_neg (by simp [hq])]⟩) (fun _ _=>done) () trivial
 exact this
theorem fold_list {l:List α} (mk:σ→Nat→τ) {g:σ→α→σ} {I:Nat→σ→Prop} {b:τ→Option (τ⊕ε)} {e1:σ→ε}
  (step:∀ (i:Nat) (s:σ) (h:i < l.length),I i s→b (mk s i)=some (.inl (mk (g s l[i]) (i+1)))∧I (i+1) (g s l[i]))
  (done:∀ s,I l.length s→b (mk s l.length)=some (.inr (e1 s))) (s0:σ) (h0:I 0 s0):loopM b (mk s0 0)=some (e1 (l.foldl g s0))∧I l.length (l.foldl g s0):=by
 have key:∀ (d i:Nat) (s:σ),i+d=l.length→I i s→loopM b (mk s i)=some (e1 ((l.drop i).foldl g s))∧I l.length ((l.drop i).foldl g s):=by
  intro d
  induction d with
  | zero=>
   intro i s hi hI
   have:i=l.length:=by omega
   subst this
   rw [loopM_eq,done s hI,List.drop_length]
   exact ⟨rfl,hI⟩
  | succ d ih=>
   intro i s hi hI
   have hlt:i < l.length:=by omega
   obtain ⟨h1,h2⟩ :=step i s hlt hI
   rw [loopM_eq,List.drop_eq_getElem_cons hlt,h1]
   exact ih (i+1) _ (by omega) h2
 simpa using key l.length 0 s0 (by omega) h0
theorem fold_range {n:Nat} (mk:σ→Nat→τ) {g:σ→Nat→σ} {I:Nat→σ→Prop} {b:τ→Option (τ⊕ε)} {e1:σ→ε}
  (step:∀ (i:Nat) (s:σ),i < n→I i s→b (mk s i)=some (.inl (mk (g s i) (i+1)))∧I (i+1) (g s i))
  (done:∀ s,I n s→b (mk s n)=some (.inr (e1 s))) (s0:σ) (h0:I 0 s0):loopM b (mk s0 0)=some (e1 ((List.range n).foldl g s0))∧I n ((List.range n).foldl g s0):=by
 have h:=fold_list (l:=List.range n) mk (g:=g) (I:=I) (b:=b) (e1:=e1) (fun i s h hI=>by simpa using step i s (by simpa using h) hI) (fun s hI=>by simpa using done s (by simpa using hI)) s0 h0
 simpa using h
theorem replicate_filled {z v:Int} (n:Nat) {b:Int×Int×List Int→Option ((Int×Int×List Int)⊕List Int)} (hn:n < 4611686018427387904)
  (step:∀ (i:Nat) (l:List Int),i < n→l.length=n→b ((n:Int),(i:Int),l)=some (.inl ((n:Int),((i+1:Nat):Int),l.set (0+Int.toNat (i:Int)) v)))
  (done:∀ l,b ((n:Int),(n:Int),l)=some (.inr l)):loopM b ((n:Int),0,List.replicate n z)=some (List.replicate n v):=by
 refine loopM_fun (b:=b) (fun i (s:List Int)=>((n:Int),(i:Int),s)) n (fun i=>List.replicate i v++List.replicate (n - i) z) (e:=List.replicate n v) (fun i hi=>?_) ?_ |> fun h=>by simpa using h
 ·rw [step i _ hi (by simp;omega)]
  congr 4
  apply List.ext_getElem?
  intro j
  simp only [Nat.zero_add,Int.toNat_natCast,List.getElem?_set,List.getElem?_append,List.length_append,List.length_replicate,List.getElem?_replicate]
  by_cases hj:i=j
  ·subst hj;simp;omega
  ·rw [if_neg hj]
   by_cases h3:j < i
   ·simp [h3,show j < i+1 by omega]
   ·simp only [h3,show ¬ j < i+1 by omega,if_false]
    by_cases h5:j < n
    ·rw [if_pos (by omega),if_pos (by omega)]
    ·rw [if_neg (by omega),if_neg (by omega)]
 ·rw [done];simp
end
end Go.Proofs.V

set_option maxRecDepth 100000
namespace Go.Proofs.V
open Go
abbrev LI:=List Int
abbrev LB:=List Bool
structure Za where
 from_:Int
 to_:Int
 lines:(List ByteArray)
 deriving DecidableEq,Inhabited
abbrev LZ:=List Za
structure Zb where
 code:LI
 at_:Int
 seed:Int
 deriving DecidableEq,Inhabited
def rZa (x:Za):List T:=[.lit (.int .i64 x.from_),.lit (.int .i64 x.to_),.sl (x.lines.map rS)]
noncomputable section
def m_Sj_10 (p0:Zb) (a:Int):Option (Int×Zb):=
 if (decide ((w64 (p0.at_+1))≤(p0.code.length:Int))) then
  some (a,(Zb.mk p0.code (w64 (p0.at_+1)) (wr .u64 ((wr .u64 ((wr .u64 (p0.seed*6364136223846793005))+(wr .u64 a)))+1442695040888963407))))
 else
  some ((w64 (andI .u64 (shrI .u64 (wr .u64 ((wr .u64 ((wr .u64 (p0.seed*6364136223846793005))+(wr .u64 a)))+1442695040888963407)) 40) 255)),(Zb.mk p0.code (w64 (p0.at_+1)) (wr .u64 ((wr .u64 ((wr .u64 (p0.seed*6364136223846793005))+(wr .u64 a)))+1442695040888963407))))
def m_Sj_0 (p0:Zb):Option (Int×Zb):=
 if (decide (p0.at_ < (p0.code.length:Int))) then
  (rd p0.code p0.at_).bind fun a=>
  m_Sj_10 p0 (w64 a)
 else
  m_Sj_10 p0 0
def m_Sj (p0:Zb):Option (Int×Zb):=m_Sj_0 p0
def m_Sl_24 (p1 a:Int) (b:LI) (c d:Int):Option (Int×Zb):=
 (ck (decide ((p1:Int)≠0))).bind fun _=>
 some ((Int.tmod a p1),(Zb.mk b c d))
def m_Sl_18 (p1 b:Int) (c:LI) (d e:Int):Option (Int×Zb):=
 if (decide (p1 > 50000)) then
  (m_Sj (Zb.mk c d e)).bind fun a=>
  m_Sl_24 p1 (w64 ((w64 (b*256))+a.1)) a.2.code a.2.at_ a.2.seed
 else
  m_Sl_24 p1 b c d e
def m_Sl_0 (p1:Int) (p0:Zb):Option (Int×Zb):=
 if (decide (p1≤1)) then
  some (0,p0)
 else
  (m_Sj p0).bind fun a=>
  if (decide (p1 > 200)) then
   (m_Sj a.2).bind fun b=>
   m_Sl_18 p1 (w64 ((w64 (a.1*256))+b.1)) b.2.code b.2.at_ b.2.seed
  else
   m_Sl_18 p1 a.1 a.2.code a.2.at_ a.2.seed
def m_Sl (p0:Zb) (p1:Int):Option (Int×Zb):=m_Sl_0 p1 p0
def m_Sm_21 (a:LI) (b c:Int) (d:LI):Option (LI×Zb):=
 some (d,(Zb.mk a b c))
def m_Sm_9 (d a:Int) (e:LI) (f g:Int) (c:LI):Option ((Int×Int×LI×Int×Int×LI)⊕((LI×Int×Int×LI))):=
 if (decide (a < d)) then
  (m_Sl (Zb.mk e f g) 95).bind fun b=>
  (rd c a).bind fun _=>
  some (.inl (d,(w64 (a+1)),b.2.code,b.2.at_,b.2.seed,(c.set (0+Int.toNat a) (wr .u8 (w64 (32+b.1))))))
 else
  some (.inr (e,f,g,c))
def lp_Sm_9 (s:Int×Int×LI×Int×Int×LI):Option ((Int×Int×LI×Int×Int×LI)⊕((LI×Int×Int×LI))):=m_Sm_9 s.1 s.2.1 s.2.2.1 s.2.2.2.1 s.2.2.2.2.1 s.2.2.2.2.2
def m_Sm_0 (p1:Int) (p0:Zb):Option (LI×Zb):=
 (ck (decide ((0:Int)≤p1∧p1≤(140737488355328:Int)))).bind fun _=>
 (loopM (lp_Sm_9) (((Int.toNat p1):Int),0,p0.code,p0.at_,p0.seed,(List.replicate (Int.toNat p1) (0:Int)))).bind fun e=>m_Sm_21 e.1 e.2.1 e.2.2.1 e.2.2.2
def m_Sm (p0:Zb) (p1:Int):Option (LI×Zb):=m_Sm_0 p1 p0
def m_Sf_23:Option (Bool):=
 some false
def m_Sf_7 (p0:ByteArray) (a:Int):Option ((Int)⊕((Bool)⊕((Unit)))):=
 if (decide ((w64 (a+2)) < (p0.size:Int))) then
  (ck (decide ((0:Int)≤(w64 (a+3))∧(w64 (a+3))≤(p0.size:Int)))).bind fun _=>
  (ck (decide ((0:Int)≤a∧a≤((Int.toNat (w64 (a+3))):Int)))).bind fun _=>
  if ((p0.extract (Int.toNat a) (Int.toNat (w64 (a+3)))).toList == (ByteArray.mk #[45,45,62]).toList) then
   some (.inr (.inl true))
  else
   some (.inl (w64 (a+1)))
 else
  some (.inr (.inr ()))
def lp_Sf_7 (p0:ByteArray) (s:Int):Option ((Int)⊕((Bool)⊕((Unit)))):=m_Sf_7 p0 s
def m_Sf_0 (p0:ByteArray):Option (Bool):=
 (loopM (lp_Sf_7 p0) 0).bind fun e=>match e with | .inl e=>some e | .inr e=>m_Sf_23
def m_Sf (p0:ByteArray):Option (Bool):=m_Sf_0 p0
def m_Si_44 (p1 e:Int) (a:LZ) (f:Int) (g:LI) (h i b c:Int) (d:(List ByteArray)):Option ((Int×Int×LI×Int×Int×LZ)⊕((LI×Int×Int×LZ))):=
 (ck (decide (a.length+([(Za.mk b c d)]:LZ).length≤3518437208883))).bind fun _=>
 some (.inl (f,(w64 (e+1)),g,h,i,(a++([(Za.mk b c d)]:LZ))))
def m_Si_28 (p1 n:Int) (o:LZ) (d e:Int) (h:LI) (i j f g:Int) (a:(List ByteArray)):Option ((Int×Int×LI×Int×Int×Int×Int×(List ByteArray))⊕((Int×LI×Int×Int×Int×Int×(List ByteArray)))):=
 if (decide (e > 0)) then
  (m_Sl (Zb.mk h i j) 12).bind fun k=>
  (m_Sm k.2 k.1).bind fun b=>
  (bstr b.1).bind fun c=>
  (ck (decide (c.size+(ByteArray.mk #[120]).size≤9223372036854775807))).bind fun _=>
  (ck (decide (a.length+([(c++(ByteArray.mk #[120]))]:List ByteArray).length≤8796093022208))).bind fun _=>
  (rd (a++([(c++(ByteArray.mk #[120]))]:List ByteArray)) (w64 (((a++([(c++(ByteArray.mk #[120]))]:List ByteArray)).length:Int) - 1))).bind fun l=>
  (m_Sf l).bind fun m=>
  if m then
   some (.inl (d,(w64 (e - 1)),b.2.code,b.2.at_,b.2.seed,f,g,((a++([(c++(ByteArray.mk #[120]))]:List ByteArray)).set (0+Int.toNat (w64 (((a++([(c++(ByteArray.mk #[120]))]:List ByteArray)).length:Int) - 1))) (ByteArray.mk #[121]))))
  else
   some (.inl (d,(w64 (e - 1)),b.2.code,b.2.at_,b.2.seed,f,g,(a++([(c++(ByteArray.mk #[120]))]:List ByteArray))))
 else
  some (.inr (d,h,i,j,f,g,a))
def lp_Si_28 (p1 a:Int) (b:LZ) (s:Int×Int×LI×Int×Int×Int×Int×(List ByteArray)):Option ((Int×Int×LI×Int×Int×Int×Int×(List ByteArray))⊕((Int×LI×Int×Int×Int×Int×(List ByteArray)))):=m_Si_28 p1 a b s.1 s.2.1 s.2.2.1 s.2.2.2.1 s.2.2.2.2.1 s.2.2.2.2.2.1 s.2.2.2.2.2.2.1 s.2.2.2.2.2.2.2
def m_Si_46 (a:LI) (b c:Int) (d:LZ):Option (LZ×Zb):=
 some (d,(Zb.mk a b c))
def m_Si_11 (p1 d f:Int) (h:LI) (i j:Int) (g:LZ):Option ((Int×Int×LI×Int×Int×LZ)⊕((LI×Int×Int×LZ))):=
 if (decide (f < p1)) then
  (m_Sl (Zb.mk h i j) 3000).bind fun a=>
  (m_Sl a.2 2).bind fun b=>
  (m_Sl b.2 9000).bind fun k=>
  (m_Sl k.2 4).bind fun c=>
  (loopM (lp_Si_28 p1 f g) ((w64 (d+(w64 (a.1*b.1)))),(w64 (1+c.1)),c.2.code,c.2.at_,c.2.seed,(w64 (d+(w64 (a.1*b.1)))),(w64 ((w64 ((w64 (d+(w64 (a.1*b.1))))+1))+k.1)),([]:List ByteArray))).bind fun e=>m_Si_44 p1 f g e.1 e.2.1 e.2.2.1 e.2.2.2.1 e.2.2.2.2.1 e.2.2.2.2.2.1 e.2.2.2.2.2.2
 else
  some (.inr (h,i,j,g))
def lp_Si_11 (p1:Int) (s:Int×Int×LI×Int×Int×LZ):Option ((Int×Int×LI×Int×Int×LZ)⊕((LI×Int×Int×LZ))):=m_Si_11 p1 s.1 s.2.1 s.2.2.1 s.2.2.2.1 s.2.2.2.2.1 s.2.2.2.2.2
def m_Si_0 (p1:Int) (p0:Zb):Option (LZ×Zb):=
 (m_Sl p0 5000).bind fun a=>
 (loopM (lp_Si_11 p1) (a.1,0,a.2.code,a.2.at_,a.2.seed,([]:LZ))).bind fun e=>m_Si_46 e.1 e.2.1 e.2.2.1 e.2.2.2
def m_Si (p0:Zb) (p1:Int):Option (LZ×Zb):=m_Si_0 p1 p0
def m_Sk_0 (p1:Int) (p0:Zb):Option (Bool×Zb):=
 (m_Sl p0 p1).bind fun a=>
 some ((a.1 == 0),a.2)
def m_Sk (p0:Zb) (p1:Int):Option (Bool×Zb):=m_Sk_0 p1 p0
def m_Se_43 (c:LI) (d e f g:Int) (h:(List ByteArray)) (a:LZ):Option (LZ×Zb):=
 (m_Sl (Zb.mk c d e) (a.length:Int)).bind fun b=>
 (rd a b.1).bind fun _=>
 some ((a.set (0+Int.toNat b.1) (Za.mk f g h)),b.2)
def m_Se_15 (g:Bool×Zb) (c:LZ) (i:Bool):Option (LZ×Zb):=
 if i then
  (m_Sl g.2 (c.length:Int)).bind fun f=>
  (rd c f.1).bind fun a=>
  (m_Sl f.2 6).bind fun b=>
  if (b.1 == 0) then
   m_Se_43 b.2.code b.2.at_ b.2.seed a.from_ a.from_ a.lines c
  else
   if (b.1 == 1) then
    (ck (decide (a.lines.length+([(ByteArray.mk #[97,32,45,45,62,32,98])]:List ByteArray).length≤8796093022208))).bind fun _=>
    m_Se_43 b.2.code b.2.at_ b.2.seed a.from_ a.to_ (a.lines++([(ByteArray.mk #[97,32,45,45,62,32,98])]:List ByteArray)) c
   else
    if (b.1 == 2) then
     (m_Sl b.2 6).bind fun d=>
     (rd ([(ByteArray.mk #[]),(ByteArray.mk #[101,110,100,32]),(ByteArray.mk #[97,9,98]),(ByteArray.mk #[32,32,108,101,100]),(ByteArray.mk #[45,45]),(ByteArray.mk #[45,62])]:List ByteArray) d.1).bind fun h=>
     (rd a.lines 0).bind fun _=>
     m_Se_43 d.2.code d.2.at_ d.2.seed a.from_ a.to_ (a.lines.set (0+Int.toNat 0) h) (c.set (0+Int.toNat f.1) (Za.mk a.from_ a.to_ (a.lines.set (0+Int.toNat 0) h)))
    else
     if (b.1 == 3) then
      m_Se_43 b.2.code b.2.at_ b.2.seed a.from_ a.to_ ([]:List ByteArray) c
     else
      if (b.1 == 4) then
       m_Se_43 b.2.code b.2.at_ b.2.seed (-1) a.to_ a.lines c
      else
       (m_Sl b.2 2).bind fun e=>
       m_Se_43 e.2.code e.2.at_ e.2.seed a.from_ (w64 (359999999+e.1)) a.lines c
 else
  some (c,g.2)
def m_Se_12 (c:LI) (d e:Int) (a:LZ):Option (LZ×Zb):=
 (m_Sk (Zb.mk c d e) 4).bind fun b=>
 if b.1 then
  m_Se_15 b a (decide ((a.length:Int) > 0))
 else
  m_Se_15 b a false
def m_Se_0 (p0:LI):Option (LZ×Zb):=
 (m_Sl (Zb.mk p0 0 0) 8).bind fun c=>
 (m_Si c.2 c.1).bind fun d=>
 (m_Sk d.2 40).bind fun a=>
 if a.1 then
  (m_Sl a.2 2).bind fun e=>
  (m_Si e.2 (w64 (200+e.1))).bind fun b=>
  m_Se_12 b.2.code b.2.at_ b.2.seed b.1
 else
  m_Se_12 a.2.code a.2.at_ a.2.seed d.1
def m_Se (p0:LI):Option (LZ×Zb):=m_Se_0 p0
def m_Sa_12 (a:LZ×Zb) (b:Int):Option (LZ×Int):=
 some (a.1,b)
def m_Sa_0 (p0:LI):Option (LZ×Int):=
 (m_Se p0).bind fun a=>
 (m_Sl a.2 12).bind fun b=>
 (m_Sk b.2 12).bind fun c=>
 if c.1 then
  (m_Sl c.2 3).bind fun d=>
  (rd ([0,100,101]:LI) d.1).bind fun e=>
  m_Sa_12 a e
 else
  m_Sa_12 a (w64 (1+b.1))
def m_Sa (p0:LI):Option (LZ×Int):=m_Sa_0 p0
def m_Ie_0 (p0:Int):Option (Bool):=
 if (decide (p0≥0)) then
  some (decide (p0≤359999999))
 else
  some false
def m_Ie (p0:Int):Option (Bool):=m_Ie_0 p0
def m_strings_Contains (p0 p1:ByteArray):Option (Bool):=gContains p0 p1
def m_Id_25 (p0:ByteArray):Option (Int):=
 (m_strings_Contains p0 (ByteArray.mk #[45,45,62])).bind fun a=>
 if a then
  some 4
 else
  if (decide ((p0.size:Int) > 80)) then
   some 7
  else
   some 0
def m_Id_7 (p0:ByteArray) (a:Int):Option ((Int)⊕((Int)⊕((Unit)))):=
 if (decide (a < (p0.size:Int))) then
  (sat p0 a).bind fun b=>
  if (decide (b < 32)) then
   some (.inr (.inl 4))
  else
   if (decide (b > 126)) then
    some (.inr (.inl 4))
   else
    some (.inl (w64 (a+1)))
 else
  some (.inr (.inr ()))
def lp_Id_7 (p0:ByteArray) (s:Int):Option ((Int)⊕((Int)⊕((Unit)))):=m_Id_7 p0 s
def m_Id_0 (p0:ByteArray):Option (Int):=
 (loopM (lp_Id_7 p0) 0).bind fun e=>match e with | .inl e=>some e | .inr e=>m_Id_25 p0
def m_Id (p0:ByteArray):Option (Int):=m_Id_0 p0
def m_Ic_33:Option (Bool):=
 some true
def m_Ic_15 (p0:Za) (b:Int):Option ((Int)⊕((Bool)⊕((Unit)))):=
 if (decide (b < (p0.lines.length:Int))) then
  (rd p0.lines b).bind fun a=>
  if (a.toList == (ByteArray.mk #[]).toList) then
   some (.inr (.inl false))
  else
   (sat a (w64 ((a.size:Int) - 1))).bind fun c=>
   if (c == 32) then
    some (.inr (.inl false))
   else
    (m_Id a).bind fun d=>
    if (d != 0) then
     some (.inr (.inl false))
    else
     some (.inl (w64 (b+1)))
 else
  some (.inr (.inr ()))
def lp_Ic_15 (p0:Za) (s:Int):Option ((Int)⊕((Bool)⊕((Unit)))):=m_Ic_15 p0 s
def m_Ic_0 (p0:Za):Option (Bool):=
 if (decide ((p0.lines.length:Int) < 1)) then
  some false
 else
  if (decide ((p0.lines.length:Int) > 4)) then
   some false
  else
   (loopM (lp_Ic_15 p0) 0).bind fun e=>match e with | .inl e=>some e | .inr e=>m_Ic_33
def m_Ic (p0:Za):Option (Bool):=m_Ic_0 p0
def m_Ia_33:Option (Bool):=
 some true
def m_Ia_15 (p0:LZ) (a:Int):Option ((Int)⊕((Bool)⊕((Unit)))):=
 if (decide (a < (p0.length:Int))) then
  (rd p0 a).bind fun b=>
  (m_Ie b.from_).bind fun c=>
  if c then
   (m_Ie b.to_).bind fun d=>
   if d then
    if (decide (b.from_≥b.to_)) then
     some (.inr (.inl false))
    else
     (m_Ic b).bind fun e=>
     if e then
      if (decide (a > 0)) then
       (rd p0 (w64 (a - 1))).bind fun f=>
       if (decide (b.from_ < f.from_)) then
        some (.inr (.inl false))
       else
        some (.inl (w64 (a+1)))
      else
       some (.inl (w64 (a+1)))
     else
      some (.inr (.inl false))
   else
    some (.inr (.inl false))
  else
   some (.inr (.inl false))
 else
  some (.inr (.inr ()))
def lp_Ia_15 (p0:LZ) (s:Int):Option ((Int)⊕((Bool)⊕((Unit)))):=m_Ia_15 p0 s
def m_Ia_0 (p0:LZ):Option (Bool):=
 if (decide ((p0.length:Int) > 200)) then
  some false
 else
  (loopM (lp_Ia_15 p0) 0).bind fun e=>match e with | .inl e=>some e | .inr e=>m_Ia_33
def m_Ia (p0:LZ):Option (Bool):=m_Ia_0 p0
def m_Ib_64 (p0:LZ) (p1 c a:Int) (d:Za) (e:LI) (b:LB):Option ((Int×LB)⊕((LB))):=
 some (.inl ((w64 (a+1)),b))
def m_Ib_51 (p0:LZ) (p1 d g:Int) (e h:Za) (f:LI) (a:Int) (b:LB):Option ((Int×LB)⊕((LB))):=
 if (decide (a < (e.lines.length:Int))) then
  (rd f d).bind fun c=>
  (rd b (w64 (c+a))).bind fun _=>
  some (.inl ((w64 (a+1)),(b.set (0+Int.toNat (w64 (c+a))) true)))
 else
  some (.inr b)
def lp_Ib_51 (p0:LZ) (p1 a b:Int) (c d:Za) (e:LI) (s:Int×LB):Option ((Int×LB)⊕((LB))):=m_Ib_51 p0 p1 a b c d e s.1 s.2
def m_Ib_46 (p0:LZ) (p1 a b:Int) (c:Za) (d:LI) (f:LB) (g:Bool):Option ((Int×LB)⊕((LB))):=
 if g then
  (rd p0 a).bind fun h=>
  (loopM (lp_Ib_51 p0 p1 a b h c d) (0,f)).bind fun e=>m_Ib_64 p0 p1 b a c d e
 else
  m_Ib_64 p0 p1 b a c d f
def m_Ib_99 (p0:LZ) (p1 b a d:Int) (e:Za) (f:LI) (g:LB) (c:Bool):Option ((Int×Int)⊕((Int))):=
 if c then
  some (.inl (a,(w64 (a+1))))
 else
  some (.inl (b,(w64 (a+1))))
def m_Ib_87 (p0:LZ) (p1 g c h:Int) (d:Za) (i:LI) (e:LB) (b:Bool) (a:Int):Option ((Bool×Int)⊕((Bool))):=
 if (decide (a < (d.lines.length:Int))) then
  if b then
   (rd e (w64 (c+a))).bind fun f=>
   some (.inl ((!f),(w64 (a+1))))
  else
   some (.inl (false,(w64 (a+1))))
 else
  some (.inr b)
def lp_Ib_87 (p0:LZ) (p1 a b c:Int) (d:Za) (e:LI) (f:LB) (s:Bool×Int):Option ((Bool×Int)⊕((Bool))):=m_Ib_87 p0 p1 a b c d e f s.1 s.2
def m_Ib_105 (p0:LZ) (p1 c:Int) (a:LI) (b:Int):Option ((Int×LI)⊕((LI))):=
 (ck (decide (a.length+([b]:LI).length≤17592186044416))).bind fun _=>
 some (.inl ((w64 (c+1)),(a++([b]:LI))))
def m_Ib_72 (p0:LZ) (p1 d:Int) (b:Za) (f:LI) (g:LB) (a c:Int):Option ((Int×Int)⊕((Int))):=
 if (decide ((w64 (c+(b.lines.length:Int)))≤p1)) then
  if (decide (a < 0)) then
   (loopM (lp_Ib_87 p0 p1 a c d b f g) (true,0)).bind fun e=>m_Ib_99 p0 p1 a c d b f g e
  else
   some (.inr a)
 else
  some (.inr a)
def lp_Ib_72 (p0:LZ) (p1 a:Int) (b:Za) (c:LI) (d:LB) (s:Int×Int):Option ((Int×Int)⊕((Int))):=m_Ib_72 p0 p1 a b c d s.1 s.2
def m_Ib_65 (p0:LZ) (p1 a:Int) (c:Za) (b:LI) (d:LB):Option ((Int×LI)⊕((LI))):=
 (loopM (lp_Ib_72 p0 p1 a c b d) ((-1),0)).bind fun e=>m_Ib_105 p0 p1 a b e
def m_Ib_34 (p0:LZ) (p1 c:Int) (b:Za) (d:LI) (a:Int) (e:LB):Option ((Int×LB)⊕((LB))):=
 if (decide (a < c)) then
  (rd d a).bind fun g=>
  if (decide (g≥0)) then
   (rd p0 a).bind fun f=>
   if (decide (f.from_≤b.from_)) then
    m_Ib_46 p0 p1 a c b d e (decide (b.from_ < f.to_))
   else
    m_Ib_46 p0 p1 a c b d e false
  else
   m_Ib_46 p0 p1 a c b d e false
 else
  some (.inr e)
def lp_Ib_34 (p0:LZ) (p1 a:Int) (b:Za) (c:LI) (s:Int×LB):Option ((Int×LB)⊕((LB))):=m_Ib_34 p0 p1 a b c s.1 s.2
def m_Ib_107 (a:LI):Option (LI):=
 some a
def m_Ib_17 (p0:LZ) (p1 a:Int) (b:LI):Option ((Int×LI)⊕((LI))):=
 if (decide (a < (p0.length:Int))) then
  (rd p0 a).bind fun c=>
  (ck (decide ((0:Int)≤p1∧p1≤(140737488355328:Int)))).bind fun _=>
  (loopM (lp_Ib_34 p0 p1 a c b) (0,(List.replicate (Int.toNat p1) (false:Bool)))).bind fun e=>m_Ib_65 p0 p1 a c b e
 else
  some (.inr b)
def lp_Ib_17 (p0:LZ) (p1:Int) (s:Int×LI):Option ((Int×LI)⊕((LI))):=m_Ib_17 p0 p1 s.1 s.2
def m_Ib_0 (p0:LZ) (p1:Int):Option (LI):=
 (m_Ia p0).bind fun a=>
 if a then
  if (decide (p1 < 1)) then
   some ([]:LI)
  else
   if (decide (p1 > 100)) then
    some ([]:LI)
   else
    (loopM (lp_Ib_17 p0 p1) (0,([]:LI))).bind fun e=>m_Ib_107 e
 else
  some ([]:LI)
def m_Ib (p0:LZ) (p1:Int):Option (LI):=m_Ib_0 p0 p1
def m_Sh_0 (p0:Int):Option (Bool):=
 if (decide (p0≥0)) then
  some (decide (p0≤359999999))
 else
  some false
def m_Sh (p0:Int):Option (Bool):=m_Sh_0 p0
def m_Sd_23:Option (Bool):=
 some true
def m_Sd_7 (p0:ByteArray) (a:Int):Option ((Int)⊕((Bool)⊕((Unit)))):=
 if (decide (a < (p0.size:Int))) then
  (sat p0 a).bind fun b=>
  if (decide (b < 32)) then
   some (.inr (.inl false))
  else
   if (decide (b > 126)) then
    some (.inr (.inl false))
   else
    some (.inl (w64 (a+1)))
 else
  some (.inr (.inr ()))
def lp_Sd_7 (p0:ByteArray) (s:Int):Option ((Int)⊕((Bool)⊕((Unit)))):=m_Sd_7 p0 s
def m_Sd_0 (p0:ByteArray):Option (Bool):=
 (loopM (lp_Sd_7 p0) 0).bind fun e=>match e with | .inl e=>some e | .inr e=>m_Sd_23
def m_Sd (p0:ByteArray):Option (Bool):=m_Sd_0 p0
def m_Sg_25 (p0:(List ByteArray)):Option (Bool):=
 if (decide ((p0.length:Int)≥1)) then
  some (decide ((p0.length:Int)≤4))
 else
  some false
def m_Sg_7 (p0:(List ByteArray)) (b:Int):Option ((Int)⊕((Bool)⊕((Unit)))):=
 if (decide (b < (p0.length:Int))) then
  (rd p0 b).bind fun a=>
  if (decide ((a.size:Int) < 1)) then
   some (.inr (.inl false))
  else
   if (decide ((a.size:Int) > 80)) then
    some (.inr (.inl false))
   else
    (m_Sd a).bind fun c=>
    if c then
     (sat a (w64 ((a.size:Int) - 1))).bind fun d=>
     if (d == 32) then
      some (.inr (.inl false))
     else
      (m_Sf a).bind fun e=>
      if e then
       some (.inr (.inl false))
      else
       some (.inl (w64 (b+1)))
    else
     some (.inr (.inl false))
 else
  some (.inr (.inr ()))
def lp_Sg_7 (p0:(List ByteArray)) (s:Int):Option ((Int)⊕((Bool)⊕((Unit)))):=m_Sg_7 p0 s
def m_Sg_0 (p0:(List ByteArray)):Option (Bool):=
 (loopM (lp_Sg_7 p0) 0).bind fun e=>match e with | .inl e=>some e | .inr e=>m_Sg_25 p0
def m_Sg (p0:(List ByteArray)):Option (Bool):=m_Sg_0 p0
def m_Sb_33:Option (Bool):=
 some true
def m_Sb_15 (p0:LZ) (a:Int):Option ((Int)⊕((Bool)⊕((Unit)))):=
 if (decide (a < (p0.length:Int))) then
  (rd p0 a).bind fun b=>
  (m_Sh b.from_).bind fun c=>
  if c then
   (m_Sh b.to_).bind fun d=>
   if d then
    if (decide (b.from_≥b.to_)) then
     some (.inr (.inl false))
    else
     (m_Sg b.lines).bind fun e=>
     if e then
      if (decide (a > 0)) then
       (rd p0 (w64 (a - 1))).bind fun f=>
       if (decide (b.from_ < f.from_)) then
        some (.inr (.inl false))
       else
        some (.inl (w64 (a+1)))
      else
       some (.inl (w64 (a+1)))
     else
      some (.inr (.inl false))
   else
    some (.inr (.inl false))
  else
   some (.inr (.inl false))
 else
  some (.inr (.inr ()))
def lp_Sb_15 (p0:LZ) (s:Int):Option ((Int)⊕((Bool)⊕((Unit)))):=m_Sb_15 p0 s
def m_Sb_0 (p0:LZ):Option (Bool):=
 if (decide ((p0.length:Int) > 200)) then
  some false
 else
  (loopM (lp_Sb_15 p0) 0).bind fun e=>match e with | .inl e=>some e | .inr e=>m_Sb_33
def m_Sb (p0:LZ):Option (Bool):=m_Sb_0 p0
def m_Sc_62 (p0:LZ) (p1 c a:Int) (d:Za) (e:LI) (b:LB):Option ((Int×LB)⊕((LB))):=
 some (.inl ((w64 (a+1)),b))
def m_Sc_49 (p0:LZ) (p1 g d:Int) (e h:Za) (f:LI) (a:Int) (b:LB):Option ((Int×LB)⊕((LB))):=
 if (decide (a < (e.lines.length:Int))) then
  (rd f d).bind fun c=>
  (rd b (w64 (c+a))).bind fun _=>
  some (.inl ((w64 (a+1)),(b.set (0+Int.toNat (w64 (c+a))) true)))
 else
  some (.inr b)
def lp_Sc_49 (p0:LZ) (p1 a b:Int) (c d:Za) (e:LI) (s:Int×LB):Option ((Int×LB)⊕((LB))):=m_Sc_49 p0 p1 a b c d e s.1 s.2
def m_Sc_44 (p0:LZ) (p1 b a:Int) (c:Za) (d:LI) (f:LB) (g:Bool):Option ((Int×LB)⊕((LB))):=
 if g then
  (rd p0 a).bind fun h=>
  (loopM (lp_Sc_49 p0 p1 b a h c d) (0,f)).bind fun e=>m_Sc_62 p0 p1 b a c d e
 else
  m_Sc_62 p0 p1 b a c d f
def m_Sc_97 (p0:LZ) (p1 b a d:Int) (e:Za) (f:LI) (g:LB) (c:Bool):Option ((Int×Int)⊕((Int))):=
 if c then
  some (.inl (a,(w64 (a - 1))))
 else
  some (.inl (b,(w64 (a - 1))))
def m_Sc_85 (p0:LZ) (p1 g c h:Int) (d:Za) (i:LI) (e:LB) (b:Bool) (a:Int):Option ((Bool×Int)⊕((Bool))):=
 if (decide (a < (d.lines.length:Int))) then
  if b then
   (rd e (w64 (c+a))).bind fun f=>
   some (.inl ((!f),(w64 (a+1))))
  else
   some (.inl (false,(w64 (a+1))))
 else
  some (.inr b)
def lp_Sc_85 (p0:LZ) (p1 a b c:Int) (d:Za) (e:LI) (f:LB) (s:Bool×Int):Option ((Bool×Int)⊕((Bool))):=m_Sc_85 p0 p1 a b c d e f s.1 s.2
def m_Sc_103 (p0:LZ) (p1 c:Int) (a:LI) (b:Int):Option ((Int×LI)⊕((LI))):=
 (ck (decide (a.length+([b]:LI).length≤17592186044416))).bind fun _=>
 some (.inl ((w64 (c+1)),(a++([b]:LI))))
def m_Sc_70 (p0:LZ) (p1 c:Int) (d:Za) (f:LI) (g:LB) (a b:Int):Option ((Int×Int)⊕((Int))):=
 if (decide (b≥0)) then
  (loopM (lp_Sc_85 p0 p1 a b c d f g) (true,0)).bind fun e=>m_Sc_97 p0 p1 a b c d f g e
 else
  some (.inr a)
def lp_Sc_70 (p0:LZ) (p1 a:Int) (b:Za) (c:LI) (d:LB) (s:Int×Int):Option ((Int×Int)⊕((Int))):=m_Sc_70 p0 p1 a b c d s.1 s.2
def m_Sc_63 (p0:LZ) (p1 a:Int) (b:Za) (c:LI) (d:LB):Option ((Int×LI)⊕((LI))):=
 (loopM (lp_Sc_70 p0 p1 a b c d) ((-1),(w64 (p1 - (b.lines.length:Int))))).bind fun e=>m_Sc_103 p0 p1 a c e
def m_Sc_34 (p0:LZ) (p1 c:Int) (b:Za) (d:LI) (a:Int) (e:LB):Option ((Int×LB)⊕((LB))):=
 if (decide (a < c)) then
  (rd d a).bind fun g=>
  if (decide (g≥0)) then
   (rd p0 a).bind fun f=>
   if (decide (f.from_≤b.from_)) then
    m_Sc_44 p0 p1 c a b d e (decide (b.from_ < f.to_))
   else
    m_Sc_44 p0 p1 c a b d e false
  else
   m_Sc_44 p0 p1 c a b d e false
 else
  some (.inr e)
def lp_Sc_34 (p0:LZ) (p1 a:Int) (b:Za) (c:LI) (s:Int×LB):Option ((Int×LB)⊕((LB))):=m_Sc_34 p0 p1 a b c s.1 s.2
def m_Sc_105 (a:LI):Option (LI):=
 some a
def m_Sc_17 (p0:LZ) (p1 a:Int) (b:LI):Option ((Int×LI)⊕((LI))):=
 if (decide (a < (p0.length:Int))) then
  (rd p0 a).bind fun c=>
  (ck (decide ((0:Int)≤p1∧p1≤(140737488355328:Int)))).bind fun _=>
  (loopM (lp_Sc_34 p0 p1 a c b) (0,(List.replicate (Int.toNat p1) (false:Bool)))).bind fun e=>m_Sc_63 p0 p1 a c b e
 else
  some (.inr b)
def lp_Sc_17 (p0:LZ) (p1:Int) (s:Int×LI):Option ((Int×LI)⊕((LI))):=m_Sc_17 p0 p1 s.1 s.2
def m_Sc_0 (p0:LZ) (p1:Int):Option (LI):=
 (m_Sb p0).bind fun a=>
 if a then
  if (decide (p1 < 1)) then
   some ([]:LI)
  else
   if (decide (p1 > 100)) then
    some ([]:LI)
   else
    (loopM (lp_Sc_17 p0 p1) (0,([]:LI))).bind fun e=>m_Sc_105 e
 else
  some ([]:LI)
def m_Sc (p0:LZ) (p1:Int):Option (LI):=m_Sc_0 p0 p1
def m_La_33:Option (Bool):=
 some true
def m_La_15 (p0 p1:LI) (a:Int):Option ((Int)⊕((Bool)⊕((Unit)))):=
 if (decide (a < (p0.length:Int))) then
  (rd p0 a).bind fun b=>
  (rd p1 a).bind fun c=>
  if (b != c) then
   some (.inr (.inl false))
  else
   some (.inl (w64 (a+1)))
 else
  some (.inr (.inr ()))
def lp_La_15 (p0 p1:LI) (s:Int):Option ((Int)⊕((Bool)⊕((Unit)))):=m_La_15 p0 p1 s
def m_La_0 (p0 p1:LI):Option (Bool):=
 if ((p0.length:Int) != (p1.length:Int)) then
  some false
 else
  (loopM (lp_La_15 p0 p1) 0).bind fun e=>match e with | .inl e=>some e | .inr e=>m_La_33
def m_La (p0 p1:LI):Option (Bool):=m_La_0 p0 p1
def m_laws_FnRoomy_81 (b:LZ×Int) (a:Int) (c:LI):Option ((Int)⊕((Bool)⊕((Unit)))):=
 some (.inl (w64 (a+1)))
def m_laws_FnRoomy_73 (b:LZ×Int) (c a:Int) (d:LI) (e:Bool):Option ((Int)⊕(((Unit))⊕(Bool))):=
 (rd d a).bind fun f=>
 if (decide (f≥0)) then
  (rd b.1 a).bind fun g=>
  (rd b.1 c).bind fun h=>
  if (decide (g.to_ > h.from_)) then
   if e then
    some (.inl (w64 (a+1)))
   else
    some (.inr (.inr false))
  else
   some (.inl (w64 (a+1)))
 else
  some (.inl (w64 (a+1)))
def m_laws_FnRoomy_63 (c:LZ×Int) (a:Int) (d:LI) (b:Int):Option ((Int)⊕(((Unit))⊕(Bool))):=
 if (decide (b < a)) then
  (rd d b).bind fun e=>
  (rd c.1 b).bind fun g=>
  (rd d a).bind fun f=>
  if (decide ((w64 (e+(g.lines.length:Int)))≤f)) then
   m_laws_FnRoomy_73 c a b d true
  else
   (rd c.1 a).bind fun h=>
   m_laws_FnRoomy_73 c a b d (decide ((w64 (f+(h.lines.length:Int)))≤e))
 else
  some (.inr (.inl ()))
def lp_laws_FnRoomy_63 (a:LZ×Int) (b:Int) (c:LI) (s:Int):Option ((Int)⊕(((Unit))⊕(Bool))):=m_laws_FnRoomy_63 a b c s
def m_laws_FnRoomy_132:Option (Bool):=
 some true
def m_laws_FnRoomy_114 (b:LI) (a:Int):Option ((Int)⊕((Bool)⊕((Unit)))):=
 if (decide (a < (b.length:Int))) then
  (rd b a).bind fun c=>
  if (decide (c < 0)) then
   some (.inr (.inl false))
  else
   some (.inl (w64 (a+1)))
 else
  some (.inr (.inr ()))
def lp_laws_FnRoomy_114 (a:LI) (s:Int):Option ((Int)⊕((Bool)⊕((Unit)))):=m_laws_FnRoomy_114 a s
def m_laws_FnRoomy_101 (b:LZ×Int) (a:Int):Option (Bool):=
 if (decide (a > 100)) then
  some true
 else
  (m_Ib b.1 a).bind fun c=>
  (loopM (lp_laws_FnRoomy_114 c) 0).bind fun e=>match e with | .inl e=>some e | .inr e=>m_laws_FnRoomy_132
def m_laws_FnRoomy_89 (b:LZ×Int) (c a:Int):Option ((Int×Int)⊕((Int))):=
 if (decide (a < (b.1.length:Int))) then
  (rd b.1 a).bind fun d=>
  some (.inl ((w64 (c+(d.lines.length:Int))),(w64 (a+1))))
 else
  some (.inr c)
def lp_laws_FnRoomy_89 (a:LZ×Int) (s:Int×Int):Option ((Int×Int)⊕((Int))):=m_laws_FnRoomy_89 a s.1 s.2
def m_laws_FnRoomy_82 (a:LZ×Int):Option (Bool):=
 (loopM (lp_laws_FnRoomy_89 a) (0,0)).bind fun e=>m_laws_FnRoomy_101 a e
def m_laws_FnRoomy_35 (a:LZ×Int) (c:LI) (b:Int):Option ((Int)⊕((Bool)⊕((Unit)))):=
 if (decide (b < (a.1.length:Int))) then
  (rd c b).bind fun d=>
  if (decide (d < 0)) then
   m_laws_FnRoomy_81 a b c
  else
   (rd a.1 b).bind fun f=>
   if (decide ((w64 (d+(f.lines.length:Int))) > a.2)) then
    some (.inr (.inl false))
   else
    (loopM (lp_laws_FnRoomy_63 a b c) 0).bind fun e=>match e with | .inl e=>m_laws_FnRoomy_81 a b c | .inr e=>some (.inr (.inl e))
 else
  some (.inr (.inr ()))
def lp_laws_FnRoomy_35 (a:LZ×Int) (b:LI) (s:Int):Option ((Int)⊕((Bool)⊕((Unit)))):=m_laws_FnRoomy_35 a b s
def m_laws_FnRoomy_0 (p0:LI):Option (Bool):=
 if (decide ((p0.length:Int) > 1048576)) then
  some true
 else
  (m_Sa p0).bind fun a=>
  (m_Ib a.1 a.2).bind fun b=>
  (m_Sc a.1 a.2).bind fun c=>
  (m_La b c).bind fun d=>
  if d then
   if ((b.length:Int) == 0) then
    some true
   else
    (loopM (lp_laws_FnRoomy_35 a b) 0).bind fun e=>match e with | .inl e=>some e | .inr e=>m_laws_FnRoomy_82 a
  else
   some false
def m_laws_FnRoomy (p0:LI):Option (Bool):=m_laws_FnRoomy_0 p0
end
end Go.Proofs.V

set_option linter.unusedSectionVars false
namespace Go.Proofs.V
open Go
theorem u64_255 {x:Int} (h0:0≤x) (h1:x < 18446744073709551616):0≤andI .u64 x 255∧andI .u64 x 255≤255:=by
 unfold andI
 rw [show IntKind.wrap .u64 ((BitVec.ofInt IntKind.u64.bits x &&& BitVec.ofInt IntKind.u64.bits 255).toNat:Int)=wr .u64 ((BitVec.ofInt IntKind.u64.bits x &&& BitVec.ofInt IntKind.u64.bits 255).toNat:Int) from rfl,wu64_eq]
 have h2:(BitVec.ofInt IntKind.u64.bits x &&& BitVec.ofInt IntKind.u64.bits 255).toNat≤255:=by
  rw [BitVec.toNat_and]
  have:(BitVec.ofInt IntKind.u64.bits 255).toNat=255:=by decide
  rw [this]
  exact Nat.and_le_right
 omega
def CurAt (k:Nat) (c:List Int) (a:Int):Prop:=(∀ x ∈ c,0≤x∧x≤255)∧0≤a∧a≤k
theorem CurAt.le {k n:Nat} {c:List Int} {a:Int} (h:CurAt k c a) (hn:k≤n):CurAt n c a:=⟨h.1,h.2.1,by have:=h.2.2;omega⟩
def Drawn {α:Type} (o:Option (α×Zb)) (k:Nat) (P:α→Prop):Prop:=∃ v co a s,o=some (v,⟨co,a,s⟩)∧P v∧CurAt k co a
theorem wu64_lt (x:Int):0≤wr .u64 x∧wr .u64 x < 18446744073709551616:=by rw [wu64_eq];omega
theorem shr_lt {x:Int} (h:0≤x∧x < 18446744073709551616):0≤shrI .u64 x 40∧shrI .u64 x 40 < 18446744073709551616:=by
 unfold shrI
 have:(2:Int) ^ min (Int.toNat 40) IntKind.u64.bits=1099511627776:=by decide
 rw [this,Int.fdiv_eq_ediv_of_nonneg _ (by omega)]
 omega
theorem next_ok {k:Nat} {co:List Int} {a s:Int} (h:CurAt k co a) (hk:k < 1000000000000):Drawn (m_Sj ⟨co,a,s⟩) (k+1) fun v=>0≤v∧v≤255:=by
 have h1:=h.2.1
 have h2:=h.2.2
 have hw:w64 (a+1)=a+1:=w64_id (by omega) (by omega)
 have go:∀ x:Int,0≤x→x≤255→Drawn (m_Sj_10 ⟨co,a,s⟩ x) (k+1) fun v=>0≤v∧v≤255:=by
  intro x h0 h255
  dsimp only [m_Sj_10]
  rw [hw]
  split
  ·exact ⟨_,_,_,_,rfl,⟨h0,h255⟩,h.1,by omega,by omega⟩
  ·refine ⟨_,_,_,_,rfl,?_,h.1,by omega,by omega⟩
   have h3:=u64_255 (shr_lt (wu64_lt (wr .u64 (wr .u64 (s*6364136223846793005)+wr .u64 x)+1442695040888963407))).1 (shr_lt (wu64_lt _)).2
   dsimp only
   rw [w64_id (by omega) (by omega)]
   exact h3
 dsimp only [m_Sj,m_Sj_0]
 by_cases hq:a < (co.length:Int)
 ·rw [if_pos (by simpa using hq),rd_eq' (i:=a.toNat) (by omega) (by omega)]
  simp only [Option.bind_some]
  have h3:=h.1 co[a.toNat] (by simp)
  rw [w64_id (by omega) (by omega)]
  exact go _ h3.1 h3.2
 ·rw [if_neg (by simpa using hq)]
  exact go 0 (by omega) (by omega)
theorem pick_ok {k:Nat} {co:List Int} {a s:Int} (h:CurAt k co a) (hk:k < 1000000000) (p:Int):Drawn (m_Sl ⟨co,a,s⟩ p) (k+3) fun v=>0≤v∧(v < p∨(p≤1∧v=0)):=by
 dsimp only [m_Sl,m_Sl_0]
 by_cases h1:p≤1
 ·rw [if_pos (by simpa using h1)]
  exact ⟨_,_,_,_,rfl,⟨by omega,.inr ⟨h1,rfl⟩⟩,h.le (by omega)⟩
 ·rw [if_neg (by simpa using h1)]
  have e24:∀ (v:Int) (c:List Int) (b z:Int),0≤v→CurAt (k+3) c b→Drawn (m_Sl_24 p v c b z) (k+3) fun v=>0≤v∧(v < p∨(p≤1∧v=0)):=by
   intro v c b z hv hc
   dsimp only [m_Sl_24]
   rw [ck_eq (by omega)]
   simp only [Option.bind_some]
   refine ⟨_,_,_,_,rfl,?_,hc⟩
   rw [Int.tmod_eq_emod_of_nonneg hv]
   exact ⟨Int.emod_nonneg _ (by omega),.inl (Int.emod_lt_of_pos _ (by omega))⟩
  have e18:∀ (v:Int) (c:List Int) (b z:Int),0≤v→v≤1000000→CurAt (k+2) c b→Drawn (m_Sl_18 p v c b z) (k+3) fun v=>0≤v∧(v < p∨(p≤1∧v=0)):=by
   intro v c b z hv hv2 hc
   dsimp only [m_Sl_18]
   split
   ·obtain ⟨x,c2,b2,z2,e,hx,hc2⟩ :=next_ok (s:=z) hc (by omega)
    rw [e]
    simp only [Option.bind_some]
    refine e24 _ _ _ _ ?_ hc2
    rw [w64_id (x:=v*256) (by omega) (by omega),w64_id (by omega) (by omega)]
    omega
   ·exact e24 _ _ _ _ hv (hc.le (by omega))
  obtain ⟨x,c2,b2,z2,e,hx,hc2⟩ :=next_ok (s:=s) h (by omega)
  rw [e]
  simp only [Option.bind_some]
  split
  ·obtain ⟨y,c3,b3,z3,e,hy,hc3⟩ :=next_ok (s:=z2) hc2 (by omega)
   rw [e]
   simp only [Option.bind_some]
   have:w64 (w64 (x*256)+y)=x*256+y:=by rw [w64_id (x:=x*256) (by omega) (by omega),w64_id (by omega) (by omega)]
   rw [this]
   exact e18 _ _ _ _ (by omega) (by omega) hc3
  ·exact e18 _ _ _ _ (by omega) (by omega) (hc2.le (by omega))
theorem pick_in {k:Nat} {co:List Int} {a s:Int} (h:CurAt k co a) (hk:k < 1000000000) {p:Int} (hp:1≤p):Drawn (m_Sl ⟨co,a,s⟩ p) (k+3) fun v=>0≤v∧v < p:=by
 obtain ⟨v,c,b,z,e,h1,h2⟩ :=pick_ok (s:=s) h hk p
 exact ⟨v,c,b,z,e,⟨h1.1,by omega⟩,h2⟩
theorem one_ok {k:Nat} {co:List Int} {a s:Int} (h:CurAt k co a) (hk:k < 1000000000) (p:Int):Drawn (m_Sk ⟨co,a,s⟩ p) (k+3) fun _=>True:=by
 dsimp only [m_Sk,m_Sk_0]
 obtain ⟨v,c,b,z,e,h1,h2⟩ :=pick_ok (s:=s) h hk p
 rw [e]
 exact ⟨_,_,_,_,rfl,trivial,h2⟩
theorem rd_at_in {α:Type} {l:List α} {x:Int} (h0:0≤x) (h1:x < (l.length:Int)):∃ y,rd l x=some y∧y ∈ l:=by
 obtain ⟨i,rfl⟩:∃ i:Nat,x=i:=⟨x.toNat,by omega⟩
 exact ⟨_,rd_eq (by omega),by simp⟩
theorem text_ok {k:Nat} {co:List Int} {a s:Int} (h:CurAt k co a) (n:Int) (h0:0≤n) (h1:n≤300) (hk:k < 100000000):Drawn (m_Sm ⟨co,a,s⟩ n) (k+1000) fun l=>l.length=n.toNat∧∀ x ∈ l,0≤x∧x≤255:=by
 dsimp only [m_Sm,m_Sm_0]
 rw [ck_eq (by omega)]
 simp only [Option.bind_some]
 obtain ⟨e,h2,h3⟩ :=loopM_inv (b:=lp_Sm_9) (fun i (y:List Int×Int×Int×List Int)=>(((Int.toNat n):Int),(i:Int),y)) n.toNat
  (fun i y=>CurAt (k+3*i) y.1 y.2.1∧y.2.2.2.length=n.toNat∧∀ x ∈ y.2.2.2,0≤x∧x≤255) (fun y=>CurAt (k+1000) y.1 y.2.1∧y.2.2.2.length=n.toNat∧∀ x ∈ y.2.2.2,0≤x∧x≤255)
  (fun i y hi hI=>.inl (by
   obtain ⟨c,b,z,l⟩ :=y
   obtain ⟨x,c2,b2,z2,e,hx,hc2⟩ :=pick_in (s:=z) hI.1 (by omega) (p:=95) (by omega)
   dsimp only [lp_Sm_9,m_Sm_9]
   rw [if_pos (by simp;omega),e]
   simp only [Option.bind_some]
   rw [rd_eq (by have:=hI.2.1;simp only at this;omega)]
   simp only [Option.bind_some]
   rw [w64_succ (by omega),w64_id (x:=32+x) (by omega) (by omega),wu8_id (by omega) (by omega)]
   refine ⟨(c2,b2,z2,_),rfl,hc2,by simpa using hI.2.1,fun y hy=>?_⟩
   rcases List.mem_or_eq_of_mem_set hy with h | h
   ·exact hI.2.2 y h
   ·omega))
  (fun y hI=>by
   obtain ⟨c,b,z,l⟩ :=y
   refine ⟨_,?_,hI.1.le (by omega),hI.2⟩
   dsimp only [lp_Sm_9,m_Sm_9]
   rw [if_neg (by simp)]) (s:=(co,a,s,List.replicate n.toNat 0)) ⟨h.le (by omega),by simp,fun x hx=>by
    have:=List.eq_of_mem_replicate hx;omega⟩
 have h2' : loopM lp_Sm_9 (((Int.toNat n):Int),0,co,a,s,List.replicate n.toNat 0)=some e:=h2
 rw [h2']
 exact ⟨_,_,_,_,rfl,h3.2,h3.1⟩
theorem bytesOf_of:∀ l:List Int,(∀ x ∈ l,0≤x∧x≤255)→∃ bs,bytesOf (l.map (rI .u8))=some bs∧bs.length=l.length
 | [],_=>⟨[],rfl,rfl⟩
 | x::l,h=>by
  obtain ⟨bs,h1,h2⟩ :=bytesOf_of l fun y hy=>h y (by simp [hy])
  have hx:=h x (by simp)
  refine ⟨UInt8.ofNat x.toNat::bs,?_,by simp [h2]⟩
  show (if 0≤x∧x≤255 then (bytesOf (l.map (rI .u8))).map (UInt8.ofNat x.toNat :: ·) else none)=_
  rw [if_pos hx,h1];rfl
theorem bstr_of {l:List Int} (h:∀ x ∈ l,0≤x∧x≤255):∃ s,bstr l=some s∧s.size=l.length:=by
 obtain ⟨bs,h1,h2⟩ :=bytesOf_of l h
 refine ⟨⟨bs.toArray⟩,by unfold bstr;rw [h1];rfl,by rw [←h2];rfl⟩
end Go.Proofs.V

namespace Go.Proofs.V
open Go
def Sm_S_Cue (x:Za):Prop:=x.lines.length≤1048576∧∀ y ∈ x.lines,y.size≤1048576
end Go.Proofs.V

namespace Go.Proofs.V
open Go
abbrev arrow:List UInt8:=[45,45,62]
theorem arrow_eq:(ByteArray.mk #[45,45,62]).data.toList=arrow:=rfl
theorem contains_cons (b:UInt8) (l:List UInt8):Lib.contains (b::l) arrow=(arrow.isPrefixOf (b::l)||Lib.contains l arrow):=by
 unfold Lib.contains
 conv=>lhs;unfold Lib.index
 have:=Lib.index_ge l arrow
 cases h:arrow.isPrefixOf (b::l) with
 | true=>simp
 | false=>
  simp only [Bool.false_or,if_neg (Bool.false_ne_true)]
  by_cases h1:Lib.index l arrow = -1
  ·simp [h1]
  ·have h2:(Lib.index l arrow == -1)=false:=by simpa using h1
   rw [h2]
   simp only [Bool.false_eq_true,if_false]
   congr 1
   apply propext
   constructor <;> intro <;> omega
theorem contains_short:∀ (l:List UInt8),l.length≤2→Lib.contains l arrow=false
 | [],_=>rfl
 | [a],_=>by rw [contains_cons];simp [List.isPrefixOf];rfl
 | [a,b],_=>by rw [contains_cons,contains_cons];simp [List.isPrefixOf];rfl
 | a::b::c::l,h=>by simp at h
theorem has_go (s:ByteArray) (hs:s.size≤1048576) (n:Nat):∀ i:Nat,s.size≤i+n→i≤s.size→loopM (lp_Sf_7 s) (i:Int)=some (if Lib.contains (s.data.toList.drop i) arrow then .inl true else .inr ()):=by
 have hl:s.data.toList.length=s.size:=rfl
 induction n with
 | zero=>
  intro i hi h2
  rw [loopM_eq]
  simp only [lp_Sf_7,m_Sf_7]
  rw [w64_id (by omega) (by omega),if_neg (by simp;omega),contains_short _ (by rw [List.length_drop];omega)]
  rfl
 | succ n ih=>
  intro i hi h2
  rw [loopM_eq]
  simp only [lp_Sf_7,m_Sf_7]
  by_cases h3:i+2 < s.size
  ·rw [w64_id (by omega) (by omega),if_pos (by simp;omega),w64_id (x:=(i:Int)+3) (by omega) (by omega),ck_eq (by omega)]
   simp only [Option.bind_some]
   rw [ck_eq (by omega)]
   simp only [Option.bind_some]
   have e1:Int.toNat ((i:Int)+3)=i+3:=by omega
   have e2:=Lib.occ_of_piece s (ByteArray.mk #[45,45,62]) i (by show i+3≤_;omega)
   have e3:(ByteArray.mk #[45,45,62]).size=3:=rfl
   rw [e3] at e2
   rw [e1,Int.toNat_natCast,←e2]
   have h4:i < s.data.toList.length:=by omega
   have e4:s.data.toList.drop i=s.data.toList[i]::s.data.toList.drop (i+1):=List.drop_eq_getElem_cons h4
   have e5:Lib.contains (s.data.toList.drop i) arrow=(Lib.occAt s.data.toList (ByteArray.mk #[45,45,62]).data.toList i||Lib.contains (s.data.toList.drop (i+1)) arrow):=by
    unfold Lib.occAt
    rw [arrow_eq,e4,contains_cons]
   rw [e5]
   cases Lib.occAt s.data.toList (ByteArray.mk #[45,45,62]).data.toList i with
   | true=>rfl
   | false=>
    simp only [Bool.false_or]
    rw [if_neg (by simp),w64_succ (by omega)]
    exact ih (i+1) (by omega) (by omega)
  ·rw [w64_id (by omega) (by omega),if_neg (by simp;omega),contains_short _ (by rw [List.length_drop];omega)]
   rfl
theorem s_has (s:ByteArray) (hs:s.size≤1048576):m_Sf s=some (Lib.contains s.data.toList arrow):=by
 simp only [m_Sf,m_Sf_0]
 have:=has_go s hs s.size 0 (by omega) (by omega)
 rw [List.drop_zero] at this
 have h2:loopM (lp_Sf_7 s) (0:Int)=_:=this
 rw [h2]
 cases Lib.contains s.data.toList arrow <;> rfl
def okByte (b:UInt8):Bool:=decide (32≤b.toNat∧b.toNat≤126)
theorem sat_list {s:ByteArray} {i:Nat} (h:i < s.data.toList.length):sat s (i:Int)=some ((s.data.toList[i].toNat:Nat):Int):=by
 unfold sat
 rw [if_pos (by omega)]
 have h2:i < s.size:=h
 simp only [Int.toNat_natCast]
 show ((s.data[i]?).map fun c:UInt8=>(c.toNat:Int))=_
 have h3:i < s.data.size:=h
 rw [Array.getElem?_eq_getElem h3]
 rfl
theorem bytes_loop {ε:Type} (s:ByteArray) (hs:s.size≤1048576) (e0:ε) (b:Int→Option (Int⊕(ε⊕Unit)))
  (hb:∀ i,b i=if (decide (i < (s.size:Int))) then (sat s i).bind fun x=>if (decide (x < 32)) then some (.inr (.inl e0)) else if (decide (x > 126)) then some (.inr (.inl e0)) else some (.inl (w64 (i+1))) else some (.inr (.inr ()))) :
  loopM b 0=some (bif s.data.toList.all okByte then .inr () else .inl e0):=by
 have hl:s.data.toList.length=s.size:=rfl
 have:=all_fold (l:=s.data.toList) (σ:=Unit) (fun _ i=>(i:Int)) (q:=okByte) (g:=fun _ _=>()) (I:=fun _ _=>True) (b:=b) (e0:=.inl e0) (e1:=fun _=>.inr ())
  (fun i s' h _=>?_) (fun _ _=>?_) () trivial
 ·exact this
 ·have hx:=sat_list h
  rw [hb,if_pos (by simp;omega),hx]
  simp only [Option.bind_some,okByte]
  generalize s.data.toList[i]=u
  refine ⟨fun hq=>⟨?_,trivial⟩,fun hq=>?_⟩
  ·have hq':=of_decide_eq_true hq
   rw [if_neg (by simp;omega),if_neg (by simp;omega),w64_succ (by omega)]
  ·have hq':=of_decide_eq_false hq
   by_cases h1:((u.toNat:Nat):Int) < 32
   ·rw [if_pos (by simpa using h1)]
   ·rw [if_neg (by simpa using h1),if_pos (by simp;omega)]
 ·rw [hb,if_neg (by simp)]
theorem s_bytes (s:ByteArray) (hs:s.size≤1048576):m_Sd s=some (s.data.toList.all okByte):=by
 simp only [m_Sd,m_Sd_0]
 rw [bytes_loop s hs false (lp_Sd_7 s) (fun i=>rfl)]
 cases s.data.toList.all okByte <;> rfl
def okLine (s:ByteArray):Bool:=s.data.toList.all okByte&&(!Lib.contains s.data.toList arrow&&decide (s.size≤80))
theorem z_line (s:ByteArray) (hs:s.size≤1048576):∃ e,m_Id s=some e∧(e=0↔okLine s=true):=by
 simp only [m_Id,m_Id_0]
 rw [bytes_loop s hs 4 (lp_Id_7 s) (fun i=>rfl)]
 unfold okLine
 cases s.data.toList.all okByte with
 | false=>exact ⟨4,rfl,by simp⟩
 | true=>
  simp only [cond_true,Option.bind_some,m_Id_25,m_strings_Contains,gContains]
  rw [if_pos (by omega)]
  simp only [Option.bind_some,Bool.true_and]
  show ∃ e,(if Lib.contains s.data.toList arrow=true then some (4:Int) else _)=some e∧_
  cases Lib.contains s.data.toList arrow with
  | true=>exact ⟨4,rfl,by simp⟩
  | false=>
   by_cases h:(s.size:Int) > 80
   ·exact ⟨7,by rw [if_neg (by simp),if_pos (by simpa using h)],by simp;omega⟩
   ·exact ⟨0,by rw [if_neg (by simp),if_neg (by simpa using h)],by simp;omega⟩
def okL (s:ByteArray):Bool:=decide (1≤s.size)&&(okLine s&&(s.data.toList.getLast? != some 32))
theorem last_at (s:ByteArray) (hs:s.size≤1048576) (h:1≤s.size):∃ v:UInt8,sat s (w64 ((s.size:Int) - 1))=some ((v.toNat:Nat):Int)∧s.data.toList.getLast? = some v:=by
 have hl:s.data.toList.length=s.size:=rfl
 have h1:s.size - 1 < s.data.toList.length:=by omega
 refine ⟨s.data.toList[s.size - 1],?_,?_⟩
 ·rw [w64_id (by omega) (by omega),show (s.size:Int) - 1=((s.size - 1:Nat):Int) by omega]
  exact sat_list h1
 ·rw [List.getLast?_eq_getElem?,hl,List.getElem?_eq_getElem h1]
theorem last32 (v:UInt8):(((v.toNat:Nat):Int) == 32)=(some v == some (32:UInt8)):=by
 rw [Bool.eq_iff_iff]
 simp only [beq_iff_eq,Option.some.injEq]
 constructor
 ·intro h
  apply UInt8.toNat_inj.1
  show v.toNat=32
  omega
 ·rintro rfl;rfl
theorem s_lines (l:List ByteArray) (hl:l.length≤1048576) (hs:∀ y ∈ l,y.size≤1048576):m_Sg l=some (l.all okL&&decide (1≤l.length∧l.length≤4)):=by
 simp only [m_Sg,m_Sg_0]
 rw [all_list (l:=l) (q:=okL) (by omega) (fun i h=>?_) ?_]
 ·cases l.all okL with
  | false=>rfl
  | true=>
   simp only [cond_true,Option.bind_some,m_Sg_25,Bool.true_and]
   by_cases h1:(l.length:Int)≥1
   ·rw [if_pos (by simpa using h1)];congr 1;rw [decide_eq_decide];omega
   ·rw [if_neg (by simpa using h1)];congr 1;symm;rw [decide_eq_false_iff_not];omega
 ·simp only [lp_Sg_7,m_Sg_7]
  rw [if_neg (by simp)]
 ·have hz:=hs _ (List.getElem_mem h)
  simp only [lp_Sg_7,m_Sg_7]
  rw [if_pos (by simp;omega),rd_eq h]
  simp only [Option.bind_some]
  generalize l[i]=s at hz ⊢
  by_cases h1:1≤s.size
  ·rw [if_neg (by simp;omega)]
   by_cases h2:s.size≤80
   ·rw [if_neg (by simp;omega),s_bytes s hz,s_has s hz]
    obtain ⟨v,hv,hg⟩ :=last_at s hz h1
    have hk:okL s=(true&&((s.data.toList.all okByte&&(!Lib.contains s.data.toList arrow&&true)) && !(some v == some (32:UInt8)))):=by
     unfold okL okLine
     rw [hg,decide_eq_true h1,decide_eq_true h2]
     rfl
    rw [hv,hk]
    simp only [Option.bind_some,last32]
    rw [w64_succ (by omega)]
    cases s.data.toList.all okByte <;> cases (some v == some (32:UInt8)) <;> cases Lib.contains s.data.toList arrow <;> rfl
   ·have hk:okL s=false:=by
     unfold okL okLine
     rw [decide_eq_false h2]
     simp
    rw [if_pos (by simp;omega),hk]
    rfl
  ·have hk:okL s=false:=by
    unfold okL
    rw [decide_eq_false h1]
    rfl
   rw [if_pos (by simp;omega),hk]
   rfl
theorem toList_empty (s:ByteArray):(s.toList == (ByteArray.mk #[]).toList)=decide (s.size=0):=by
 rw [ByteArray.toList_eq,ByteArray.toList_eq,Bool.eq_iff_iff,beq_iff_eq,decide_eq_true_eq]
 constructor
 ·intro h
  have h2:s.data.toList.length=0:=by rw [h];rfl
  exact h2
 ·intro h
  exact List.eq_nil_of_length_eq_zero h
theorem z_cue (c:Za) (hl:c.lines.length≤1048576) (hs:∀ y ∈ c.lines,y.size≤1048576):m_Ic c=some (c.lines.all okL&&decide (1≤c.lines.length∧c.lines.length≤4)):=by
 simp only [m_Ic,m_Ic_0]
 by_cases h1:1≤c.lines.length
 ·rw [if_neg (by simp;omega)]
  by_cases h2:c.lines.length≤4
  ·rw [if_neg (by simp;omega),all_list (l:=c.lines) (q:=okL) (by omega) (fun i h=>?_) ?_]
   ·have h3:decide (1≤c.lines.length∧c.lines.length≤4)=true:=by simp [h1,h2]
    rw [h3]
    cases c.lines.all okL <;> rfl
   ·simp only [lp_Ic_15,m_Ic_15]
    rw [if_neg (by simp)]
   ·have hz:=hs _ (List.getElem_mem h)
    simp only [lp_Ic_15,m_Ic_15]
    rw [if_pos (by simp;omega),rd_eq h]
    simp only [Option.bind_some]
    generalize c.lines[i]=s at hz ⊢
    simp only [toList_empty]
    by_cases h4:s.size=0
    ·have hk:okL s=false:=by
      unfold okL
      rw [decide_eq_false (by omega)]
      rfl
     rw [if_pos (by simpa using h4),hk]
     rfl
    ·rw [if_neg (by simpa using h4)]
     obtain ⟨v,hv,hg⟩ :=last_at s hz (by omega)
     obtain ⟨e,he,hf⟩ :=z_line s hz
     have hk:okL s=(true&&(okLine s && !(some v == some (32:UInt8)))):=by
      unfold okL
      rw [hg,decide_eq_true (by omega)]
      rfl
     rw [hv,he,hk]
     simp only [Option.bind_some,last32]
     have h6:(e != 0) = !okLine s:=by
      rw [Bool.eq_iff_iff]
      simp only [bne_iff_ne,ne_eq,hf]
      cases okLine s <;> simp
     rw [h6,w64_succ (by omega)]
     cases (some v == some (32:UInt8)) <;> cases okLine s <;> rfl
  ·rw [if_pos (by simp;omega)]
   congr 1;symm;simp;omega
 ·rw [if_pos (by simp;omega)]
  congr 1;symm;simp;omega
theorem rd_mem {α:Type} {l:List α} {i:Int} {x:α} (h:rd l i=some x):x ∈ l:=by
 unfold rd at h
 split at h
 ·exact List.mem_of_getElem? h
 ·simp at h
theorem good_eq (p:List Za) (hs:∀ c ∈ p,Sm_S_Cue c):m_Sb p=m_Ia p:=by
 have key:lp_Sb_15 p=lp_Ia_15 p:=by
  funext i
  simp only [lp_Sb_15,m_Sb_15,lp_Ia_15,m_Ia_15]
  have h1:∀ x,m_Sh x=m_Ie x:=fun _=>rfl
  simp only [h1]
  cases h:rd p i with
  | none=>rfl
  | some x=>
   have hx:=hs x (rd_mem h)
   simp only [Option.bind_some,s_lines x.lines hx.1 hx.2,z_cue x hx.1 hx.2]
 simp only [m_Sb,m_Sb_0,m_Ia,m_Ia_0,key]
 rfl
def gCue (c:Za):Prop:=0≤c.from_∧c.from_ < c.to_∧c.to_≤359999999∧1≤c.lines.length∧c.lines.length≤4
theorem time_eq (x:Int):m_Ie x=some (decide (0≤x∧x≤359999999)):=by
 simp only [m_Ie,m_Ie_0]
 by_cases h:x≥0
 ·rw [if_pos (by simpa using h)];congr 1;rw [decide_eq_decide];omega
 ·rw [if_neg (by simpa using h)];congr 1;symm;rw [decide_eq_false_iff_not];omega
theorem good_some (p:List Za) (hs:∀ c ∈ p,Sm_S_Cue c):∃ b,m_Ia p=some b∧(b=true→p.length≤200∧∀ c ∈ p,gCue c):=by
 simp only [m_Ia,m_Ia_0]
 by_cases hl:p.length≤200
 ·rw [if_neg (by simp;omega)]
  have key:=loopM_inv (b:=lp_Ia_15 p) (fun i (s:Unit)=>(i:Int)) p.length (fun i _=>∀ j,j < i→∀ x,p[j]? = some x→gCue x) (fun e=>e = .inl false∨e = .inr ()∧∀ x ∈ p,gCue x) ?_ ?_ (s:=()) (by intro j hj;omega)
  ·obtain ⟨e,he,h1⟩ :=key
   have he' : loopM (lp_Ia_15 p) (0:Int)=some e:=he
   rw [he']
   rcases h1 with rfl | ⟨rfl,h2⟩
   ·exact ⟨false,rfl,by simp⟩
   ·exact ⟨true,rfl,fun _=>⟨hl,h2⟩⟩
  ·rintro i s hi h1
   have hx:=hs _ (List.getElem_mem hi)
   simp only [lp_Ia_15,m_Ia_15]
   rw [if_pos (by simp;omega),rd_eq hi]
   simp only [Option.bind_some]
   have hn:∀ j,j < i+1→∀ x,p[j]? = some x→gCue p[i]→gCue x:=by
    intro j hj x hxj hg
    by_cases hji:j=i
    ·subst hji
     rw [List.getElem?_eq_getElem hi] at hxj
     obtain rfl:=Option.some.inj hxj
     exact hg
    ·exact h1 j (by omega) x hxj
   have hpos:0 < i→i - 1 < p.length:=by omega
   generalize hc:p[i]=c at hx hn ⊢
   rw [time_eq,time_eq,z_cue c hx.1 hx.2]
   simp only [Option.bind_some]
   by_cases h2:0≤c.from_∧c.from_≤359999999
   ·rw [if_pos (by simpa using h2)]
    by_cases h3:0≤c.to_∧c.to_≤359999999
    ·rw [if_pos (by simpa using h3)]
     by_cases h4:c.from_≥c.to_
     ·rw [if_pos (by simpa using h4)]
      exact .inr ⟨_,rfl,.inl rfl⟩
     ·rw [if_neg (by simpa using h4)]
      cases h5:(c.lines.all okL&&decide (1≤c.lines.length∧c.lines.length≤4)) with
      | false=>exact .inr ⟨_,rfl,.inl rfl⟩
      | true=>
       simp only [Bool.and_eq_true,decide_eq_true_eq] at h5
       have hg:gCue c:=⟨h2.1,by omega,h3.2,h5.2.1,h5.2.2⟩
       rw [if_pos rfl]
       by_cases h6:(i:Int) > 0
       ·rw [if_pos (by simpa using h6),w64_id (by omega) (by omega),rd_eq' (i:=i - 1) (by omega) (by omega)]
        simp only [Option.bind_some]
        by_cases h7:c.from_ < (p[i - 1]'(by omega)).from_
        ·rw [if_pos (by simpa using h7)]
         exact .inr ⟨_,rfl,.inl rfl⟩
        ·rw [if_neg (by simpa using h7),w64_succ (by omega)]
         exact .inl ⟨(),rfl,fun j hj x hxj=>hn j hj x hxj hg⟩
       ·rw [if_neg (by simpa using h6),w64_succ (by omega)]
        exact .inl ⟨(),rfl,fun j hj x hxj=>hn j hj x hxj hg⟩
    ·rw [if_neg (by simpa using h3)]
     exact .inr ⟨_,rfl,.inl rfl⟩
   ·rw [if_neg (by simpa using h2)]
    exact .inr ⟨_,rfl,.inl rfl⟩
  ·rintro s h1
   refine ⟨.inr (),?_,.inr ⟨rfl,?_⟩⟩
   ·simp only [lp_Ia_15,m_Ia_15]
    rw [if_neg (by simp)]
   ·intro x hx
    obtain ⟨j,hj,e⟩ :=List.getElem_of_mem hx
    exact h1 j hj x (by rw [List.getElem?_eq_getElem hj,e])
 ·rw [if_pos (by simp;omega)]
  exact ⟨false,rfl,by simp⟩
end Go.Proofs.V

namespace Go.Proofs.V
open Go
def firstF (f:Nat→Bool):Nat→Int
 | 0=>-1
 | m+1=>if 0≤firstF f m then firstF f m else if f m then (m:Int) else -1
def downF (f:Nat→Bool):Nat→Int→Int
 | 0,cur=>cur
 | m+1,cur=>downF f m (if f m then (m:Int) else cur)
theorem downF_eq (f:Nat→Bool):∀ (m:Nat) (cur:Int),downF f m cur=if 0≤firstF f m then firstF f m else cur:=by
 intro m
 induction m with
 | zero=>intro cur;simp [downF,firstF]
 | succ m ih=>
  intro cur
  rw [downF,ih,firstF]
  by_cases h:0≤firstF f m
  ·simp [h]
  ·simp only [h,if_false]
   cases f m with
   | true=>simp
   | false=>simp
theorem firstF_rng (f:Nat→Bool):∀ m:Nat,firstF f m = -1∨0≤firstF f m∧firstF f m < m:=by
 intro m
 induction m with
 | zero=>left;rfl
 | succ m ih=>
  rw [firstF]
  split
  ·right;omega
  ·split
   ·right;omega
   ·left;rfl
theorem firstF_mono (f:Nat→Bool) (r:Nat) (h:0≤firstF f r):∀ d:Nat,firstF f (r+d)=firstF f r:=by
 intro d
 induction d with
 | zero=>rfl
 | succ d ih=>
  rw [←Nat.add_assoc,firstF,ih,if_pos h]
def freeB (taken:List Bool) (n:Nat) (r:Nat):Bool:=(List.range n).foldl (fun b k=>b && !(taken.getD (r+k) false)) true
theorem free_loop (p:List Za) (rows a i:Int) (x:Za) (out:List Int) (taken:List Bool) (n r:Nat) (hn:x.lines.length=n) (hn4:n≤4) (hr:r+n≤taken.length) (ht:taken.length≤100) :
  loopM (lp_Ib_87 p rows a r i x out taken) (true,0)=some (freeB taken n r):=by
 have key:=fold_range (n:=n) (σ:=Bool) (fun s k=>(s,(k:Int))) (g:=fun b k=>b && !(taken.getD (r+k) false)) (I:=fun _ _=>True) (b:=lp_Ib_87 p rows a r i x out taken) (e1:=fun b=>b)
  (fun k s hk _=>⟨?_,trivial⟩) (fun s _=>?_) true trivial
 ·exact key.1
 ·simp only [lp_Ib_87,m_Ib_87]
  rw [if_pos (by simp;omega),w64_succ (by omega)]
  cases s with
  | true=>
   rw [if_pos rfl,w64_id (by omega) (by omega),show (r:Int)+(k:Int)=((r+k:Nat):Int) by omega,rd_d false (by omega)]
   simp only [Option.bind_some,Bool.true_and]
  | false=>rw [if_neg (by simp)];simp
 ·simp only [lp_Ib_87,m_Ib_87]
  rw [if_neg (by simp;omega)]
theorem up_loop (p:List Za) (rows:Nat) (i:Int) (x:Za) (out:List Int) (taken:List Bool) (n M:Nat) (hn:x.lines.length=n) (hn4:n≤4) (hM:∀ r:Nat,r+n≤rows↔r < M) (hM2:M≤101) (ht:taken.length=rows) (hrows:rows≤100) :
  ∀ (d r:Nat),r+d=M→firstF (freeB taken n) r = -1→loopM (lp_Ib_72 p rows i x out taken) (-1,(r:Int))=some (firstF (freeB taken n) M):=by
 intro d
 induction d with
 | zero=>
  intro r hr hf
  obtain rfl:r=M:=by omega
  have:=hM r
  rw [loopM_eq]
  simp only [lp_Ib_72,m_Ib_72]
  rw [w64_id (by omega) (by omega),if_neg (by simp;omega),hf]
 | succ d ih=>
  intro r hr hf
  have h1:=(hM r).2 (by omega)
  rw [loopM_eq]
  simp only [lp_Ib_72,m_Ib_72]
  rw [w64_id (by omega) (by omega),if_pos (by simp;omega),if_pos (by rfl),free_loop p rows (-1) i x out taken n r hn hn4 (by omega) (by omega)]
  simp only [Option.bind_some,m_Ib_99]
  rw [w64_succ (by omega)]
  cases hfr:freeB taken n r with
  | true=>
   have h2:firstF (freeB taken n) (r+1)=r:=by rw [firstF,hf,if_neg (by decide),hfr,if_pos rfl]
   have h3:firstF (freeB taken n) M=r:=by
    rw [show M=(r+1)+d by omega,firstF_mono _ _ (by omega),h2]
   rw [if_pos rfl,h3]
   show loopM _ _=_
   rw [loopM_eq]
   simp only [lp_Ib_72,m_Ib_72]
   have h4:decide ((r:Int) < 0)=false:=by simp
   rw [h4]
   simp
  | false=>
   have h2:firstF (freeB taken n) (r+1) = -1:=by rw [firstF,hf,if_neg (by decide),hfr];rfl
   rw [if_neg (by simp)]
   exact ih (r+1) (by omega) h2
theorem down_loop (p:List Za) (rows:Nat) (i:Int) (x:Za) (out:List Int) (taken:List Bool) (n M:Nat) (hn:x.lines.length=n) (hn4:n≤4) (hM:∀ r:Nat,r+n≤rows↔r < M) (hM2:M≤101) (ht:taken.length=rows) (hrows:rows≤100) :
  ∀ (m:Nat) (cur:Int),m≤M→loopM (lp_Sc_70 p rows i x out taken) (cur,(m:Int) - 1)=some (downF (freeB taken n) m cur):=by
 intro m
 induction m with
 | zero=>
  intro cur _
  rw [loopM_eq]
  simp only [lp_Sc_70,m_Sc_70]
  rw [if_neg (by simp)]
  rfl
 | succ m ih=>
  intro cur hm
  have h1:=(hM m).2 (by omega)
  have e1:((m+1:Nat):Int) - 1=(m:Int):=by omega
  have e2:loopM (lp_Sc_85 p rows cur m i x out taken) (true,0)=some (freeB taken n m):=free_loop p rows cur i x out taken n m hn hn4 (by omega) (by omega)
  rw [e1,loopM_eq]
  simp only [lp_Sc_70,m_Sc_70]
  rw [if_pos (by simp),e2]
  simp only [Option.bind_some,m_Sc_97]
  rw [w64_id (by omega) (by omega),downF]
  cases freeB taken n m with
  | true=>exact ih _ (by omega)
  | false=>exact ih _ (by omega)
def RInv (p:List Za) (rows i:Nat) (out:List Int):Prop:=out.length=i∧∀ (j:Nat) (x:Za) (v:Int),p[j]? = some x→out[j]? = some v→v = -1∨0≤v∧v+x.lines.length≤rows
theorem taken_loop (p:List Za) (rows i:Nat) (x:Za) (out:List Int) (hc:∀ c ∈ p,gCue c) (hi:i≤p.length) (hp:p.length≤200) (hI:RInv p rows i out) (hrows:rows≤100) :
  ∃ taken,loopM (lp_Ib_34 p rows i x out) (0,List.replicate rows false)=some taken∧taken.length=rows:=by
 have key:=loopM_inv (b:=lp_Ib_34 p rows i x out) (fun j (s:List Bool)=>((j:Int),s)) i (fun j s=>s.length=rows) (fun e=>e.length=rows) ?_ ?_ (s:=List.replicate rows false) (by simp)
 ·exact key
 ·intro j s hj hs
  obtain ⟨h1,h2⟩ :=hI
  have hjo:j < out.length:=by omega
  have hjp:j < p.length:=by omega
  have h64:∀ l:List Bool,l.length=rows→(∃ s',m_Ib_64 p rows i j x out l=some (.inl (((j+1:Nat):Int),s'))∧s'.length=rows):=by
   intro l hl
   unfold m_Ib_64
   rw [w64_succ (by omega)]
   exact ⟨l,rfl,hl⟩
  simp only [lp_Ib_34,m_Ib_34]
  rw [if_pos (by simp;omega),rd_eq hjo,rd_eq hjp]
  simp only [Option.bind_some]
  have hv:=h2 j p[j] out[j] (by simp [hjp]) (by simp [hjo])
  have hx:=hc _ (List.getElem_mem hjp)
  have h46f:∃ s',m_Ib_46 p rows j i x out s false=some (.inl (((j+1:Nat):Int),s'))∧s'.length=rows:=by
   unfold m_Ib_46
   rw [if_neg (by simp)]
   exact h64 s hs
  by_cases h3:out[j]≥0
  ·rw [if_pos (by simpa using h3)]
   have h46:∀ b,∃ s',m_Ib_46 p rows j i x out s b=some (.inl (((j+1:Nat):Int),s'))∧s'.length=rows:=by
    intro b
    cases b with
    | false=>exact h46f
    | true=>
     unfold m_Ib_46
     rw [if_pos rfl,rd_eq hjp]
     simp only [Option.bind_some]
     have hro:rd out (j:Int)=some out[j]:=rd_eq hjo
     generalize p[j]=y at hv hx ⊢
     generalize out[j]=v at hv h3 hro ⊢
     have key2:=loopM_inv (b:=lp_Ib_51 p rows j i y x out) (fun k (s:List Bool)=>((k:Int),s)) y.lines.length (fun k s=>s.length=rows) (fun e=>e.length=rows) ?_ ?_ (s:=s) hs
     ·obtain ⟨e,he,hl⟩ :=key2
      have he' : loopM (lp_Ib_51 p rows j i y x out) ((0:Int),s)=some e:=he
      rw [he']
      exact h64 e hl
     ·intro k s hk hs
      left
      have hk4:=hx.2.2.2.2
      simp only [lp_Ib_51,m_Ib_51]
      rw [if_pos (by simp;omega),hro]
      simp only [Option.bind_some]
      rw [w64_id (by omega) (by omega),rd_eq' (i:=v.toNat+k) (by omega) (by omega),w64_succ (by omega)]
      exact ⟨_,rfl,by simpa using hs⟩
     ·intro s hs
      refine ⟨s,?_,hs⟩
      simp only [lp_Ib_51,m_Ib_51]
      rw [if_neg (by simp)]
   left
   split
   ·exact h46 _
   ·exact h46 _
  ·rw [if_neg (by simpa using h3)]
   exact .inl h46f
 ·intro s hs
  refine ⟨s,?_,hs⟩
  simp only [lp_Ib_34,m_Ib_34]
  rw [if_neg (by simp)]
theorem row_step (p:List Za) (rows i:Nat) (out:List Int) (hc:∀ c ∈ p,gCue c) (hi:i < p.length) (hp:p.length≤200) (hI:RInv p rows i out) (hrows:rows≤100) :
  ∃ out',lp_Sc_17 p rows ((i:Int),out)=some (.inl (((i+1:Nat):Int),out'))∧lp_Ib_17 p rows ((i:Int),out)=some (.inl (((i+1:Nat):Int),out'))∧RInv p rows (i+1) out':=by
 have hx:=hc _ (List.getElem_mem hi)
 have hpx:p[i]? = some p[i]:=by simp [hi]
 simp only [lp_Sc_17,m_Sc_17,lp_Ib_17,m_Ib_17]
 rw [if_pos (by simp;omega),if_pos (by simp;omega),rd_eq hi]
 simp only [Option.bind_some]
 generalize p[i]=x at hx hpx ⊢
 rw [ck_eq (by omega)]
 simp only [Option.bind_some,Int.toNat_natCast]
 obtain ⟨taken,ht,hl⟩ :=taken_loop p rows i x out hc (by omega) hp hI hrows
 have ht' : loopM (lp_Sc_34 p rows i x out) (0,List.replicate rows false)=some taken:=ht
 rw [ht,ht']
 simp only [Option.bind_some,m_Sc_63,m_Ib_65]
 have hn4:=hx.2.2.2.2
 obtain ⟨M,hM,hM2⟩:∃ M:Nat,(∀ r:Nat,r+x.lines.length≤rows↔r < M)∧M≤101:=⟨rows+1 - x.lines.length,fun r=>by omega,by omega⟩
 have hup:=up_loop p rows i x out taken x.lines.length M rfl hn4 hM hM2 hl hrows M 0 (by omega) rfl
 have hup' : loopM (lp_Ib_72 p rows i x out taken) (-1,0)=some (firstF (freeB taken x.lines.length) M):=hup
 have hdn:loopM (lp_Sc_70 p rows i x out taken) (-1,w64 ((rows:Int) - (x.lines.length:Int)))=some (firstF (freeB taken x.lines.length) M):=by
  rw [w64_id (by omega) (by omega)]
  by_cases h:x.lines.length≤rows
  ·have h2:(rows:Int) - (x.lines.length:Int)=(M:Int) - 1:=by
    have h3:=hM (rows - x.lines.length)
    have h4:=hM (rows - x.lines.length+1)
    omega
   rw [h2,down_loop p rows i x out taken x.lines.length M rfl hn4 hM hM2 hl hrows M (-1) (Nat.le_refl _),downF_eq]
   rcases firstF_rng (freeB taken x.lines.length) M with h5 | h5
   ·rw [h5];rfl
   ·rw [if_pos h5.1]
  ·have h3:M=0:=by have:=hM 0;omega
   subst h3
   rw [loopM_eq]
   simp only [lp_Sc_70,m_Sc_70]
   rw [if_neg (by simp;omega)]
   rfl
 have hrng:=firstF_rng (freeB taken x.lines.length) M
 rw [hup',hdn]
 simp only [Option.bind_some,m_Sc_103,m_Ib_105]
 generalize firstF (freeB taken x.lines.length) M=v at hrng
 obtain ⟨h1,h2⟩ :=hI
 rw [ck_eq (by simp;omega),w64_succ (by omega)]
 refine ⟨_,rfl,rfl,by simp;omega,?_⟩
 intro j y u hy hu
 by_cases hj:j=i
 ·subst hj
  rw [List.getElem?_append_right (by omega),h1,Nat.sub_self] at hu
  obtain rfl:v=u:=by simpa using hu
  obtain rfl:x=y:=by simpa using hpx.symm.trans hy
  rcases hrng with h | ⟨h3,h4⟩
  ·exact .inl h
  ·right
   have:=(hM v.toNat).2 (by omega)
   omega
 ·have hj2:j < out.length:=by
   have:=(List.getElem?_eq_some_iff.1 hu).1
   simp at this
   omega
  rw [List.getElem?_append_left hj2] at hu
  exact h2 j y u hy hu
theorem rows_core (p:List Za) (r:Int) (hs:∀ c ∈ p,Sm_S_Cue c):∃ w,m_Sc p r=some w∧m_Ib p r=some w∧w.length≤1048576:=by
 simp only [m_Sc,m_Sc_0,m_Ib,m_Ib_0,good_eq p hs]
 obtain ⟨b,hb,hg⟩ :=good_some p hs
 rw [hb]
 simp only [Option.bind_some]
 cases b with
 | false=>exact ⟨[],rfl,rfl,by simp⟩
 | true=>
  obtain ⟨hl,hc⟩ :=hg rfl
  simp only [if_true]
  by_cases h1:r < 1
  ·simp only [h1,decide_true,if_true];exact ⟨[],rfl,rfl,by simp⟩
  by_cases h2:r > 100
  ·simp only [h1,h2,decide_true,decide_false,Bool.false_eq_true,if_false,if_true];exact ⟨[],rfl,rfl,by simp⟩
  simp only [h1,h2,decide_true,decide_false,Bool.false_eq_true,if_false,if_true]
  obtain ⟨rows,rfl⟩:∃ rows:Nat,r=rows:=⟨r.toNat,by omega⟩
  have key:∀ (d i:Nat) (out:List Int),i+d=p.length→RInv p rows i out→∃ w,loopM (lp_Sc_17 p rows) ((i:Int),out)=some w∧loopM (lp_Ib_17 p rows) ((i:Int),out)=some w∧w.length=p.length:=by
   intro d
   induction d with
   | zero=>
    intro i out hi hI
    obtain rfl:i=p.length:=by omega
    refine ⟨out,?_,?_,hI.1⟩
    ·rw [loopM_eq]
     simp only [lp_Sc_17,m_Sc_17]
     rw [if_neg (by simp)]
    ·rw [loopM_eq]
     simp only [lp_Ib_17,m_Ib_17]
     rw [if_neg (by simp)]
   | succ d ih=>
    intro i out hi hI
    obtain ⟨out',e1,e2,e3⟩ :=row_step p rows i out hc (by omega) hl hI (by omega)
    obtain ⟨w,g1,g2,g3⟩ :=ih (i+1) out' (by omega) e3
    exact ⟨w,by rw [loopM_eq,e1];exact g1,by rw [loopM_eq,e2];exact g2,g3⟩
  obtain ⟨w,g1,g2,g3⟩ :=key p.length 0 [] (by omega) ⟨rfl,by intro j x v hx hv;simp at hv⟩
  have g1' : loopM (lp_Sc_17 p rows) ((0:Int),([]:List Int))=some w:=g1
  have g2' : loopM (lp_Ib_17 p rows) ((0:Int),([]:List Int))=some w:=g2
  rw [g1',g2']
  exact ⟨w,rfl,rfl,by omega⟩
end Go.Proofs.V

namespace Go.Proofs.V
open Go
def LineOk (l:List ByteArray):Prop:=l.length≤8∧∀ y ∈ l,y.size≤400
def CuesOk (l:List Za):Prop:=l.length≤300∧∀ c ∈ l,LineOk c.lines
theorem CuesOk.sm {l:List Za} (h:CuesOk l):∀ c ∈ l,Sm_S_Cue c:=fun c hc=>⟨by have:=(h.2 c hc).1;omega,fun y hy=>by have:=(h.2 c hc).2 y hy;omega⟩
theorem CuesOk.set {l:List Za} (h:CuesOk l) {c:Za} (hc:LineOk c.lines) (i:Nat):CuesOk (l.set i c):=⟨by simpa using h.1,fun x hx=>by
 rcases List.mem_or_eq_of_mem_set hx with h1 | h1
 ·exact h.2 x h1
 ·rw [h1];exact hc⟩
theorem LineOk.snoc {l:List ByteArray} {n:Nat} (hn:l.length=n) (h8:n < 8) (h:LineOk l) {s:ByteArray} (hs:s.size≤400):LineOk (l++[s]):=⟨by simp;omega,fun y hy=>by
 rw [List.mem_append,List.mem_singleton] at hy
 rcases hy with h1 | h1
 ·exact h.2 y h1
 ·rw [h1];exact hs⟩
theorem LineOk.set {l:List ByteArray} (h:LineOk l) {s:ByteArray} (hs:s.size≤400) (i:Nat):LineOk (l.set i s):=⟨by simpa using h.1,fun y hy=>by
 rcases List.mem_or_eq_of_mem_set hy with h1 | h1
 ·exact h.2 y h1
 ·rw [h1];exact hs⟩
theorem lines_ok (p1 i1:Int) (l5:List Za) (n:Nat) (hn:n≤4) {k:Nat} {co:List Int} {a s:Int} (h:CurAt k co a) (hk:k < 10000000) (t f tt:Int) :
  ∃ c2 a2 s2 l,loopM (lp_Si_28 p1 i1 l5) (t,(n:Int),co,a,s,f,tt,[])=some (t,c2,a2,s2,f,tt,l)∧CurAt (k+5000) c2 a2∧LineOk l∧l.length=n:=by
 obtain ⟨e,g1,c2,a2,s2,l,rfl,g2,g3,g4⟩ :=loopM_inv (b:=lp_Si_28 p1 i1 l5) (fun i (y:List Int×Int×Int×List ByteArray)=>(t,((n - i:Nat):Int),y.1,y.2.1,y.2.2.1,f,tt,y.2.2.2)) n
  (fun i y=>CurAt (k+1100*i) y.1 y.2.1∧y.2.2.2.length=i∧LineOk y.2.2.2) (fun e=>∃ c2 a2 s2 l,e=(t,c2,a2,s2,f,tt,l)∧CurAt (k+5000) c2 a2∧LineOk l∧l.length=n)
  (fun i y hi hI=>.inl (by
   obtain ⟨c,b,z,l⟩ :=y
   obtain ⟨j1,j2,j3⟩ :=hI
   simp only at j1 j2 j3
   dsimp only [lp_Si_28,m_Si_28]
   rw [if_pos (by simp;omega)]
   obtain ⟨x1,c1,b1,z1,e1,hx1,hc1⟩ :=pick_in (s:=z) j1 (by omega) (p:=12) (by omega)
   rw [e1]
   simp only [Option.bind_some]
   obtain ⟨x2,c2,b2,z2,e2,hx2,hc2⟩ :=text_ok (s:=z1) hc1 x1 (by omega) (by omega) (by omega)
   rw [e2]
   simp only [Option.bind_some]
   obtain ⟨x3,e3,h3⟩ :=bstr_of hx2.2
   rw [e3]
   simp only [Option.bind_some]
   have h120:(ByteArray.mk #[120]).size=1:=rfl
   have hsz:(x3++ByteArray.mk #[120]).size=x3.size+1:=by rw [ByteArray.size_append];rfl
   rw [ck_eq (by rw [h120];omega)]
   simp only [Option.bind_some]
   rw [ck_eq (by simp;omega)]
   simp only [Option.bind_some]
   have hw:w64 (((l++[x3++ByteArray.mk #[120]]).length:Int) - 1)=((l.length:Nat):Int):=by
    rw [List.length_append,List.length_singleton,w64_id (by omega) (by omega)];omega
   rw [hw,rd_eq (i:=l.length) (by simp)]
   simp only [Option.bind_some,List.getElem_append_right (Nat.le_refl l.length),Nat.sub_self,List.getElem_cons_zero]
   rw [s_has _ (by rw [hsz];omega)]
   simp only [Option.bind_some]
   have hw2:w64 (((n - i:Nat):Int) - 1)=((n - (i+1):Nat):Int):=by rw [w64_id (by omega) (by omega)];omega
   rw [hw2]
   have hl2:=j3.snoc j2 (by omega) (s:=x3++ByteArray.mk #[120]) (by rw [hsz];omega)
   split
   ·exact ⟨(c2,b2,z2,_),rfl,hc2.le (by omega),by simp;omega,hl2.set (by show 1≤400;omega) _⟩
   ·exact ⟨(c2,b2,z2,_),rfl,hc2.le (by omega),by simp;omega,hl2⟩))
  (fun y hI=>by
   obtain ⟨c,b,z,l⟩ :=y
   obtain ⟨j1,j2,j3⟩ :=hI
   refine ⟨_,?_,c,b,z,l,rfl,j1.le (by omega),j3,j2⟩
   dsimp only [lp_Si_28,m_Si_28]
   rw [if_neg (by simp)]) (s:=(co,a,s,[])) ⟨h.le (by omega),rfl,by simp,fun y hy=>by simp at hy⟩
 exact ⟨c2,a2,s2,l,g1,g2,g3,g4⟩
theorem cues_ok {k:Nat} {co:List Int} {a s:Int} (h:CurAt k co a) (hk:k < 5000000) (n:Int) (hn:n≤210):Drawn (m_Si ⟨co,a,s⟩ n) (k+2000000) fun l=>CuesOk l∧∀ c ∈ l,1≤c.lines.length∧c.lines.length≤4:=by
 dsimp only [m_Si,m_Si_0]
 obtain ⟨x0,c0,b0,z0,e0,hx0,hc0⟩ :=pick_ok (s:=s) h (by omega) 5000
 rw [e0]
 simp only [Option.bind_some]
 obtain ⟨e,g1,g2,g3⟩ :=loopM_inv (b:=lp_Si_11 n) (fun i (y:Int×List Int×Int×Int×List Za)=>(y.1,(i:Int),y.2)) n.toNat
  (fun i y=>CurAt (k+3+6000*i) y.2.1 y.2.2.1∧y.2.2.2.2.length=i∧CuesOk y.2.2.2.2∧∀ c ∈ y.2.2.2.2,1≤c.lines.length∧c.lines.length≤4) (fun e=>CurAt (k+2000000) e.1 e.2.1∧CuesOk e.2.2.2∧∀ c ∈ e.2.2.2,1≤c.lines.length∧c.lines.length≤4)
  (fun i y hi hI=>.inl (by
   obtain ⟨t,c,b,z,l⟩ :=y
   obtain ⟨j1,j2,j3,j4⟩ :=hI
   simp only at j1 j2 j3 j4
   dsimp only [lp_Si_11,m_Si_11]
   rw [if_pos (by simp;omega)]
   obtain ⟨x1,c1,b1,z1,e1,hx1,hc1⟩ :=pick_ok (s:=z) j1 (by omega) 3000
   rw [e1]
   simp only [Option.bind_some]
   obtain ⟨x2,c2,b2,z2,e2,hx2,hc2⟩ :=pick_ok (s:=z1) hc1 (by omega) 2
   rw [e2]
   simp only [Option.bind_some]
   obtain ⟨x3,c3,b3,z3,e3,hx3,hc3⟩ :=pick_ok (s:=z2) hc2 (by omega) 9000
   rw [e3]
   simp only [Option.bind_some]
   obtain ⟨x4,c4,b4,z4,e4,hx4,hc4⟩ :=pick_in (s:=z3) hc3 (by omega) (p:=4) (by omega)
   rw [e4]
   simp only [Option.bind_some]
   obtain ⟨m,hm⟩:∃ m:Nat,w64 (1+x4)=m:=⟨(1+x4).toNat,by rw [w64_id (by omega) (by omega)];omega⟩
   have hm4:1≤m∧m≤4:=by rw [w64_id (by omega) (by omega)] at hm;omega
   rw [hm]
   obtain ⟨c5,b5,z5,ls,e5,hc5,hl5,hn5⟩ :=lines_ok n i l m hm4.2 (s:=z4) hc4 (by omega) (w64 (t+w64 (x1*x2))) (w64 (t+w64 (x1*x2))) (w64 (w64 (w64 (t+w64 (x1*x2))+1)+x3))
   rw [e5]
   simp only [Option.bind_some,m_Si_44]
   rw [ck_eq (by simp;omega)]
   simp only [Option.bind_some]
   rw [w64_succ (by omega)]
   refine ⟨(_,c5,b5,z5,_),rfl,hc5.le (by omega),by simp;omega,⟨by simp;omega,fun x hx=>?_⟩,fun x hx=>?_⟩
   ·rw [List.mem_append,List.mem_singleton] at hx
    rcases hx with h1 | h1
    ·exact j3.2 x h1
    ·rw [h1];exact hl5
   ·simp only [List.mem_append,List.mem_singleton] at hx
    rcases hx with h1 | h1
    ·exact j4 x h1
    ·rw [h1];show 1≤ls.length∧ls.length≤4;omega))
  (fun y hI=>by
   obtain ⟨t,c,b,z,l⟩ :=y
   obtain ⟨j1,j2,j3,j4⟩ :=hI
   refine ⟨(c,b,z,l),?_,j1.le (by omega),j3,j4⟩
   dsimp only [lp_Si_11,m_Si_11]
   rw [if_neg (by simp;omega)]) (s:=(x0,c0,b0,z0,[])) ⟨hc0,rfl,⟨by simp,fun y hy=>by simp at hy⟩,fun y hy=>by simp at hy⟩
 have g1' : loopM (lp_Si_11 n) (x0,0,c0,b0,z0,([]:List Za))=some e:=g1
 rw [g1']
 exact ⟨_,_,_,_,rfl,g3,g2⟩
theorem cues43_ok {k:Nat} {co:List Int} {a s:Int} (h:CurAt k co a) (hk:k < 100000000) (f t:Int) {ls:List ByteArray} (hls:LineOk ls) {l:List Za} (hl:CuesOk l) (h0:0 < l.length):Drawn (m_Se_43 co a s f t ls l) (k+3) CuesOk:=by
 dsimp only [m_Se_43]
 obtain ⟨x,c1,b1,z1,e1,hx,hc1⟩ :=pick_in (s:=s) h (by omega) (p:=(l.length:Int)) (by omega)
 rw [e1]
 simp only [Option.bind_some]
 obtain ⟨y,e2,_⟩ :=rd_at_in (l:=l) hx.1 hx.2
 rw [e2]
 exact ⟨_,_,_,_,rfl,hl.set hls _,hc1⟩
theorem cues12_ok {k:Nat} {co:List Int} {a s:Int} (h:CurAt k co a) (hk:k < 10000000) {l:List Za} (hl:CuesOk l) (h1l:∀ c ∈ l,1≤c.lines.length∧c.lines.length≤4):Drawn (m_Se_12 co a s l) (k+100) CuesOk:=by
 dsimp only [m_Se_12]
 obtain ⟨x0,c0,b0,z0,e0,hx0,hc0⟩ :=one_ok (s:=s) h (by omega) 4
 rw [e0]
 simp only [Option.bind_some]
 have hf:Drawn (m_Se_15 (x0,⟨c0,b0,z0⟩) l false) (k+100) CuesOk:=⟨_,_,_,_,rfl,hl,hc0.le (by omega)⟩
 split
 ·by_cases h0:0 < l.length
  ·rw [show decide ((l.length:Int) > 0)=true by simpa using h0]
   dsimp only [m_Se_15]
   rw [if_pos rfl]
   obtain ⟨x1,c1,b1,z1,e1,hx1,hc1⟩ :=pick_in (s:=z0) hc0 (by omega) (p:=(l.length:Int)) (by omega)
   rw [e1]
   simp only [Option.bind_some]
   obtain ⟨cu,e2,m2⟩ :=rd_at_in (l:=l) hx1.1 hx1.2
   rw [e2]
   simp only [Option.bind_some]
   obtain ⟨x3,c3,b3,z3,e3,hx3,hc3⟩ :=pick_ok (s:=z1) hc1 (by omega) 6
   rw [e3]
   simp only [Option.bind_some]
   have hcu:=hl.2 cu m2
   have hcl:=h1l cu m2
   have fin:∀ {m:Nat} {c:List Int} {b z f t:Int} {ls:List ByteArray} {l' : List Za},CurAt m c b→m+3≤k+100→LineOk ls→CuesOk l'→0 < l'.length→Drawn (m_Se_43 c b z f t ls l') (k+100) CuesOk:=by
    intro m c b z f t ls l' hc hm hls hl' h0'
    obtain ⟨v,co',a',s',e,hv,hc'⟩ :=cues43_ok (s:=z) hc (by omega) f t hls hl' h0'
    exact ⟨v,co',a',s',e,hv,hc'.le hm⟩
   split
   ·exact fin hc3 (by omega) hcu hl h0
   ·split
    ·rw [ck_eq (by simp;omega)]
     simp only [Option.bind_some]
     exact fin hc3 (by omega) (hcu.snoc rfl (by omega) (by show 7≤400;omega)) hl h0
    ·split
     ·obtain ⟨x4,c4,b4,z4,e4,hx4,hc4⟩ :=pick_in (s:=z3) hc3 (by omega) (p:=6) (by omega)
      rw [e4]
      simp only [Option.bind_some]
      obtain ⟨y,e5,m5⟩ :=rd_at_in (l:=([(ByteArray.mk #[]),(ByteArray.mk #[101,110,100,32]),(ByteArray.mk #[97,9,98]),(ByteArray.mk #[32,32,108,101,100]),(ByteArray.mk #[45,45]),(ByteArray.mk #[45,62])]:List ByteArray)) hx4.1 (by simp;omega)
      rw [e5]
      simp only [Option.bind_some]
      obtain ⟨y0,e6,_⟩ :=rd_at_in (l:=cu.lines) (x:=0) (by omega) (by omega)
      rw [e6]
      simp only [Option.bind_some]
      have hy:y.size≤400:=by
       simp only [List.mem_cons,List.not_mem_nil,or_false] at m5
       rcases m5 with rfl | rfl | rfl | rfl | rfl | rfl
       ·show 0≤400;omega
       ·show 4≤400;omega
       ·show 3≤400;omega
       ·show 5≤400;omega
       ·show 2≤400;omega
       ·show 2≤400;omega
      exact fin hc4 (by omega) (hcu.set hy _) (hl.set (hcu.set hy _) _) (by simpa using h0)
     ·split
      ·exact fin hc3 (by omega) ⟨by simp,fun y hy=>by simp at hy⟩ hl h0
      ·split
       ·exact fin hc3 (by omega) hcu hl h0
       ·obtain ⟨x4,c4,b4,z4,e4,hx4,hc4⟩ :=pick_ok (s:=z3) hc3 (by omega) 2
        rw [e4]
        simp only [Option.bind_some]
        exact fin hc4 (by omega) hcu hl h0
  ·rw [show decide ((l.length:Int) > 0)=false by simpa using h0]
   exact hf
 ·exact hf
theorem l15cues_ok (l:List Int) (hb:∀ x ∈ l,0≤x∧x≤255):Drawn (m_Se l) 5000000 CuesOk:=by
 dsimp only [m_Se,m_Se_0]
 have hc:CurAt 0 l 0:=⟨hb,by omega,by omega⟩
 obtain ⟨x0,c0,b0,z0,e0,hx0,hc0⟩ :=pick_in (s:=0) hc (by omega) (p:=8) (by omega)
 rw [e0]
 simp only [Option.bind_some]
 obtain ⟨x1,c1,b1,z1,e1,hx1,hc1⟩ :=cues_ok (s:=z0) hc0 (by omega) x0 (by omega)
 rw [e1]
 simp only [Option.bind_some]
 obtain ⟨x2,c2,b2,z2,e2,hx2,hc2⟩ :=one_ok (s:=z1) hc1 (by omega) 40
 rw [e2]
 simp only [Option.bind_some]
 split
 ·obtain ⟨x3,c3,b3,z3,e3,hx3,hc3⟩ :=pick_in (s:=z2) hc2 (by omega) (p:=2) (by omega)
  rw [e3]
  simp only [Option.bind_some]
  obtain ⟨x4,c4,b4,z4,e4,hx4,hc4⟩ :=cues_ok (s:=z3) hc3 (by omega) (w64 (200+x3)) (by rw [w64_id (by omega) (by omega)];omega)
  rw [e4]
  simp only [Option.bind_some]
  obtain ⟨v,c5,b5,z5,e5,hx5,hc5⟩ :=cues12_ok (s:=z4) hc4 (by omega) hx4.1 hx4.2
  exact ⟨v,c5,b5,z5,e5,hx5,hc5.le (by omega)⟩
 ·obtain ⟨v,c5,b5,z5,e5,hx5,hc5⟩ :=cues12_ok (s:=z2) hc2 (by omega) hx1.1 hx1.2
  exact ⟨v,c5,b5,z5,e5,hx5,hc5.le (by omega)⟩
end Go.Proofs.V

namespace Go.Proofs.V
open Go
theorem good_sorted (p:List Za) (hs:∀ c ∈ p,Sm_S_Cue c) (hl:p.length≤200) (hg:m_Ia p=some true):∀ (j:Nat) (x y:Za),p[j]? = some x→p[j+1]? = some y→x.from_≤y.from_:=by
 have key:=loopM_inv (b:=lp_Ia_15 p) (fun i (s:Unit)=>(i:Int)) p.length (fun i _=>∀ (j:Nat) (x y:Za),j+1 < i→p[j]? = some x→p[j+1]? = some y→x.from_≤y.from_) (fun e=>e = .inl false∨e = .inr ()∧∀ (j:Nat) (x y:Za),p[j]? = some x→p[j+1]? = some y→x.from_≤y.from_) ?_ ?_ (s:=()) (by intro j x y hj;omega)
 ·obtain ⟨e,he,h1⟩ :=key
  have he' : loopM (lp_Ia_15 p) (0:Int)=some e:=he
  rcases h1 with rfl | ⟨rfl,h2⟩
  ·simp only [m_Ia,m_Ia_0] at hg
   rw [if_neg (by simp;omega),he'] at hg
   simp at hg
  ·exact h2
 ·rintro i s hi h1
  have hx:=hs _ (List.getElem_mem hi)
  simp only [lp_Ia_15,m_Ia_15]
  rw [if_pos (by simp;omega),rd_eq hi]
  simp only [Option.bind_some]
  have hpi:p[i]? = some p[i]:=by simp [hi]
  generalize hc:p[i]=c at hx hpi ⊢
  rw [time_eq,time_eq,z_cue c hx.1 hx.2]
  simp only [Option.bind_some]
  by_cases h2:0≤c.from_∧c.from_≤359999999
  ·rw [if_pos (by simpa using h2)]
   by_cases h3:0≤c.to_∧c.to_≤359999999
   ·rw [if_pos (by simpa using h3)]
    by_cases h4:c.from_≥c.to_
    ·rw [if_pos (by simpa using h4)]
     exact .inr ⟨_,rfl,.inl rfl⟩
    ·rw [if_neg (by simpa using h4)]
     cases h5:(c.lines.all okL&&decide (1≤c.lines.length∧c.lines.length≤4)) with
     | false=>exact .inr ⟨_,rfl,.inl rfl⟩
     | true=>
      rw [if_pos rfl]
      by_cases h6:(i:Int) > 0
      ·rw [if_pos (by simpa using h6),w64_id (by omega) (by omega),rd_eq' (i:=i - 1) (by omega) (by omega)]
       simp only [Option.bind_some]
       by_cases h7:c.from_ < (p[i - 1]'(by omega)).from_
       ·rw [if_pos (by simpa using h7)]
        exact .inr ⟨_,rfl,.inl rfl⟩
       ·rw [if_neg (by simpa using h7),w64_succ (by omega)]
        refine .inl ⟨(),rfl,fun j x y hj hxj hyj=>?_⟩
        by_cases hji:j+1=i
        ·rw [hji,hpi] at hyj
         obtain rfl:=Option.some.inj hyj
         rw [show j=i - 1 by omega,List.getElem?_eq_getElem (by omega)] at hxj
         obtain rfl:=Option.some.inj hxj
         omega
        ·exact h1 j x y (by omega) hxj hyj
      ·rw [if_neg (by simpa using h6),w64_succ (by omega)]
       exact .inl ⟨(),rfl,fun j x y hj=>by omega⟩
   ·rw [if_neg (by simpa using h3)]
    exact .inr ⟨_,rfl,.inl rfl⟩
  ·rw [if_neg (by simpa using h2)]
   exact .inr ⟨_,rfl,.inl rfl⟩
 ·rintro s h1
  refine ⟨.inr (),?_,.inr ⟨rfl,fun j x y hx hy=>h1 j x y ?_ hx hy⟩⟩
  ·simp only [lp_Ia_15,m_Ia_15]
   rw [if_neg (by simp)]
  ·exact (List.getElem?_eq_some_iff.1 hy).1
theorem sorted_le (p:List Za) (h:∀ (j:Nat) (x y:Za),p[j]? = some x→p[j+1]? = some y→x.from_≤y.from_):∀ (d k:Nat) (x y:Za),p[k]? = some x→p[k+d]? = some y→x.from_≤y.from_
 | 0,k,x,y,hx,hy=>by
  rw [Nat.add_zero,hx] at hy
  obtain rfl:=Option.some.inj hy
  exact Int.le_refl _
 | d+1,k,x,y,hx,hy=>by
  have hlt:=(List.getElem?_eq_some_iff.1 hy).1
  have hm:p[k+d]? = some (p[k+d]'(by omega)):=List.getElem?_eq_getElem _
  have h1:=sorted_le p h d k x _ hx hm
  have h2:=h (k+d) _ y hm hy
  omega
def sumL (l:List Za):Nat:=(l.map fun c=>c.lines.length).sum
theorem sumL_snoc (p:List Za) {i:Nat} (hi:i < p.length):sumL (p.take (i+1))=sumL (p.take i)+p[i].lines.length:=by
 unfold sumL
 rw [List.take_succ_eq_append_getElem hi,List.map_append,List.sum_append]
 simp
theorem sumL_mono (p:List Za):∀ (d k:Nat),sumL (p.take k)≤sumL (p.take (k+d))
 | 0,k=>Nat.le_refl _
 | d+1,k=>by
  have ih:=sumL_mono p d k
  by_cases h:k+d < p.length
  ·have:=sumL_snoc p h
   rw [←Nat.add_assoc,this];omega
  ·rw [List.take_of_length_le (l:=p) (i:=k+(d+1)) (by omega)]
   rw [List.take_of_length_le (l:=p) (i:=k+d) (by omega)] at ih
   exact ih
theorem firstF_true (f:Nat→Bool):∀ m:Nat,0≤firstF f m→f (firstF f m).toNat=true:=by
 intro m
 induction m with
 | zero=>intro h;simp [firstF] at h
 | succ m ih=>
  rw [firstF]
  split
  ·intro h;exact ih h
  ·split
   ·rename_i h;intro _;simpa using h
   ·intro h;omega
theorem firstF_le (f:Nat→Bool):∀ (m r:Nat),r < m→f r=true→0≤firstF f m∧firstF f m≤r:=by
 intro m
 induction m with
 | zero=>intro r h;omega
 | succ m ih=>
  intro r h hf
  rw [firstF]
  by_cases hr:r < m
  ·have:=ih r hr hf
   rw [if_pos this.1];exact this
  ·obtain rfl:r=m:=by omega
   split
   ·rename_i h1
    have:=firstF_rng f r
    omega
   ·first | omega | (rw [if_pos hf];omega)
theorem freeB_iff (taken:List Bool) (n r:Nat):freeB taken n r=true↔∀ k,k < n→taken.getD (r+k) false=false:=by
 unfold freeB
 induction n with
 | zero=>simp
 | succ n ih=>
  rw [List.range_succ,List.foldl_append]
  simp only [List.foldl_cons,List.foldl_nil,Bool.and_eq_true,Bool.not_eq_true']
  rw [ih]
  constructor
  ·rintro ⟨h1,h2⟩ k hk
   by_cases hkn:k=n
   ·subst hkn;exact h2
   ·exact h1 k (by omega)
  ·intro h
   exact ⟨fun k hk=>h k (by omega),h n (by omega)⟩
def tkB (p:List Za) (out:List Int) (x:Za) (k r:Nat):Prop:=∃ y v,p[k]? = some y∧out[k]? = some v∧0≤v∧y.from_≤x.from_∧x.from_ < y.to_∧v≤r∧(r:Int) < v+y.lines.length
theorem getD_setT2 (l:List Bool) (i j:Nat) (hi:i < l.length):(l.set i true).getD j false=true↔l.getD j false=true∨j=i:=by
 rw [List.getD_eq_getElem?_getD,List.getElem?_set,List.getD_eq_getElem?_getD]
 by_cases h:i=j
 ·subst h
  simp [hi]
 ·rw [if_neg h]
  constructor
  ·exact .inl
  ·rintro (h1 | h1)
   ·exact h1
   ·exact absurd h1.symm h
theorem taken_loop2 (p:List Za) (rows i:Nat) (x:Za) (out:List Int) (hc:∀ c ∈ p,gCue c) (hi:i≤p.length) (hp:p.length≤200) (hI:RInv p rows i out) (hrows:rows≤100) :
  ∃ taken,loopM (lp_Ib_34 p rows i x out) (0,List.replicate rows false)=some taken∧taken.length=rows∧∀ r,taken.getD r false=true↔∃ k,k < i∧tkB p out x k r:=by
 have key:=loopM_inv (b:=lp_Ib_34 p rows i x out) (fun j (s:List Bool)=>((j:Int),s)) i (fun j s=>s.length=rows∧∀ r,s.getD r false=true↔∃ k,k < j∧tkB p out x k r) (fun e=>e.length=rows∧∀ r,e.getD r false=true↔∃ k,k < i∧tkB p out x k r) ?_ ?_ (s:=List.replicate rows false) ⟨by simp,fun r=>by
  rw [List.getD_eq_getElem?_getD,List.getElem?_replicate]
  constructor
  ·intro h;split at h <;> simp at h
  ·rintro ⟨k,hk,_⟩;omega⟩
 ·exact key
 ·intro j s hj ⟨hs,hch⟩
  obtain ⟨h1,h2⟩ :=hI
  have hjo:j < out.length:=by omega
  have hjp:j < p.length:=by omega
  have hpj:p[j]? = some p[j]:=by simp [hjp]
  have hoj:out[j]? = some out[j]:=by simp [hjo]
  have h64:∀ l:List Bool,l.length=rows→(∀ r,l.getD r false=true↔s.getD r false=true∨tkB p out x j r)→(∃ s',m_Ib_64 p rows i j x out l=some (.inl (((j+1:Nat):Int),s'))∧s'.length=rows∧∀ r,s'.getD r false=true↔∃ k,k < j+1∧tkB p out x k r):=by
   intro l hl hr
   unfold m_Ib_64
   rw [w64_succ (by omega)]
   refine ⟨l,rfl,hl,fun r=>?_⟩
   rw [hr,hch]
   constructor
   ·rintro (⟨k,hk,h⟩ | h)
    ·exact ⟨k,by omega,h⟩
    ·exact ⟨j,by omega,h⟩
   ·rintro ⟨k,hk,h⟩
    by_cases hkj:k=j
    ·subst hkj;exact .inr h
    ·exact .inl ⟨k,by omega,h⟩
  simp only [lp_Ib_34,m_Ib_34]
  rw [if_pos (by simp;omega),rd_eq hjo,rd_eq hjp]
  simp only [Option.bind_some]
  have hv:=h2 j p[j] out[j] (by simp [hjp]) (by simp [hjo])
  have hx:=hc _ (List.getElem_mem hjp)
  have hro:rd out (j:Int)=some out[j]:=rd_eq hjo
  have hrp:rd p (j:Int)=some p[j]:=rd_eq hjp
  generalize p[j]=y at hv hx hpj hrp ⊢
  generalize out[j]=v at hv hoj hro ⊢
  have no : ¬ (0≤v∧y.from_≤x.from_∧x.from_ < y.to_)→∃ s',m_Ib_46 p rows j i x out s false=some (.inl (((j+1:Nat):Int),s'))∧s'.length=rows∧∀ r,s'.getD r false=true↔∃ k,k < j+1∧tkB p out x k r:=by
   intro hn
   unfold m_Ib_46
   rw [if_neg (by simp)]
   refine h64 s hs fun r=>⟨.inl,?_⟩
   rintro (h | ⟨y',v',e1,e2,a1,a2,a3,_,_⟩)
   ·exact h
   ·rw [hpj] at e1
    rw [hoj] at e2
    obtain rfl:=Option.some.inj e1
    obtain rfl:=Option.some.inj e2
    exact absurd ⟨a1,a2,a3⟩ hn
  left
  by_cases h3:v≥0
  ·obtain ⟨m,rfl⟩:∃ m:Nat,v=(m:Int):=⟨v.toNat,by omega⟩
   rw [if_pos (by simp)]
   by_cases h4:y.from_≤x.from_
   ·rw [if_pos (by simpa using h4)]
    by_cases h5:x.from_ < y.to_
    ·rw [show decide (x.from_ < y.to_)=true by simpa using h5]
     unfold m_Ib_46
     rw [if_pos rfl,hrp]
     simp only [Option.bind_some]
     have key2:=loopM_inv (b:=lp_Ib_51 p rows j i y x out) (fun k (s:List Bool)=>((k:Int),s)) y.lines.length (fun k t=>t.length=rows∧∀ r:Nat,t.getD r false=true↔s.getD r false=true∨(m≤r∧r < m+k)) (fun t=>t.length=rows∧∀ r:Nat,t.getD r false=true↔s.getD r false=true∨(m≤r∧r < m+y.lines.length)) ?_ ?_ (s:=s) ⟨hs,fun r=>by
      constructor
      ·exact .inl
      ·rintro (h | ⟨_,_⟩)
       ·exact h
       ·omega⟩
     ·obtain ⟨e,he,hl,hr⟩ :=key2
      have he' : loopM (lp_Ib_51 p rows j i y x out) ((0:Int),s)=some e:=he
      rw [he']
      refine h64 e hl fun r=>?_
      rw [hr]
      constructor
      ·rintro (h | ⟨h6,h7⟩)
       ·exact .inl h
       ·exact .inr ⟨y,m,hpj,hoj,h3,h4,h5,by omega,by omega⟩
      ·rintro (h | ⟨y',v',e1,e2,_,_,_,h6,h7⟩)
       ·exact .inl h
       ·rw [hpj] at e1
        rw [hoj] at e2
        obtain rfl:=Option.some.inj e1
        obtain rfl:=Option.some.inj e2
        exact .inr ⟨by omega,by omega⟩
     ·intro k t hk ⟨ht,hr⟩
      left
      have hk4:=hx.2.2.2.2
      simp only [lp_Ib_51,m_Ib_51]
      rw [if_pos (by simp;omega),hro]
      simp only [Option.bind_some]
      rw [w64_id (by omega) (by omega),rd_eq' (i:=m+k) (by omega) (by omega),w64_succ (by omega),show 0+Int.toNat ((m:Int)+(k:Int))=m+k by omega]
      refine ⟨_,rfl,by simpa using ht,fun r=>?_⟩
      rw [getD_setT2 _ _ _ (by omega),hr]
      constructor
      ·rintro ((h | h) | h)
       ·exact .inl h
       ·exact .inr (by omega)
       ·exact .inr (by omega)
      ·rintro (h | h)
       ·exact .inl (.inl h)
       ·by_cases h8:r < m+k
        ·exact .inl (.inr ⟨h.1,h8⟩)
        ·exact .inr (by omega)
     ·intro t ht
      refine ⟨t,?_,ht⟩
      simp only [lp_Ib_51,m_Ib_51]
      rw [if_neg (by simp)]
    ·rw [show decide (x.from_ < y.to_)=false by simpa using h5]
     exact no fun h=>h5 h.2.2
   ·rw [if_neg (by simpa using h4)]
    exact no fun h=>h4 h.2.1
  ·rw [if_neg (by simpa using h3)]
   exact no fun h=>h3 h.1
 ·intro s hs
  refine ⟨s,?_,hs⟩
  simp only [lp_Ib_34,m_Ib_34]
  rw [if_neg (by simp)]
def RKeep (p:List Za) (rows:Nat) (out:List Int) (j:Nat) (x:Za) (v:Int):Prop:=
 (v = -1∨0≤v∧v+x.lines.length≤rows)∧v+x.lines.length≤sumL (p.take (j+1))∧(sumL p≤rows→0≤v)∧
 (0≤v→∀ k y u,k < j→p[k]? = some y→out[k]? = some u→0≤u→y.from_≤x.from_→x.from_ < y.to_→u+y.lines.length≤v∨v+x.lines.length≤u)
def RInv3 (p:List Za) (rows i:Nat) (out:List Int):Prop:=out.length=i∧∀ (j:Nat) (x:Za) (v:Int),p[j]? = some x→out[j]? = some v→RKeep p rows out j x v
theorem RInv3.weak {p:List Za} {rows i:Nat} {out:List Int} (h:RInv3 p rows i out):RInv p rows i out:=⟨h.1,fun j x v h1 h2=>(h.2 j x v h1 h2).1⟩
theorem row_step3 (p:List Za) (rows i:Nat) (out:List Int) (hc:∀ c ∈ p,gCue c) (hi:i < p.length) (hp:p.length≤200) (hI:RInv3 p rows i out) (hrows:rows≤100) :
  ∃ out',lp_Ib_17 p rows ((i:Int),out)=some (.inl (((i+1:Nat):Int),out'))∧RInv3 p rows (i+1) out':=by
 have hx:=hc _ (List.getElem_mem hi)
 have hpx:p[i]? = some p[i]:=by simp [hi]
 have hsum:=sumL_snoc p hi
 simp only [lp_Ib_17,m_Ib_17]
 rw [if_pos (by simp;omega),rd_eq hi]
 simp only [Option.bind_some]
 generalize p[i]=x at hx hpx hsum ⊢
 rw [ck_eq (by omega)]
 simp only [Option.bind_some,Int.toNat_natCast]
 obtain ⟨taken,ht,hl,hch⟩ :=taken_loop2 p rows i x out hc (by omega) hp hI.weak hrows
 rw [ht]
 simp only [Option.bind_some,m_Ib_65]
 have hn4:=hx.2.2.2.2
 obtain ⟨M,hM,hM2⟩:∃ M:Nat,(∀ r:Nat,r+x.lines.length≤rows↔r < M)∧M≤101:=⟨rows+1 - x.lines.length,fun r=>by omega,by omega⟩
 have hup:=up_loop p rows i x out taken x.lines.length M rfl hn4 hM hM2 hl hrows M 0 (by omega) rfl
 have hup' : loopM (lp_Ib_72 p rows i x out taken) (-1,0)=some (firstF (freeB taken x.lines.length) M):=hup
 have hrng:=firstF_rng (freeB taken x.lines.length) M
 have htrue:=firstF_true (freeB taken x.lines.length) M
 have hle:=firstF_le (freeB taken x.lines.length) M
 rw [hup']
 simp only [Option.bind_some,m_Ib_105]
 have hS:freeB taken x.lines.length (sumL (p.take i))=true:=by
  rw [freeB_iff]
  intro k hk
  cases hq:taken.getD (sumL (p.take i)+k) false with
  | false=>rfl
  | true=>
   obtain ⟨j,hj,y,v,e1,e2,a1,a2,a3,a4,a5⟩ :=(hch _).1 hq
   have h5:=(hI.2 j y v e1 e2).2.1
   have h6:=sumL_mono p (i - (j+1)) (j+1)
   rw [show j+1+(i - (j+1))=i by omega] at h6
   omega
 have hall:=sumL_mono p (p.length - (i+1)) (i+1)
 rw [show i+1+(p.length - (i+1))=p.length by omega,List.take_length] at hall
 generalize firstF (freeB taken x.lines.length) M=v at hrng htrue hle
 obtain ⟨h1,h2⟩ :=hI
 rw [ck_eq (by simp;omega),w64_succ (by omega)]
 have happ:∀ {k:Nat} {u:Int},k < i→(out++[v])[k]? = some u→out[k]? = some u:=by
  intro k u hk h
  rw [List.getElem?_append_left (by omega)] at h
  exact h
 refine ⟨_,rfl,by simp;omega,?_⟩
 intro j y u hy hu
 by_cases hj:j=i
 ·subst hj
  rw [List.getElem?_append_right (by omega),h1,Nat.sub_self] at hu
  obtain rfl:v=u:=by simpa using hu
  obtain rfl:x=y:=by simpa using hpx.symm.trans hy
  have hMv:0≤v→v+x.lines.length≤rows:=by
   intro h0
   have:=(hM v.toNat).2 (by omega)
   omega
  refine ⟨?_,?_,?_,?_⟩
  ·rcases hrng with h | ⟨h3,h4⟩
   ·exact .inl h
   ·exact .inr ⟨h3,hMv h3⟩
  ·by_cases hSM:sumL (p.take j) < M
   ·have:=hle _ hSM hS
    omega
   ·have h7:=hM (sumL (p.take j))
    rcases hrng with h | ⟨h3,_⟩
    ·omega
    ·have:=hMv h3;omega
  ·intro hR
   have h7:=(hM (sumL (p.take j))).1 (by omega)
   exact (hle _ h7 hS).1
  ·intro h0 k y u hk hyk huk hu0 hf1 hf2
   have huk':=happ hk huk
   have hfr:=htrue h0
   rw [freeB_iff] at hfr
   by_cases hA:u+y.lines.length≤v
   ·exact .inl hA
   ·by_cases hB:v+x.lines.length≤u
    ·exact .inr hB
    ·exfalso
     have hgy:=(hc y (List.mem_of_getElem? hyk)).2.2.2.1
     have hgx:=hx.2.2.2.1
     obtain ⟨r,hr1,hr2,hr3,hr4⟩:∃ r:Nat,u≤r∧(r:Int) < u+y.lines.length∧v≤r∧(r:Int) < v+x.lines.length:=by
      by_cases huv:u≤v
      ·exact ⟨v.toNat,by omega,by omega,by omega,by omega⟩
      ·exact ⟨u.toNat,by omega,by omega,by omega,by omega⟩
     have h8:=hfr (r - v.toNat) (by omega)
     rw [show v.toNat+(r - v.toNat)=r by omega] at h8
     have h9:=(hch r).2 ⟨k,hk,y,u,hyk,huk',hu0,hf1,hf2,hr1,hr2⟩
     rw [h8] at h9
     simp at h9
 ·have hj2:j < out.length:=by
   have:=(List.getElem?_eq_some_iff.1 hu).1
   simp at this
   omega
  have hu':=happ (by omega) hu
  obtain ⟨k1,k2,k3,k4⟩ :=h2 j y u hy hu'
  exact ⟨k1,k2,k3,fun h0 k z t hk hz ht=>k4 h0 k z t hk hz (happ (by omega) ht)⟩
theorem rows_inv (p:List Za) (r:Int) (hs:∀ c ∈ p,Sm_S_Cue c) {w:List Int} (hw:m_Ib p r=some w):w=[]∨(m_Ia p=some true∧(p.length≤200∧∀ c ∈ p,gCue c)∧∃ rows:Nat,r=rows∧1≤rows∧rows≤100∧RInv3 p rows p.length w):=by
 simp only [m_Ib,m_Ib_0] at hw
 obtain ⟨b,hb,hg⟩ :=good_some p hs
 rw [hb] at hw
 simp only [Option.bind_some] at hw
 cases b with
 | false=>simp only [Bool.false_eq_true,if_false] at hw;exact .inl (Option.some.inj hw).symm
 | true=>
  obtain ⟨hl,hc⟩ :=hg rfl
  simp only [if_true] at hw
  by_cases h1:r < 1
  ·simp only [h1,decide_true,if_true] at hw;exact .inl (Option.some.inj hw).symm
  by_cases h2:r > 100
  ·simp only [h1,h2,decide_true,decide_false,Bool.false_eq_true,if_false,if_true] at hw;exact .inl (Option.some.inj hw).symm
  simp only [h1,h2,decide_true,decide_false,Bool.false_eq_true,if_false,if_true] at hw
  obtain ⟨rows,rfl⟩:∃ rows:Nat,r=rows:=⟨r.toNat,by omega⟩
  have key:∀ (d i:Nat) (out:List Int),i+d=p.length→RInv3 p rows i out→∃ w,loopM (lp_Ib_17 p rows) ((i:Int),out)=some w∧RInv3 p rows p.length w:=by
   intro d
   induction d with
   | zero=>
    intro i out hi hI
    obtain rfl:i=p.length:=by omega
    refine ⟨out,?_,hI⟩
    rw [loopM_eq]
    simp only [lp_Ib_17,m_Ib_17]
    rw [if_neg (by simp)]
   | succ d ih=>
    intro i out hi hI
    obtain ⟨out',e2,e3⟩ :=row_step3 p rows i out hc (by omega) hl hI (by omega)
    obtain ⟨w,g2,g3⟩ :=ih (i+1) out' (by omega) e3
    exact ⟨w,by rw [loopM_eq,e2];exact g2,g3⟩
  obtain ⟨w',g2,g3⟩ :=key p.length 0 [] (by omega) ⟨rfl,by intro j x v hx hv;simp at hv⟩
  have g2' : loopM (lp_Ib_17 p rows) ((0:Int),([]:List Int))=some w':=g2
  rw [g2'] at hw
  have:w' = w:=by simpa [m_Ib_107] using hw
  subst this
  exact .inr ⟨hb,⟨hl,hc⟩,rows,rfl,by omega,by omega,g3⟩
end Go.Proofs.V

namespace Go.Proofs.V
end Go.Proofs.V

namespace Go.Proofs.V
open Go
theorem draw_rows_ok (l:List Int) (hb:∀ x ∈ l,0≤x∧x≤255):∃ c r,m_Sa l=some (c,r)∧CuesOk c:=by
 dsimp only [m_Sa,m_Sa_0]
 obtain ⟨x0,c0,b0,z0,e0,hx0,hc0⟩ :=l15cues_ok l hb
 rw [e0]
 simp only [Option.bind_some]
 obtain ⟨x1,c1,b1,z1,e1,hx1,hc1⟩ :=pick_ok (s:=z0) hc0 (by omega) 12
 rw [e1]
 simp only [Option.bind_some]
 obtain ⟨x2,c2,b2,z2,e2,hx2,hc2⟩ :=one_ok (s:=z1) hc1 (by omega) 12
 rw [e2]
 simp only [Option.bind_some]
 split
 ·obtain ⟨x3,c3,b3,z3,e3,hx3,hc3⟩ :=pick_in (s:=z2) hc2 (by omega) (p:=3) (by omega)
  rw [e3]
  simp only [Option.bind_some]
  obtain ⟨y,e4,_⟩ :=rd_at_in (l:=([0,100,101]:List Int)) hx3.1 (by simp;omega)
  rw [e4]
  exact ⟨_,_,rfl,hx0⟩
 ·exact ⟨_,_,rfl,hx0⟩
theorem wInts_self (w:List Int) (hw:w.length≤1048576):m_La w w=some true:=by
 simp only [m_La,m_La_0]
 have h:=eq_list (n:=w.length) (b:=lp_La_15 w w) (fun i hi=>by
  simp only [lp_La_15,m_La_15]
  rw [if_pos (by simpa using hi),rd_eq hi]
  simp only [Option.bind_some]
  rw [if_neg (by simp),w64_succ (by omega)]) (by
  simp only [lp_La_15,m_La_15]
  rw [if_neg (by simp)])
 rw [if_neg (by simp),h]
 rfl
theorem law_pairs (p:List Za) (rows:Nat) (w:List Int) (hc:∀ c ∈ p,gCue c) (hp:p.length≤200) (hr:rows≤100) (hI:RInv3 p rows p.length w) (hso:∀ (j:Nat) (x y:Za),p[j]? = some x→p[j+1]? = some y→x.from_≤y.from_) (i:Nat) (hi:i < p.length) (h0:0≤w.getD i 0) :
  loopM (lp_laws_FnRoomy_63 (p,(rows:Int)) i w) 0=some (.inl ()):=by
 obtain ⟨hl,hk⟩ :=hI
 have hwi:w[i]? = some (w.getD i 0):=by rw [List.getD_eq_getElem?_getD,List.getElem?_eq_getElem (by omega)];rfl
 have hpi:p[i]? = some p[i]:=by simp [hi]
 have hgi:=hc _ (List.getElem_mem hi)
 have hki:=hk i _ _ hpi hwi
 have hrwi:rd w (i:Int)=some (w.getD i 0):=rd_d 0 (by omega)
 have hrpi:rd p (i:Int)=some p[i]:=rd_eq hi
 generalize w.getD i 0=v at *
 generalize p[i]=x at *
 refine loopM_fun (b:=lp_laws_FnRoomy_63 (p,(rows:Int)) i w) (fun k (_:Unit)=>(k:Int)) i (fun _=>()) (e:=.inl ()) (fun k hk2=>?_) ?_
 ·have hkp:k < p.length:=by omega
  have hwk:w[k]? = some w[k]:=by simp [show k < w.length by omega]
  have hpk:p[k]? = some p[k]:=by simp [hkp]
  have hgk:=hc _ (List.getElem_mem hkp)
  have hkk:=(hk k _ _ hpk hwk).1
  have hrwk:rd w (k:Int)=some w[k]:=rd_eq (by omega)
  have hrpk:rd p (k:Int)=some p[k]:=rd_eq hkp
  have hle:p[k].from_≤x.from_:=sorted_le p hso (i - k) k _ _ hpk (by rw [show k+(i - k)=i by omega];exact hpi)
  generalize w[k]=u at *
  generalize p[k]=y at *
  simp only [lp_laws_FnRoomy_63,m_laws_FnRoomy_63]
  rw [if_pos (by simpa using hk2),hrwk,hrpk,hrwi]
  simp only [Option.bind_some]
  have hy4:=hgk.2.2.2
  have hx4:=hgi.2.2.2
  have hv:=hki.1
  have e73:∀ b:Bool,(0≤u→y.to_ > x.from_→b=true)→m_laws_FnRoomy_73 (p,(rows:Int)) i k w b=some (.inl ((k+1:Nat):Int)):=by
   intro b hb
   simp only [m_laws_FnRoomy_73]
   rw [hrwk]
   simp only [Option.bind_some]
   rw [w64_succ (by omega)]
   by_cases hu:u≥0
   ·rw [if_pos (by simpa using hu),hrpk,hrpi]
    simp only [Option.bind_some]
    by_cases ht:y.to_ > x.from_
    ·rw [if_pos (by simpa using ht),hb hu ht,if_pos rfl]
    ·rw [if_neg (by simpa using ht)]
   ·rw [if_neg (by simpa using hu)]
  rw [w64_id (x:=u+(y.lines.length:Int)) (by omega) (by omega)]
  by_cases h1:u+(y.lines.length:Int)≤v
  ·rw [if_pos (by simpa using h1)]
   exact e73 true fun _ _=>rfl
  ·rw [if_neg (by simpa using h1),hrpi]
   simp only [Option.bind_some]
   rw [w64_id (by omega) (by omega)]
   refine e73 _ fun hu ht=>?_
   have:=hki.2.2.2 h0 k y u hk2 hpk hwk hu hle (by omega)
   simp only [decide_eq_true_eq]
   omega
 ·simp only [lp_laws_FnRoomy_63,m_laws_FnRoomy_63]
  rw [if_neg (by simp)]
theorem law_rows (p:List Za) (rows:Nat) (w:List Int) (hc:∀ c ∈ p,gCue c) (hp:p.length≤200) (hr:rows≤100) (hI:RInv3 p rows p.length w) (hso:∀ (j:Nat) (x y:Za),p[j]? = some x→p[j+1]? = some y→x.from_≤y.from_) :
  loopM (lp_laws_FnRoomy_35 (p,(rows:Int)) w) 0=some (.inr ()):=by
 refine loopM_fun (b:=lp_laws_FnRoomy_35 (p,(rows:Int)) w) (fun k (_:Unit)=>(k:Int)) p.length (fun _=>()) (e:=.inr ()) (fun i hi=>?_) ?_
 ·have hl:=hI.1
  have hwi:w[i]? = some (w.getD i 0):=by rw [List.getD_eq_getElem?_getD,List.getElem?_eq_getElem (by omega)];rfl
  have hpi:p[i]? = some p[i]:=by simp [hi]
  have hki:=(hI.2 i _ _ hpi hwi).1
  have hgi:=(hc _ (List.getElem_mem hi)).2.2.2
  have h63:=law_pairs p rows w hc hp hr hI hso i hi
  simp only [lp_laws_FnRoomy_35,m_laws_FnRoomy_35]
  rw [if_pos (by simpa using hi),rd_d 0 (by omega)]
  simp only [Option.bind_some]
  by_cases h0:w.getD i 0 < 0
  ·rw [if_pos (by simpa using h0)]
   simp only [m_laws_FnRoomy_81]
   rw [w64_succ (by omega)]
  ·rw [if_neg (by simpa using h0),rd_eq hi]
   simp only [Option.bind_some]
   rw [w64_id (by omega) (by omega),if_neg (by rw [decide_eq_true_eq];omega),h63 (by omega)]
   simp only [Option.bind_some,m_laws_FnRoomy_81]
   rw [w64_succ (by omega)]
 ·simp only [lp_laws_FnRoomy_35,m_laws_FnRoomy_35]
  rw [if_neg (by simp)]
theorem law_sum (p:List Za) (r:Int) (hc:∀ c ∈ p,gCue c) (hp:p.length≤200):loopM (lp_laws_FnRoomy_89 (p,r)) (0,0)=some ((sumL p:Nat):Int):=by
 have hb:∀ k,k≤p.length→sumL (p.take k)≤4*k:=by
  intro k
  induction k with
  | zero=>intro _;simp [sumL]
  | succ k ih=>
   intro hk
   have:=sumL_snoc p (i:=k) (by omega)
   have h4:=(hc p[k] (List.getElem_mem _)).2.2.2.2
   have:=ih (by omega)
   omega
 have h:=loopM_fun (b:=lp_laws_FnRoomy_89 (p,r)) (fun i (t:Int)=>(t,(i:Int))) p.length (fun i=>((sumL (p.take i):Nat):Int)) (e:=((sumL p:Nat):Int)) (fun i hi=>by
  simp only [lp_laws_FnRoomy_89,m_laws_FnRoomy_89]
  rw [if_pos (by simpa using hi),rd_eq hi]
  simp only [Option.bind_some]
  have:=sumL_snoc p hi
  have h1:=hb (i+1) (by omega)
  rw [w64_succ (by omega),w64_id (by omega) (by omega),this]
  rfl) (by
  simp only [lp_laws_FnRoomy_89,m_laws_FnRoomy_89]
  rw [if_neg (by simp),List.take_length])
 exact h
theorem final_FnRoomy (x0:List Int) (w0:x0.length≤maxLen∧∀ y0 ∈ x0,inK .u8 y0):m_laws_FnRoomy x0=some true:=by
 dsimp only [m_laws_FnRoomy,m_laws_FnRoomy_0]
 by_cases hq:(x0.length:Int) > 1048576
 ·rw [if_pos (by simpa using hq)]
 ·rw [if_neg (by simpa using hq)]
  obtain ⟨c,r,e1,hcu⟩ :=draw_rows_ok x0 (fun x hx=>by
   have:=w0.2 x hx
   exact ⟨this.1,this.2⟩)
  rw [e1]
  simp only [Option.bind_some]
  obtain ⟨w,h1,h2,h3⟩ :=rows_core c r hcu.sm
  rw [h1,h2]
  simp only [Option.bind_some]
  rw [wInts_self w h3]
  simp only [Option.bind_some,if_true]
  by_cases h0:w=[]
  ·rw [if_pos (by simp [h0])]
  ·have hlw:w.length≠0:=by simpa using h0
   rw [if_neg (by simpa using h0)]
   rcases rows_inv c r hcu.sm h2 with hn | ⟨hg,⟨hl,hgc⟩,rows,rfl,hr1,hr2,hI⟩
   ·exact absurd hn h0
   ·have hso:=good_sorted c hcu.sm hl hg
    rw [law_rows c rows w hgc hl hr2 hI hso]
    simp only [Option.bind_some]
    simp only [m_laws_FnRoomy_82]
    rw [law_sum c rows hgc hl]
    simp only [Option.bind_some,m_laws_FnRoomy_101]
    by_cases h100:((sumL c:Nat):Int) > 100
    ·rw [if_pos (by simpa using h100)]
    ·rw [if_neg (by simpa using h100)]
     obtain ⟨w2,_,g2,g3⟩ :=rows_core c ((sumL c:Nat):Int) hcu.sm
     rw [g2]
     simp only [Option.bind_some]
     have hnn:∀ i (hi:i < w2.length),0≤w2[i]:=by
      intro i hi
      rcases rows_inv c _ hcu.sm g2 with hn | ⟨_,_,rows2,hr,_,_,hI2⟩
      ·rw [hn] at hi;simp at hi
      ·have hi2:i < c.length:=by have:=hI2.1;omega
       have:=(hI2.2 i c[i] w2[i] (by simp [hi2]) (by simp [hi])).2.2.1
       exact this (by omega)
     have h:=eq_list (n:=w2.length) (b:=lp_laws_FnRoomy_114 w2) (fun i hi=>by
      simp only [lp_laws_FnRoomy_114,m_laws_FnRoomy_114]
      rw [if_pos (by simpa using hi),rd_eq hi]
      simp only [Option.bind_some]
      have:=hnn i hi
      rw [if_neg (by simp;omega),w64_succ (by omega)]) (by
      simp only [lp_laws_FnRoomy_114,m_laws_FnRoomy_114]
      rw [if_neg (by simp)])
     rw [h]
     rfl
end Go.Proofs.V

namespace Go.Proofs.V
open Go
def c_Sj_7:VC:=
 .ite (.s 13) (.d 3 [(0,M 14 0),
  (1,{op:=.nckv 15 (.s 14)}),
  (2,oG 16 15 0),
  (3,oV 17 16 1),
  (4,M 18 0),
  (5,{op:=.nckv 19 (.s 18)}),
  (6,oG 20 19 1),
  (7,oV 21 20 1),
  (8,oX 22 17 21 1),
  (9,oV 23 22 1),
  (10,{op:=.conv 24 .i64 (.s 23)}),
  (11,M 3 24)]) (.skip)
def c_Sj_17:VC:=
 .ite (.s 53) (.seq (.r 7 [M 54 3,
  M 2 54]) (.ret)) (.skip)
def c_Sj_22:VC:=
 .seq (.r 8 [M 55 0,
  {op:=.nck 56 (.s 55)},
  oF 57 56 2,
  oL 58 57 1,
  {op:=.bin 59 .shr (.s 58) (.k (.int .u64 40))},
  {op:=.bin 60 .and (.s 59) (.k (.int .u64 255))},
  {op:=.conv 61 .i64 (.s 60)},
  M 2 61]) (.ret)
def c_Sj_14:VC:=
 .seq (.seq (.d 6 [(0,M 44 0),
  (1,{op:=.nckv 45 (.s 44)}),
  (2,oG 46 45 1),
  (3,oV 47 46 1),
  (4,M 48 0),
  (5,{op:=.nckv 49 (.s 48)}),
  (6,oG 50 49 0),
  (7,oV 51 50 1),
  (8,{op:=.len 52 (.s 51)}),
  (9,{op:=.bin 53 .leq (.s 47) (.s 52)})]) c_Sj_17) c_Sj_22
def c_Sj_12:VC:=
 .seq (.r 5 [M 32 0,
  M 33 0,
  {op:=.nck 34 (.s 33)},
  oF 35 34 2,
  oL 36 35 1,
  {op:=.bin 37 .mul (.s 36) (.k (.int .u64 6364136223846793005))},
  M 38 3,
  {op:=.conv 39 .u64 (.s 38)},
  {op:=.bin 40 .add (.s 37) (.s 39)},
  {op:=.bin 41 .add (.s 40) (.k (.int .u64 1442695040888963407))},
  {op:=.nck 42 (.s 32)},
  oF 43 42 2,
  oS 43 41 1]) c_Sj_14
def c_Sj_10:VC:=
 .seq (.r 4 [M 25 0,
  {op:=.nck 26 (.s 25)},
  oF 27 26 1,
  oL 28 27 1,
  {op:=.bin 29 .add (.s 28) (.k (.int .i64 1))},
  {op:=.nck 30 (.s 25)},
  oF 31 30 1,
  oS 31 29 1]) c_Sj_12
def c_Sj_4:VC:=
 .seq (.seq (.d 2 [(0,M 4 0),
  (1,{op:=.nckv 5 (.s 4)}),
  (2,oG 6 5 1),
  (3,oV 7 6 1),
  (4,M 8 0),
  (5,{op:=.nckv 9 (.s 8)}),
  (6,oG 10 9 0),
  (7,oV 11 10 1),
  (8,{op:=.len 12 (.s 11)}),
  (9,{op:=.bin 13 .lss (.s 7) (.s 12)})]) c_Sj_7) (.kp [0,3] c_Sj_10)
def c_Sj_2:VC:=
 .seq (.r 1 [oN 3 0]) c_Sj_4
def c_Sj_0:VC:=
 .seq (.r 0 [oN 2 0]) c_Sj_2
def vf_Sj:VF:={ pm:=[.mb [.ro [.sc],.sc,.sc]],rm:=[.v [.sc]],nslots:=62,res:=[2],rc:=[],code:=.kp [0] c_Sj_0 }
def c_Sl_5:VC:=
 .ite (.s 7) (.seq (.r 2 [oN 4 0]) (.ret)) (.skip)
def c_Sl_15:VC:=
 .ite (.s 11) (.r 5 [M 12 5,
  {op:=.bin 13 .mul (.s 12) (.k (.int .i64 256))},
  M 14 0,
  {op:=.call 15 44 [(.s 14)]},
  {op:=.bin 16 .add (.s 13) (.s 15)},
  M 5 16]) (.skip)
def c_Sl_21:VC:=
 .ite (.s 18) (.r 7 [M 19 5,
  {op:=.bin 20 .mul (.s 19) (.k (.int .i64 256))},
  M 21 0,
  {op:=.call 22 44 [(.s 21)]},
  {op:=.bin 23 .add (.s 20) (.s 22)},
  M 5 23]) (.skip)
def c_Sl_24:VC:=
 .seq (.r 8 [M 24 5,
  M 25 1,
  {op:=.bin 26 .rem (.s 24) (.s 25)},
  M 4 26]) (.ret)
def c_Sl_18:VC:=
 .seq (.seq (.r 6 [M 17 1,
  {op:=.bin 18 .gtr (.s 17) (.k (.int .i64 50000))}]) c_Sl_21) (.kp [0,1,5] c_Sl_24)
def c_Sl_12:VC:=
 .seq (.seq (.r 4 [M 10 1,
  {op:=.bin 11 .gtr (.s 10) (.k (.int .i64 200))}]) c_Sl_15) (.kp [0,1,5] c_Sl_18)
def c_Sl_10:VC:=
 .seq (.r 3 [M 8 0,
  {op:=.call 9 44 [(.s 8)]},
  M 5 9]) c_Sl_12
def c_Sl_2:VC:=
 .seq (.seq (.r 1 [M 6 1,
  {op:=.bin 7 .leq (.s 6) (.k (.int .i64 1))}]) c_Sl_5) c_Sl_10
def c_Sl_0:VC:=
 .seq (.r 0 [oN 4 0]) c_Sl_2
def vf_Sl:VF:={ pm:=[.mb [.ro [.sc],.sc,.sc],.ro [.sc]],rm:=[.v [.sc]],nslots:=27,res:=[4],rc:=[],code:=.kp [0,1] c_Sl_0 }
def c_Sm_19:VC:=
 .r 5 [M 14 5,
  M 15 6,
  M 16 0,
  {op:=.call 17 30 [(.s 16),(.k (.int .i64 95))]},
  {op:=.bin 18 .add (.k (.int .i64 32)) (.s 17)},
  {op:=.conv 19 .u8 (.s 18)},
  oX 20 14 15 1,
  oS 20 19 1]
def c_Sm_20:VC:=
 .r 6 [{op:=.bin 21 .add (.s 11) (.k (.int .i64 1))},
  M 11 21]
def c_Sm_15:VC:=
 .seq (.blk 1 (.seq (.r 4 [M 13 11,
  M 6 13]) c_Sm_19)) c_Sm_20
def c_Sm_11:VC:=
 .seq (.ite (.s 12) (.skip) (.exit 0)) c_Sm_15
def c_Sm_9:VC:=
 .seq (.r 3 [{op:=.bin 12 .lss (.s 11) (.s 10)}]) c_Sm_11
def c_Sm_7:VC:=
 .blk 0 (.loop [0,5,10,11] c_Sm_9)
def c_Sm_21:VC:=
 .seq (.r 7 [M 22 5,
  M 4 22]) (.ret)
def c_Sm_4:VC:=
 .seq (.seq (.r 2 [M 9 5,
  {op:=.len 10 (.s 9)},
  oN 11 0]) c_Sm_7) (.kp [0,5] c_Sm_21)
def c_Sm_2:VC:=
 .seq (.r 1 [M 7 1,
  {op:=.mk 8 (.s 7) [.sc] [(.int .u8 0)] 140737488355328},
  M 5 8]) c_Sm_4
def c_Sm_0:VC:=
 .seq (.r 0 [{op:=.nil 4 [.sc]}]) c_Sm_2
def vf_Sm:VF:={ pm:=[.mb [.ro [.sc],.sc,.sc],.ro [.sc]],rm:=[.v [.own [.sc]]],nslots:=23,res:=[4],rc:=[],code:=.kp [0,1] c_Sm_0 }
def c_Sf_10:VC:=
 .ite (.s 8) (.skip) (.exit 0)
def c_Sf_17:VC:=
 .ite (.s 16) (.seq (.r 5 [oK 2 true]) (.ret)) (.skip)
def c_Sf_22:VC:=
 .r 3 [M 9 3,
  {op:=.bin 10 .add (.s 9) (.k (.int .i64 1))},
  M 3 10]
def c_Sf_13:VC:=
 .seq (.blk 1 (.seq (.r 4 [M 11 0,
  M 12 3,
  M 13 3,
  {op:=.bin 14 .add (.s 13) (.k (.int .i64 3))},
  {op:=.sstr 15 (.s 11) (some (.s 12)) (some (.s 14))},
  {op:=.bin 16 .eql (.s 15) (.k (.string (ByteArray.mk #[45,45,62])))}]) c_Sf_17)) c_Sf_22
def c_Sf_7:VC:=
 .seq (.seq (.r 2 [M 4 3,
  {op:=.bin 5 .add (.s 4) (.k (.int .i64 2))},
  M 6 0,
  {op:=.slen 7 (.s 6)},
  {op:=.bin 8 .lss (.s 5) (.s 7)}]) c_Sf_10) c_Sf_13
def c_Sf_5:VC:=
 .blk 0 (.loop [0,3] c_Sf_7)
def c_Sf_23:VC:=
 .seq (.r 6 [oK 2 false]) (.ret)
def c_Sf_2:VC:=
 .seq (.seq (.r 1 [oN 3 0]) c_Sf_5) (.kp [] c_Sf_23)
def c_Sf_0:VC:=
 .seq (.r 0 [oK 2 false]) c_Sf_2
def vf_Sf:VF:={ pm:=[.ro [.sc]],rm:=[.v [.sc]],nslots:=17,res:=[2],rc:=[],code:=.kp [0] c_Sf_0 }
def c_Si_14:VC:=
 .ite (.s 14) (.skip) (.exit 0)
def c_Si_31:VC:=
 .ite (.s 35) (.skip) (.exit 2)
def c_Si_40:VC:=
 .ite (.s 57) (.r 13 [oF 58 8 2,
  oL 59 58 1,
  oF 60 8 2,
  oL 61 60 1,
  {op:=.len 62 (.s 61)},
  {op:=.bin 63 .sub (.s 62) (.k (.int .i64 1))},
  oX 64 59 63 1,
  {op:=.st (.s 64) (.k (.string (ByteArray.mk #[121]))) 1}]) (.skip)
def c_Si_38:VC:=
 .seq (.r 12 [oF 49 8 2,
  oL 50 49 1,
  oF 51 8 2,
  oL 52 51 1,
  {op:=.len 53 (.s 52)},
  {op:=.bin 54 .sub (.s 53) (.k (.int .i64 1))},
  oX 55 50 54 1,
  oL 56 55 1,
  {op:=.call 57 51 [(.s 56)]}]) c_Si_40
def c_Si_43:VC:=
 .r 10 [M 36 9,
  {op:=.bin 37 .sub (.s 36) (.k (.int .i64 1))},
  M 9 37]
def c_Si_34:VC:=
 .seq (.blk 3 (.seq (.d 11 [(0,{op:=.fadk 38 (.s 8) 1 2}),
  (1,{op:=.ldk 39 (.s 38) 1 1 false}),
  (2,M 40 0),
  (3,M 41 0),
  (4,⟨some [1048577],[],none,.call 42 30 [(.s 41),(.k (.int .i64 12))]⟩),
  (5,⟨some [1048577],[],none,.call 43 52 [(.s 40),(.s 42)]⟩),
  (6,{op:=.b2s 44 (.s 43)}),
  (7,{op:=.bin 45 .add (.s 44) (.k (.string (ByteArray.mk #[120])))}),
  (8,{op:=.lits 46 [.sc] [(.s 45)]}),
  (9,{op:=.app 47 (.s 39) (.s 46) [.sc] 8796093022208}),
  (10,{op:=.fadk 48 (.s 8) 1 2}),
  (11,{op:=.stk (.s 48) (.s 47) 1 1})]) c_Si_38)) c_Si_43
def c_Si_28:VC:=
 .seq (.seq (.r 9 [M 34 9,
  {op:=.bin 35 .gtr (.s 34) (.k (.int .i64 0))}]) c_Si_31) c_Si_34
def c_Si_26:VC:=
 .blk 2 (.loop [0,1,5,6,7,8,9] c_Si_28)
def c_Si_44:VC:=
 .r 14 [M 65 5,
  {op:=.ld 66 (.s 8) 3 true},
  {op:=.lits 67 [.sc,.sc,.own [.sc]] [(.s 66)]},
  {op:=.app 68 (.s 65) (.s 67) [.sc,.sc,.own [.sc]] 3518437208883},
  M 5 68]
def c_Si_23:VC:=
 .seq (.seq (.r 8 [M 31 0,
  {op:=.call 32 30 [(.s 31),(.k (.int .i64 4))]},
  {op:=.bin 33 .add (.k (.int .i64 1)) (.s 32)},
  M 9 33]) c_Si_26) (.kp [0,1,5,6,7,8] c_Si_44)
def c_Si_21:VC:=
 .seq (.r 7 [M 24 6,
  M 25 6,
  {op:=.bin 26 .add (.s 25) (.k (.int .i64 1))},
  M 27 0,
  {op:=.call 28 30 [(.s 27),(.k (.int .i64 9000))]},
  {op:=.bin 29 .add (.s 26) (.s 28)},
  {op:=.bld 30 [.k (.int .i64 0),.k (.int .i64 0),.o [.sc]] [(0,1,(.s 24)),(1,1,(.s 29))]},
  {op:=.alloc 8 [.k (.int .i64 0),.k (.int .i64 0),.o [.sc]]},
  oS 8 30 3]) c_Si_23
def c_Si_45:VC:=
 .r 5 [M 15 7,
  {op:=.bin 16 .add (.s 15) (.k (.int .i64 1))},
  M 7 16]
def c_Si_17:VC:=
 .seq (.blk 1 (.seq (.r 6 [M 17 6,
  M 18 0,
  {op:=.call 19 30 [(.s 18),(.k (.int .i64 3000))]},
  M 20 0,
  {op:=.call 21 30 [(.s 20),(.k (.int .i64 2))]},
  {op:=.bin 22 .mul (.s 19) (.s 21)},
  {op:=.bin 23 .add (.s 17) (.s 22)},
  M 6 23]) c_Si_21)) c_Si_45
def c_Si_11:VC:=
 .seq (.seq (.r 4 [M 12 7,
  M 13 1,
  {op:=.bin 14 .lss (.s 12) (.s 13)}]) c_Si_14) c_Si_17
def c_Si_9:VC:=
 .blk 0 (.loop [0,1,5,6,7] c_Si_11)
def c_Si_46:VC:=
 .seq (.r 15 [M 69 5,
  M 4 69]) (.ret)
def c_Si_6:VC:=
 .seq (.seq (.r 3 [oN 7 0]) c_Si_9) (.kp [0,5] c_Si_46)
def c_Si_4:VC:=
 .seq (.r 2 [M 10 0,
  {op:=.call 11 30 [(.s 10),(.k (.int .i64 5000))]},
  M 6 11]) c_Si_6
def c_Si_2:VC:=
 .seq (.r 1 [{op:=.nil 5 [.sc,.sc,.own [.sc]]}]) c_Si_4
def c_Si_0:VC:=
 .seq (.r 0 [{op:=.nil 4 [.sc,.sc,.own [.sc]]}]) c_Si_2
def vf_Si:VF:={ pm:=[.mb [.ro [.sc],.sc,.sc],.ro [.sc]],rm:=[.v [.own [.sc,.sc,.own [.sc]]]],nslots:=70,res:=[4],rc:=[],code:=.kp [0,1] c_Si_0 }
def c_Sk_2:VC:=
 .seq (.r 1 [M 5 0,
  M 6 1,
  {op:=.call 7 30 [(.s 5),(.s 6)]},
  {op:=.bin 8 .eql (.s 7) (.k (.int .i64 0))},
  M 4 8]) (.ret)
def c_Sk_0:VC:=
 .seq (.r 0 [oK 4 false]) c_Sk_2
def vf_Sk:VF:={ pm:=[.mb [.ro [.sc],.sc,.sc],.ro [.sc]],rm:=[.v [.sc]],nslots:=9,res:=[4],rc:=[],code:=.kp [0,1] c_Sk_0 }
def c_Se_9:VC:=
 .ite (.s 15) (.r 4 [M 16 4,
  M 17 4,
  {op:=.call 18 30 [(.s 17),(.k (.int .i64 2))]},
  {op:=.bin 19 .add (.k (.int .i64 200)) (.s 18)},
  {op:=.call 20 43 [(.s 16),(.s 19)]},
  M 5 20]) (.skip)
def c_Se_40:VC:=
 .ite (.s 66) (.r 18 [oF 68 6 0,
  {op:=.st (.s 68) (.k (.int .i64 (-1))) 1}]) (.r 8 [M 37 4,
  {op:=.call 38 30 [(.s 37),(.k (.int .i64 2))]},
  {op:=.bin 39 .add (.k (.int .i64 359999999)) (.s 38)},
  oF 40 6 1,
  oS 40 39 1])
def c_Se_36:VC:=
 .ite (.s 63) (.r 16 [oF 65 6 2,
  {op:=.st (.s 65) (.k (.slice none 0 0)) 1}]) (.seq (.r 17 [{op:=.bin 67 .eql (.s 36) (.k (.int .i64 4))},
  M 66 67]) c_Se_40)
def c_Se_32:VC:=
 .ite (.s 53) (.d 14 [(0,{op:=.fadk 55 (.s 6) 1 2}),
  (1,{op:=.ldk 56 (.s 55) 1 1 false}),
  (2,{op:=.litr 57 [(.string (ByteArray.mk #[])),(.string (ByteArray.mk #[101,110,100,32])),(.string (ByteArray.mk #[97,9,98])),(.string (ByteArray.mk #[32,32,108,101,100])),(.string (ByteArray.mk #[45,45])),(.string (ByteArray.mk #[45,62]))]}),
  (3,M 58 4),
  (4,⟨some [1048577],[],none,.call 59 30 [(.s 58),(.k (.int .i64 6))]⟩),
  (5,oX 60 57 59 1),
  (6,{op:=.ldr 61 (.s 60) 1 false}),
  (7,{op:=.iadr 62 (.s 56) (.k (.int .i64 0)) 1}),
  (8,oS 62 61 1)]) (.seq (.r 15 [{op:=.bin 64 .eql (.s 36) (.k (.int .i64 3))},
  M 63 64]) c_Se_36)
def c_Se_28:VC:=
 .ite (.s 46) (.r 12 [oF 48 6 2,
  oL 49 48 1,
  {op:=.lits 50 [.sc] [(.k (.string (ByteArray.mk #[97,32,45,45,62,32,98])))]},
  {op:=.appr 51 (.s 49) (.s 50) [.sc] 8796093022208},
  oF 52 6 2,
  oS 52 51 1]) (.seq (.r 13 [{op:=.bin 54 .eql (.s 36) (.k (.int .i64 2))},
  M 53 54]) c_Se_32)
def c_Se_24:VC:=
 .ite (.s 41) (.r 10 [oF 43 6 0,
  oL 44 43 1,
  oF 45 6 1,
  oS 45 44 1]) (.seq (.r 11 [{op:=.bin 47 .eql (.s 36) (.k (.int .i64 1))},
  M 46 47]) c_Se_28)
def c_Se_21:VC:=
 .blk 0 (.seq (.r 9 [{op:=.bin 42 .eql (.s 36) (.k (.int .i64 0))},
  M 41 42]) c_Se_24)
def c_Se_43:VC:=
 .pre [.fzc 5 0 2] (.d 19 [(0,M 69 5),
  (1,M 70 4),
  (2,M 71 5),
  (3,{op:=.len 72 (.s 71)}),
  (5,{op:=.ldk 74 (.s 6) 1 3 true}),
  (4,⟨some [1048577],[],none,.call 73 30 [(.s 70),(.s 72)]⟩),
  (6,oX 75 69 73 3),
  (7,oS 75 74 3)])
def c_Se_18:VC:=
 .seq (.seq (.r 7 [M 35 4,
  {op:=.call 36 30 [(.s 35),(.k (.int .i64 6))]}]) c_Se_21) (.pre [.fzc 5 0 2,.nlv 6 2 [.sc],.fzv 6 2] (.kp [4,5,6] c_Se_43))
def c_Se_15:VC:=
 .ite (.s 27) (.seq (.r 6 [M 28 5,
  M 29 4,
  M 30 5,
  {op:=.len 31 (.s 30)},
  {op:=.call 32 30 [(.s 29),(.s 31)]},
  oX 33 28 32 3,
  {op:=.ld 34 (.s 33) 3 true},
  {op:=.alloc 6 [.k (.int .i64 0),.k (.int .i64 0),.k (.slice none 0 0)]},
  oS 6 34 3]) c_Se_18) (.skip)
def c_Se_45:VC:=
 .seq (.r 20 [M 76 5,
  M 77 4,
  M 2 76,
  M 3 77]) (.pre [.fzi 2 0 2] (.ret))
def c_Se_12:VC:=
 .seq (.seq (.r 5 [M 21 4,
  {op:=.call 22 31 [(.s 21),(.k (.int .i64 4))]},
  M 23 22,
  ⟨none,[],some (23,true),.mv 24 (.s 5)⟩,
  ⟨none,[],some (23,true),.len 25 (.s 24)⟩,
  ⟨none,[],some (23,true),.bin 26 .gtr (.s 25) (.k (.int .i64 0))⟩,
  {op:=.pick 27 (.s 23) (.s 26) (.k (.bool false))}]) (.kp [4,5,27] c_Se_15)) c_Se_45
def c_Se_6:VC:=
 .seq (.seq (.r 3 [M 14 4,
  {op:=.call 15 31 [(.s 14),(.k (.int .i64 40))]}]) c_Se_9) (.kp [4,5] c_Se_12)
def c_Se_4:VC:=
 .seq (.r 2 [M 10 4,
  M 11 4,
  {op:=.call 12 30 [(.s 11),(.k (.int .i64 8))]},
  {op:=.call 13 43 [(.s 10),(.s 12)]},
  M 5 13]) c_Se_6
def c_Se_2:VC:=
 .seq (.r 1 [M 7 0,
  {op:=.bld 8 [.k (.slice none 0 0),.k (.int .i64 0),.k (.int .u64 0)] [(0,1,(.s 7))]},
  {op:=.box 9 (.s 8)},
  M 4 9]) c_Se_4
def c_Se_0:VC:=
 .seq (.r 0 [{op:=.nil 2 [.sc,.sc,.ro [.sc]]},
  {op:=.mv 3 (.k (.pointer none))}]) c_Se_2
def vf_Se:VF:={ pm:=[.ro [.ro [.sc]]],rm:=[.v [.own [.sc,.sc,.ro [.sc]]],.p [.ro [.sc],.sc,.sc]],nslots:=78,res:=[2,3],rc:=[],code:=.kp [0] c_Se_0 }
def c_Sa_9:VC:=
 .ite (.s 16) (.r 4 [{op:=.lits 17 [.sc] [(.k (.int .i64 0)),(.k (.int .i64 100)),(.k (.int .i64 101))]},
  M 18 5,
  {op:=.call 19 30 [(.s 18),(.k (.int .i64 3))]},
  oX 20 17 19 1,
  oL 21 20 1,
  M 6 21]) (.skip)
def c_Sa_12:VC:=
 .seq (.r 5 [M 22 4,
  M 23 6,
  M 2 22,
  M 3 23]) (.ret)
def c_Sa_6:VC:=
 .seq (.seq (.r 3 [M 15 5,
  {op:=.call 16 31 [(.s 15),(.k (.int .i64 12))]}]) c_Sa_9) (.kp [4,6] c_Sa_12)
def c_Sa_4:VC:=
 .seq (.r 2 [M 12 5,
  {op:=.call 13 30 [(.s 12),(.k (.int .i64 12))]},
  {op:=.bin 14 .add (.k (.int .i64 1)) (.s 13)},
  M 6 14]) c_Sa_6
def c_Sa_2:VC:=
 .seq (.r 1 [M 8 0,
  {op:=.call 9 29 [(.s 8)]},
  M 7 9,
  {op:=.ext 10 (.s 7) 0},
  {op:=.ext 11 (.s 7) 1},
  M 4 10,
  M 5 11]) c_Sa_4
def c_Sa_0:VC:=
 .seq (.r 0 [{op:=.nil 2 [.sc,.sc,.ro [.sc]]},
  oN 3 0]) c_Sa_2
def vf_Sa:VF:={ pm:=[.ro [.ro [.sc]]],rm:=[.v [.own [.sc,.sc,.ro [.sc]]],.v [.sc]],nslots:=24,res:=[2,3],rc:=[],code:=.kp [0] c_Sa_0 }
def c_Ie_2:VC:=
 .seq (.r 1 [M 3 0,
  {op:=.bin 4 .geq (.s 3) (.k (.int .i64 0))},
  M 5 4,
  ⟨none,[],some (5,true),.mv 6 (.s 0)⟩,
  ⟨none,[],some (5,true),.bin 7 .leq (.s 6) (.k (.int .i64 359999999))⟩,
  {op:=.pick 8 (.s 5) (.s 7) (.k (.bool false))},
  M 2 8]) (.ret)
def c_Ie_0:VC:=
 .seq (.r 0 [oK 2 false]) c_Ie_2
def vf_Ie:VF:={ pm:=[.ro [.sc]],rm:=[.v [.sc]],nslots:=9,res:=[2],rc:=[],code:=.kp [0] c_Ie_0 }
def ex_strings_Contains (ars:List Arg):Option FRes:=match ars with | [.v false [.lit (.string p0)],.v false [.lit (.string p1)]]=>(gContains p0 p1).map fun r=>⟨[.v false [.lit (.bool r)]],[]⟩ | _=>none
def vf_strings_Contains:VF:={ given:=true,pm:=[.ro [.sc],.ro [.sc]],rm:=[.v [.sc]],nslots:=3,res:=[2],rc:=[],code:=.skip }
def c_Id_19:VC:=
 .ite (.s 18) (.seq (.r 5 [oN 2 4]) (.ret)) (.skip)
def c_Id_17:VC:=
 .seq (.r 4 [M 9 0,
  M 10 3,
  {op:=.idx 11 (.s 9) (.s 10)},
  {op:=.bin 12 .lss (.s 11) (.k (.int .u8 32))},
  M 13 12,
  ⟨none,[],some (13,false),.mv 14 (.s 0)⟩,
  ⟨none,[],some (13,false),.mv 15 (.s 3)⟩,
  ⟨none,[],some (13,false),.idx 16 (.s 14) (.s 15)⟩,
  ⟨none,[],some (13,false),.bin 17 .gtr (.s 16) (.k (.int .u8 126))⟩,
  {op:=.pick 18 (.s 13) (.k (.bool true)) (.s 17)}]) c_Id_19
def c_Id_24:VC:=
 .r 6 [{op:=.bin 19 .add (.s 6) (.k (.int .i64 1))},
  M 6 19]
def c_Id_13:VC:=
 .seq (.blk 1 (.seq (.r 3 [M 8 6,
  M 3 8]) c_Id_17)) c_Id_24
def c_Id_9:VC:=
 .seq (.ite (.s 7) (.skip) (.exit 0)) c_Id_13
def c_Id_7:VC:=
 .seq (.r 2 [{op:=.bin 7 .lss (.s 6) (.s 5)}]) c_Id_9
def c_Id_5:VC:=
 .blk 0 (.loop [0,5,6] c_Id_7)
def c_Id_28:VC:=
 .ite (.s 21) (.seq (.r 8 [oN 2 4]) (.ret)) (.skip)
def c_Id_36:VC:=
 .ite (.s 24) (.seq (.r 10 [oN 2 7]) (.ret)) (.skip)
def c_Id_41:VC:=
 .seq (.r 11 [oN 2 0]) (.ret)
def c_Id_33:VC:=
 .seq (.seq (.r 9 [M 22 0,
  {op:=.slen 23 (.s 22)},
  {op:=.bin 24 .gtr (.s 23) (.k (.int .i64 80))}]) c_Id_36) c_Id_41
def c_Id_25:VC:=
 .seq (.seq (.r 7 [M 20 0,
  {op:=.call 21 53 [(.s 20),(.k (.string (ByteArray.mk #[45,45,62])))]}]) c_Id_28) c_Id_33
def c_Id_2:VC:=
 .seq (.seq (.r 1 [M 4 0,
  {op:=.slen 5 (.s 4)},
  oN 6 0]) c_Id_5) (.kp [0] c_Id_25)
def c_Id_0:VC:=
 .seq (.r 0 [oN 2 0]) c_Id_2
def vf_Id:VF:={ pm:=[.ro [.sc]],rm:=[.v [.sc]],nslots:=25,res:=[2],rc:=[],code:=.kp [0] c_Id_0 }
def c_Ic_5:VC:=
 .ite (.s 14) (.seq (.r 2 [oK 2 false]) (.ret)) (.skip)
def c_Ic_27:VC:=
 .ite (.s 36) (.seq (.r 7 [oK 2 false]) (.ret)) (.skip)
def c_Ic_25:VC:=
 .seq (.r 6 [M 22 4,
  {op:=.bin 23 .eql (.s 22) (.k (.string (ByteArray.mk #[])))},
  M 24 23,
  ⟨none,[],some (24,false),.mv 25 (.s 4)⟩,
  ⟨none,[],some (24,false),.mv 26 (.s 4)⟩,
  ⟨none,[],some (24,false),.slen 27 (.s 26)⟩,
  ⟨none,[],some (24,false),.bin 28 .sub (.s 27) (.k (.int .i64 1))⟩,
  ⟨none,[],some (24,false),.idx 29 (.s 25) (.s 28)⟩,
  ⟨none,[],some (24,false),.bin 30 .eql (.s 29) (.k (.int .u8 32))⟩,
  {op:=.pick 31 (.s 24) (.k (.bool true)) (.s 30)},
  M 32 31,
  ⟨none,[],some (32,false),.mv 33 (.s 4)⟩,
  ⟨none,[],some (32,false),.call 34 49 [(.s 33)]⟩,
  ⟨none,[],some (32,false),.bin 35 .neq (.s 34) (.k (.int .i64 0))⟩,
  {op:=.pick 36 (.s 32) (.k (.bool true)) (.s 35)}]) c_Ic_27
def c_Ic_32:VC:=
 .r 8 [{op:=.bin 37 .add (.s 18) (.k (.int .i64 1))},
  M 18 37]
def c_Ic_21:VC:=
 .seq (.blk 1 (.seq (.r 5 [oX 20 16 18 1,
  oL 21 20 1,
  M 4 21]) c_Ic_25)) c_Ic_32
def c_Ic_17:VC:=
 .seq (.ite (.s 19) (.skip) (.exit 0)) c_Ic_21
def c_Ic_15:VC:=
 .seq (.r 4 [{op:=.bin 19 .lss (.s 18) (.s 17)}]) c_Ic_17
def c_Ic_13:VC:=
 .blk 0 (.loop [16,17,18] c_Ic_15)
def c_Ic_33:VC:=
 .seq (.r 9 [oK 2 true]) (.ret)
def c_Ic_10:VC:=
 .seq (.seq (.r 3 [oF 15 1 2,
  oL 16 15 1,
  {op:=.len 17 (.s 16)},
  oN 18 0]) c_Ic_13) (.kp [] c_Ic_33)
def c_Ic_2:VC:=
 .seq (.seq (.r 1 [oF 5 1 2,
  oL 6 5 1,
  {op:=.len 7 (.s 6)},
  {op:=.bin 8 .lss (.s 7) (.k (.int .i64 1))},
  M 9 8,
  ⟨none,[],some (9,false),.fadr 10 (.s 1) 2⟩,
  ⟨none,[],some (9,false),.ld 11 (.s 10) 1 false⟩,
  ⟨none,[],some (9,false),.len 12 (.s 11)⟩,
  ⟨none,[],some (9,false),.bin 13 .gtr (.s 12) (.k (.int .i64 4))⟩,
  {op:=.pick 14 (.s 9) (.k (.bool true)) (.s 13)}]) c_Ic_5) c_Ic_10
def c_Ic_0:VC:=
 .seq (.r 0 [{op:=.box 1 (.s 0)},
  oK 2 false]) c_Ic_2
def vf_Ic:VF:={ pm:=[.ro [.sc,.sc,.ro [.sc]]],rm:=[.v [.sc]],nslots:=38,res:=[2],rc:=[],code:=.kp [0] c_Ic_0 }
def c_Ia_5:VC:=
 .ite (.s 7) (.seq (.r 2 [oK 2 false]) (.ret)) (.skip)
def c_Ia_27:VC:=
 .ite (.s 51) (.seq (.r 7 [oK 2 false]) (.ret)) (.skip)
def c_Ia_25:VC:=
 .seq (.d 6 [(0,oG 15 4 0),
  (1,oV 16 15 1),
  (2,{op:=.call 17 35 [(.s 16)]}),
  (3,{op:=.un 18 .not (.s 17)}),
  (4,M 19 18),
  (5,⟨none,[],some (19,false),.fadv 20 (.s 4) 1⟩),
  (6,⟨none,[],some (19,false),.ldv 21 (.s 20) 1 false⟩),
  (7,⟨none,[],some (19,false),.call 22 35 [(.s 21)]⟩),
  (8,⟨none,[],some (19,false),.un 23 .not (.s 22)⟩),
  (9,{op:=.pick 24 (.s 19) (.k (.bool true)) (.s 23)}),
  (10,M 25 24),
  (11,⟨none,[],some (25,false),.fadv 26 (.s 4) 0⟩),
  (12,⟨none,[],some (25,false),.ldv 27 (.s 26) 1 false⟩),
  (13,⟨none,[],some (25,false),.fadv 28 (.s 4) 1⟩),
  (14,⟨none,[],some (25,false),.ldv 29 (.s 28) 1 false⟩),
  (15,⟨none,[],some (25,false),.bin 30 .geq (.s 27) (.s 29)⟩),
  (16,{op:=.pick 31 (.s 25) (.k (.bool true)) (.s 30)}),
  (17,M 32 31),
  (18,⟨none,[],some (32,false),.ldv 33 (.s 4) 3 true⟩),
  (19,⟨none,[],some (32,false),.call 34 41 [(.s 33)]⟩),
  (20,⟨none,[],some (32,false),.un 35 .not (.s 34)⟩),
  (21,{op:=.pick 36 (.s 32) (.k (.bool true)) (.s 35)}),
  (22,M 37 36),
  (23,⟨none,[],some (37,false),.mv 38 (.s 3)⟩),
  (24,⟨none,[],some (37,false),.bin 39 .gtr (.s 38) (.k (.int .i64 0))⟩),
  (25,⟨none,[],some (37,false),.mv 40 (.s 39)⟩),
  (26,⟨none,[],some (40,true),.fadv 41 (.s 4) 0⟩),
  (27,⟨none,[],some (40,true),.ldv 42 (.s 41) 1 false⟩),
  (28,⟨none,[],some (40,true),.mv 43 (.s 0)⟩),
  (29,⟨none,[],some (40,true),.mv 44 (.s 3)⟩),
  (30,⟨none,[],some (40,true),.bin 45 .sub (.s 44) (.k (.int .i64 1))⟩),
  (31,⟨none,[],some (40,true),.iadr 46 (.s 43) (.s 45) 3⟩),
  (32,⟨none,[],some (40,true),.fadv 47 (.s 46) 0⟩),
  (33,⟨none,[],some (40,true),.ldv 48 (.s 47) 1 false⟩),
  (34,⟨none,[],some (40,true),.bin 49 .lss (.s 42) (.s 48)⟩),
  (35,⟨none,[],some (37,false),.pick 50 (.s 40) (.s 49) (.k (.bool false))⟩),
  (36,{op:=.pick 51 (.s 37) (.k (.bool true)) (.s 50)})]) c_Ia_27
def c_Ia_32:VC:=
 .r 8 [{op:=.bin 52 .add (.s 10) (.k (.int .i64 1))},
  M 10 52]
def c_Ia_21:VC:=
 .seq (.blk 1 (.seq (.r 5 [M 12 10,
  oX 13 8 10 3,
  {op:=.ld 14 (.s 13) 3 true},
  {op:=.alloc 4 [.k (.int .i64 0),.k (.int .i64 0),.o [.sc]]},
  M 3 12,
  oS 4 14 3]) c_Ia_25)) c_Ia_32
def c_Ia_17:VC:=
 .seq (.ite (.s 11) (.skip) (.exit 0)) c_Ia_21
def c_Ia_15:VC:=
 .seq (.r 4 [{op:=.bin 11 .lss (.s 10) (.s 9)}]) c_Ia_17
def c_Ia_13:VC:=
 .blk 0 (.loop [0,8,9,10] c_Ia_15)
def c_Ia_33:VC:=
 .seq (.r 9 [oK 2 true]) (.ret)
def c_Ia_10:VC:=
 .seq (.seq (.r 3 [M 8 0,
  {op:=.len 9 (.s 8)},
  oN 10 0]) c_Ia_13) (.kp [] c_Ia_33)
def c_Ia_2:VC:=
 .seq (.seq (.r 1 [M 5 0,
  {op:=.len 6 (.s 5)},
  {op:=.bin 7 .gtr (.s 6) (.k (.int .i64 200))}]) c_Ia_5) c_Ia_10
def c_Ia_0:VC:=
 .seq (.r 0 [oK 2 false]) c_Ia_2
def vf_Ia:VF:={ pm:=[.ro [.ro [.sc,.sc,.ro [.sc]]]],rm:=[.v [.sc]],nslots:=53,res:=[2],rc:=[],code:=.kp [0] c_Ia_0 }
def c_Ib_5:VC:=
 .ite (.s 25) (.seq (.r 2 [{op:=.nil 4 [.sc]}]) (.ret)) (.skip)
def c_Ib_61:VC:=
 .r 15 [M 73 8,
  M 74 5,
  M 75 9,
  oX 76 74 75 1,
  oL 77 76 1,
  M 78 10,
  {op:=.bin 79 .add (.s 77) (.s 78)},
  oX 80 73 79 1,
  {op:=.st (.s 80) (.k (.bool true)) 1}]
def c_Ib_62:VC:=
 .r 16 [{op:=.bin 81 .add (.s 70) (.k (.int .i64 1))},
  M 70 81]
def c_Ib_57:VC:=
 .seq (.blk 5 (.seq (.r 14 [M 72 70,
  M 10 72]) c_Ib_61)) c_Ib_62
def c_Ib_53:VC:=
 .seq (.ite (.s 71) (.skip) (.exit 4)) c_Ib_57
def c_Ib_51:VC:=
 .seq (.r 13 [{op:=.bin 71 .lss (.s 70) (.s 69)}]) c_Ib_53
def c_Ib_49:VC:=
 .blk 4 (.loop [0,1,5,7,8,9,26,27,28,35,36,69,70] c_Ib_51)
def c_Ib_46:VC:=
 .ite (.s 63) (.seq (.r 12 [M 64 0,
  M 65 9,
  oX 66 64 65 3,
  oF 67 66 2,
  oL 68 67 1,
  {op:=.len 69 (.s 68)},
  oN 70 0]) c_Ib_49) (.skip)
def c_Ib_44:VC:=
 .seq (.d 11 [(0,M 39 5),
  (1,M 40 9),
  (2,oX 41 39 40 1),
  (3,oL 42 41 1),
  (4,{op:=.bin 43 .geq (.s 42) (.k (.int .i64 0))}),
  (5,M 44 43),
  (6,⟨none,[],some (44,true),.mv 45 (.s 0)⟩),
  (7,⟨none,[],some (44,true),.mv 46 (.s 9)⟩),
  (8,⟨none,[],some (44,true),.iadr 47 (.s 45) (.s 46) 3⟩),
  (9,⟨none,[],some (44,true),.fadv 48 (.s 47) 0⟩),
  (10,⟨none,[],some (44,true),.ldv 49 (.s 48) 1 false⟩),
  (11,⟨none,[],some (44,true),.fadv 50 (.s 7) 0⟩),
  (12,⟨none,[],some (44,true),.ldv 51 (.s 50) 1 false⟩),
  (13,⟨none,[],some (44,true),.bin 52 .leq (.s 49) (.s 51)⟩),
  (14,{op:=.pick 53 (.s 44) (.s 52) (.k (.bool false))}),
  (15,M 54 53),
  (16,⟨none,[],some (54,true),.fadv 55 (.s 7) 0⟩),
  (17,⟨none,[],some (54,true),.ldv 56 (.s 55) 1 false⟩),
  (18,⟨none,[],some (54,true),.mv 57 (.s 0)⟩),
  (19,⟨none,[],some (54,true),.mv 58 (.s 9)⟩),
  (20,⟨none,[],some (54,true),.iadr 59 (.s 57) (.s 58) 3⟩),
  (21,⟨none,[],some (54,true),.fadv 60 (.s 59) 1⟩),
  (22,⟨none,[],some (54,true),.ldv 61 (.s 60) 1 false⟩),
  (23,⟨none,[],some (54,true),.bin 62 .lss (.s 56) (.s 61)⟩),
  (24,{op:=.pick 63 (.s 54) (.s 62) (.k (.bool false))})]) (.kp [0,1,5,7,8,9,26,27,28,35,36,63] c_Ib_46)
def c_Ib_64:VC:=
 .r 17 [{op:=.bin 82 .add (.s 36) (.k (.int .i64 1))},
  M 36 82]
def c_Ib_40:VC:=
 .seq (.blk 3 (.seq (.r 10 [M 38 36,
  M 9 38]) c_Ib_44)) (.kp [0,1,5,7,8,26,27,28,35,36] c_Ib_64)
def c_Ib_36:VC:=
 .seq (.ite (.s 37) (.skip) (.exit 2)) c_Ib_40
def c_Ib_34:VC:=
 .seq (.r 9 [{op:=.bin 37 .lss (.s 36) (.s 35)}]) c_Ib_36
def c_Ib_32:VC:=
 .blk 2 (.loop [0,1,5,7,8,26,27,28,35,36] c_Ib_34)
def c_Ib_75:VC:=
 .ite (.s 93) (.skip) (.exit 6)
def c_Ib_97:VC:=
 .r 26 [M 102 13,
  M 103 102,
  ⟨none,[],some (103,true),.mv 104 (.s 8)⟩,
  ⟨none,[],some (103,true),.mv 105 (.s 12)⟩,
  ⟨none,[],some (103,true),.mv 106 (.s 14)⟩,
  ⟨none,[],some (103,true),.bin 107 .add (.s 105) (.s 106)⟩,
  ⟨none,[],some (103,true),.iadr 108 (.s 104) (.s 107) 1⟩,
  ⟨none,[],some (103,true),.ld 109 (.s 108) 1 false⟩,
  ⟨none,[],some (103,true),.un 110 .not (.s 109)⟩,
  {op:=.pick 111 (.s 103) (.s 110) (.k (.bool false))},
  M 13 111]
def c_Ib_98:VC:=
 .r 27 [{op:=.bin 112 .add (.s 99) (.k (.int .i64 1))},
  M 99 112]
def c_Ib_93:VC:=
 .seq (.blk 9 (.seq (.r 25 [M 101 99,
  M 14 101]) c_Ib_97)) c_Ib_98
def c_Ib_89:VC:=
 .seq (.ite (.s 100) (.skip) (.exit 8)) c_Ib_93
def c_Ib_87:VC:=
 .seq (.r 24 [{op:=.bin 100 .lss (.s 99) (.s 98)}]) c_Ib_89
def c_Ib_85:VC:=
 .blk 8 (.loop [0,1,5,7,8,11,12,13,26,27,28,98,99] c_Ib_87)
def c_Ib_101:VC:=
 .ite (.s 113) (.r 29 [M 114 12,
  M 11 114]) (.skip)
def c_Ib_99:VC:=
 .seq (.r 28 [M 113 13]) c_Ib_101
def c_Ib_82:VC:=
 .seq (.seq (.r 23 [oF 96 7 2,
  oL 97 96 1,
  {op:=.len 98 (.s 97)},
  oN 99 0]) c_Ib_85) (.kp [0,1,5,7,8,11,12,13,26,27,28] c_Ib_99)
def c_Ib_104:VC:=
 .r 21 [M 94 12,
  {op:=.bin 95 .add (.s 94) (.k (.int .i64 1))},
  M 12 95]
def c_Ib_78:VC:=
 .seq (.blk 7 (.seq (.r 22 [oK 13 true]) c_Ib_82)) c_Ib_104
def c_Ib_72:VC:=
 .seq (.seq (.r 20 [M 83 12,
  oF 84 7 2,
  oL 85 84 1,
  {op:=.len 86 (.s 85)},
  {op:=.bin 87 .add (.s 83) (.s 86)},
  M 88 1,
  {op:=.bin 89 .leq (.s 87) (.s 88)},
  M 90 89,
  ⟨none,[],some (90,true),.mv 91 (.s 11)⟩,
  ⟨none,[],some (90,true),.bin 92 .lss (.s 91) (.k (.int .i64 0))⟩,
  {op:=.pick 93 (.s 90) (.s 92) (.k (.bool false))}]) c_Ib_75) c_Ib_78
def c_Ib_70:VC:=
 .blk 6 (.loop [0,1,5,7,8,11,12,26,27,28] c_Ib_72)
def c_Ib_105:VC:=
 .r 30 [M 115 5,
  M 116 11,
  {op:=.lits 117 [.sc] [(.s 116)]},
  {op:=.app 118 (.s 115) (.s 117) [.sc] 17592186044416},
  M 5 118]
def c_Ib_67:VC:=
 .seq (.seq (.r 19 [oN 12 0]) c_Ib_70) (.kp [0,1,5,11,26,27,28] c_Ib_105)
def c_Ib_65:VC:=
 .seq (.r 18 [oN 11 (-1)]) c_Ib_67
def c_Ib_29:VC:=
 .seq (.seq (.r 8 [M 35 6,
  oN 36 0]) c_Ib_32) (.kp [0,1,5,7,8,26,27,28] c_Ib_65)
def c_Ib_27:VC:=
 .seq (.r 7 [M 33 1,
  {op:=.mk 34 (.s 33) [.sc] [(.bool false)] 140737488355328},
  M 8 34]) c_Ib_29
def c_Ib_106:VC:=
 .r 31 [{op:=.bin 119 .add (.s 28) (.k (.int .i64 1))},
  M 28 119]
def c_Ib_23:VC:=
 .seq (.blk 1 (.seq (.r 6 [M 30 28,
  oX 31 26 28 3,
  {op:=.ld 32 (.s 31) 3 true},
  {op:=.alloc 7 [.k (.int .i64 0),.k (.int .i64 0),.o [.sc]]},
  M 6 30,
  oS 7 32 3]) c_Ib_27)) c_Ib_106
def c_Ib_19:VC:=
 .seq (.ite (.s 29) (.skip) (.exit 0)) c_Ib_23
def c_Ib_17:VC:=
 .seq (.r 5 [{op:=.bin 29 .lss (.s 28) (.s 27)}]) c_Ib_19
def c_Ib_15:VC:=
 .blk 0 (.loop [0,1,5,26,27,28] c_Ib_17)
def c_Ib_107:VC:=
 .seq (.r 32 [M 120 5,
  M 4 120]) (.ret)
def c_Ib_12:VC:=
 .seq (.seq (.r 4 [M 26 0,
  {op:=.len 27 (.s 26)},
  oN 28 0]) c_Ib_15) (.kp [5] c_Ib_107)
def c_Ib_10:VC:=
 .seq (.r 3 [{op:=.nil 5 [.sc]}]) c_Ib_12
def c_Ib_2:VC:=
 .seq (.seq (.r 1 [M 15 0,
  {op:=.call 16 26 [(.s 15)]},
  {op:=.un 17 .not (.s 16)},
  M 18 17,
  ⟨none,[],some (18,false),.mv 19 (.s 1)⟩,
  ⟨none,[],some (18,false),.bin 20 .lss (.s 19) (.k (.int .i64 1))⟩,
  {op:=.pick 21 (.s 18) (.k (.bool true)) (.s 20)},
  M 22 21,
  ⟨none,[],some (22,false),.mv 23 (.s 1)⟩,
  ⟨none,[],some (22,false),.bin 24 .gtr (.s 23) (.k (.int .i64 100))⟩,
  {op:=.pick 25 (.s 22) (.k (.bool true)) (.s 24)}]) c_Ib_5) c_Ib_10
def c_Ib_0:VC:=
 .seq (.r 0 [{op:=.nil 4 [.sc]}]) c_Ib_2
def vf_Ib:VF:={ pm:=[.ro [.ro [.sc,.sc,.ro [.sc]]],.ro [.sc]],rm:=[.v [.own [.sc]]],nslots:=121,res:=[4],rc:=[],code:=.kp [0,1] c_Ib_0 }
def c_Sh_2:VC:=
 .seq (.r 1 [M 3 0,
  {op:=.bin 4 .geq (.s 3) (.k (.int .i64 0))},
  M 5 4,
  ⟨none,[],some (5,true),.mv 6 (.s 0)⟩,
  ⟨none,[],some (5,true),.bin 7 .leq (.s 6) (.k (.int .i64 359999999))⟩,
  {op:=.pick 8 (.s 5) (.s 7) (.k (.bool false))},
  M 2 8]) (.ret)
def c_Sh_0:VC:=
 .seq (.r 0 [oK 2 false]) c_Sh_2
def vf_Sh:VF:={ pm:=[.ro [.sc]],rm:=[.v [.sc]],nslots:=9,res:=[2],rc:=[],code:=.kp [0] c_Sh_0 }
def c_Sd_10:VC:=
 .ite (.s 7) (.skip) (.exit 0)
def c_Sd_17:VC:=
 .ite (.s 19) (.seq (.r 5 [oK 2 false]) (.ret)) (.skip)
def c_Sd_22:VC:=
 .r 3 [M 8 3,
  {op:=.bin 9 .add (.s 8) (.k (.int .i64 1))},
  M 3 9]
def c_Sd_13:VC:=
 .seq (.blk 1 (.seq (.r 4 [M 10 0,
  M 11 3,
  {op:=.idx 12 (.s 10) (.s 11)},
  {op:=.bin 13 .lss (.s 12) (.k (.int .u8 32))},
  M 14 13,
  ⟨none,[],some (14,false),.mv 15 (.s 0)⟩,
  ⟨none,[],some (14,false),.mv 16 (.s 3)⟩,
  ⟨none,[],some (14,false),.idx 17 (.s 15) (.s 16)⟩,
  ⟨none,[],some (14,false),.bin 18 .gtr (.s 17) (.k (.int .u8 126))⟩,
  {op:=.pick 19 (.s 14) (.k (.bool true)) (.s 18)}]) c_Sd_17)) c_Sd_22
def c_Sd_7:VC:=
 .seq (.seq (.r 2 [M 4 3,
  M 5 0,
  {op:=.slen 6 (.s 5)},
  {op:=.bin 7 .lss (.s 4) (.s 6)}]) c_Sd_10) c_Sd_13
def c_Sd_5:VC:=
 .blk 0 (.loop [0,3] c_Sd_7)
def c_Sd_23:VC:=
 .seq (.r 6 [oK 2 true]) (.ret)
def c_Sd_2:VC:=
 .seq (.seq (.r 1 [oN 3 0]) c_Sd_5) (.kp [] c_Sd_23)
def c_Sd_0:VC:=
 .seq (.r 0 [oK 2 false]) c_Sd_2
def vf_Sd:VF:={ pm:=[.ro [.sc]],rm:=[.v [.sc]],nslots:=20,res:=[2],rc:=[],code:=.kp [0] c_Sd_0 }
def c_Sg_19:VC:=
 .ite (.s 35) (.seq (.r 5 [oK 2 false]) (.ret)) (.skip)
def c_Sg_17:VC:=
 .seq (.r 4 [M 11 4,
  {op:=.slen 12 (.s 11)},
  {op:=.bin 13 .lss (.s 12) (.k (.int .i64 1))},
  M 14 13,
  ⟨none,[],some (14,false),.mv 15 (.s 4)⟩,
  ⟨none,[],some (14,false),.slen 16 (.s 15)⟩,
  ⟨none,[],some (14,false),.bin 17 .gtr (.s 16) (.k (.int .i64 80))⟩,
  {op:=.pick 18 (.s 14) (.k (.bool true)) (.s 17)},
  M 19 18,
  ⟨none,[],some (19,false),.mv 20 (.s 4)⟩,
  ⟨none,[],some (19,false),.call 21 50 [(.s 20)]⟩,
  ⟨none,[],some (19,false),.un 22 .not (.s 21)⟩,
  {op:=.pick 23 (.s 19) (.k (.bool true)) (.s 22)},
  M 24 23,
  ⟨none,[],some (24,false),.mv 25 (.s 4)⟩,
  ⟨none,[],some (24,false),.mv 26 (.s 4)⟩,
  ⟨none,[],some (24,false),.slen 27 (.s 26)⟩,
  ⟨none,[],some (24,false),.bin 28 .sub (.s 27) (.k (.int .i64 1))⟩,
  ⟨none,[],some (24,false),.idx 29 (.s 25) (.s 28)⟩,
  ⟨none,[],some (24,false),.bin 30 .eql (.s 29) (.k (.int .u8 32))⟩,
  {op:=.pick 31 (.s 24) (.k (.bool true)) (.s 30)},
  M 32 31,
  ⟨none,[],some (32,false),.mv 33 (.s 4)⟩,
  ⟨none,[],some (32,false),.call 34 51 [(.s 33)]⟩,
  {op:=.pick 35 (.s 32) (.k (.bool true)) (.s 34)}]) c_Sg_19
def c_Sg_24:VC:=
 .r 6 [{op:=.bin 36 .add (.s 7) (.k (.int .i64 1))},
  M 7 36]
def c_Sg_13:VC:=
 .seq (.blk 1 (.seq (.r 3 [oX 9 5 7 1,
  oL 10 9 1,
  M 4 10]) c_Sg_17)) c_Sg_24
def c_Sg_9:VC:=
 .seq (.ite (.s 8) (.skip) (.exit 0)) c_Sg_13
def c_Sg_7:VC:=
 .seq (.r 2 [{op:=.bin 8 .lss (.s 7) (.s 6)}]) c_Sg_9
def c_Sg_5:VC:=
 .blk 0 (.loop [0,5,6,7] c_Sg_7)
def c_Sg_25:VC:=
 .seq (.r 7 [M 37 0,
  {op:=.len 38 (.s 37)},
  {op:=.bin 39 .geq (.s 38) (.k (.int .i64 1))},
  M 40 39,
  ⟨none,[],some (40,true),.mv 41 (.s 0)⟩,
  ⟨none,[],some (40,true),.len 42 (.s 41)⟩,
  ⟨none,[],some (40,true),.bin 43 .leq (.s 42) (.k (.int .i64 4))⟩,
  {op:=.pick 44 (.s 40) (.s 43) (.k (.bool false))},
  M 2 44]) (.ret)
def c_Sg_2:VC:=
 .seq (.seq (.r 1 [M 5 0,
  {op:=.len 6 (.s 5)},
  oN 7 0]) c_Sg_5) (.kp [0] c_Sg_25)
def c_Sg_0:VC:=
 .seq (.r 0 [oK 2 false]) c_Sg_2
def vf_Sg:VF:={ pm:=[.ro [.ro [.sc]]],rm:=[.v [.sc]],nslots:=45,res:=[2],rc:=[],code:=.kp [0] c_Sg_0 }
def c_Sb_5:VC:=
 .ite (.s 7) (.seq (.r 2 [oK 2 false]) (.ret)) (.skip)
def c_Sb_27:VC:=
 .ite (.s 52) (.seq (.r 7 [oK 2 false]) (.ret)) (.skip)
def c_Sb_25:VC:=
 .seq (.d 6 [(0,oG 15 4 0),
  (1,oV 16 15 1),
  (2,{op:=.call 17 33 [(.s 16)]}),
  (3,{op:=.un 18 .not (.s 17)}),
  (4,M 19 18),
  (5,⟨none,[],some (19,false),.fadv 20 (.s 4) 1⟩),
  (6,⟨none,[],some (19,false),.ldv 21 (.s 20) 1 false⟩),
  (7,⟨none,[],some (19,false),.call 22 33 [(.s 21)]⟩),
  (8,⟨none,[],some (19,false),.un 23 .not (.s 22)⟩),
  (9,{op:=.pick 24 (.s 19) (.k (.bool true)) (.s 23)}),
  (10,M 25 24),
  (11,⟨none,[],some (25,false),.fadv 26 (.s 4) 0⟩),
  (12,⟨none,[],some (25,false),.ldv 27 (.s 26) 1 false⟩),
  (13,⟨none,[],some (25,false),.fadv 28 (.s 4) 1⟩),
  (14,⟨none,[],some (25,false),.ldv 29 (.s 28) 1 false⟩),
  (15,⟨none,[],some (25,false),.bin 30 .geq (.s 27) (.s 29)⟩),
  (16,{op:=.pick 31 (.s 25) (.k (.bool true)) (.s 30)}),
  (17,M 32 31),
  (18,⟨none,[],some (32,false),.fadv 33 (.s 4) 2⟩),
  (19,⟨none,[],some (32,false),.ldv 34 (.s 33) 1 false⟩),
  (20,⟨none,[],some (32,false),.call 35 42 [(.s 34)]⟩),
  (21,⟨none,[],some (32,false),.un 36 .not (.s 35)⟩),
  (22,{op:=.pick 37 (.s 32) (.k (.bool true)) (.s 36)}),
  (23,M 38 37),
  (24,⟨none,[],some (38,false),.mv 39 (.s 3)⟩),
  (25,⟨none,[],some (38,false),.bin 40 .gtr (.s 39) (.k (.int .i64 0))⟩),
  (26,⟨none,[],some (38,false),.mv 41 (.s 40)⟩),
  (27,⟨none,[],some (41,true),.fadv 42 (.s 4) 0⟩),
  (28,⟨none,[],some (41,true),.ldv 43 (.s 42) 1 false⟩),
  (29,⟨none,[],some (41,true),.mv 44 (.s 0)⟩),
  (30,⟨none,[],some (41,true),.mv 45 (.s 3)⟩),
  (31,⟨none,[],some (41,true),.bin 46 .sub (.s 45) (.k (.int .i64 1))⟩),
  (32,⟨none,[],some (41,true),.iadr 47 (.s 44) (.s 46) 3⟩),
  (33,⟨none,[],some (41,true),.fadv 48 (.s 47) 0⟩),
  (34,⟨none,[],some (41,true),.ldv 49 (.s 48) 1 false⟩),
  (35,⟨none,[],some (41,true),.bin 50 .lss (.s 43) (.s 49)⟩),
  (36,⟨none,[],some (38,false),.pick 51 (.s 41) (.s 50) (.k (.bool false))⟩),
  (37,{op:=.pick 52 (.s 38) (.k (.bool true)) (.s 51)})]) c_Sb_27
def c_Sb_32:VC:=
 .r 8 [{op:=.bin 53 .add (.s 10) (.k (.int .i64 1))},
  M 10 53]
def c_Sb_21:VC:=
 .seq (.blk 1 (.seq (.r 5 [M 12 10,
  oX 13 8 10 3,
  {op:=.ld 14 (.s 13) 3 true},
  {op:=.alloc 4 [.k (.int .i64 0),.k (.int .i64 0),.o [.sc]]},
  M 3 12,
  oS 4 14 3]) c_Sb_25)) c_Sb_32
def c_Sb_17:VC:=
 .seq (.ite (.s 11) (.skip) (.exit 0)) c_Sb_21
def c_Sb_15:VC:=
 .seq (.r 4 [{op:=.bin 11 .lss (.s 10) (.s 9)}]) c_Sb_17
def c_Sb_13:VC:=
 .blk 0 (.loop [0,8,9,10] c_Sb_15)
def c_Sb_33:VC:=
 .seq (.r 9 [oK 2 true]) (.ret)
def c_Sb_10:VC:=
 .seq (.seq (.r 3 [M 8 0,
  {op:=.len 9 (.s 8)},
  oN 10 0]) c_Sb_13) (.kp [] c_Sb_33)
def c_Sb_2:VC:=
 .seq (.seq (.r 1 [M 5 0,
  {op:=.len 6 (.s 5)},
  {op:=.bin 7 .gtr (.s 6) (.k (.int .i64 200))}]) c_Sb_5) c_Sb_10
def c_Sb_0:VC:=
 .seq (.r 0 [oK 2 false]) c_Sb_2
def vf_Sb:VF:={ pm:=[.ro [.ro [.sc,.sc,.ro [.sc]]]],rm:=[.v [.sc]],nslots:=54,res:=[2],rc:=[],code:=.kp [0] c_Sb_0 }
def c_Sc_5:VC:=
 .ite (.s 25) (.seq (.r 2 [{op:=.nil 4 [.sc]}]) (.ret)) (.skip)
def c_Sc_37:VC:=
 .ite (.s 37) (.skip) (.exit 2)
def c_Sc_59:VC:=
 .r 15 [M 74 8,
  M 75 5,
  M 76 9,
  oX 77 75 76 1,
  oL 78 77 1,
  M 79 10,
  {op:=.bin 80 .add (.s 78) (.s 79)},
  oX 81 74 80 1,
  {op:=.st (.s 81) (.k (.bool true)) 1}]
def c_Sc_60:VC:=
 .r 16 [{op:=.bin 82 .add (.s 71) (.k (.int .i64 1))},
  M 71 82]
def c_Sc_55:VC:=
 .seq (.blk 5 (.seq (.r 14 [M 73 71,
  M 10 73]) c_Sc_59)) c_Sc_60
def c_Sc_51:VC:=
 .seq (.ite (.s 72) (.skip) (.exit 4)) c_Sc_55
def c_Sc_49:VC:=
 .seq (.r 13 [{op:=.bin 72 .lss (.s 71) (.s 70)}]) c_Sc_51
def c_Sc_47:VC:=
 .blk 4 (.loop [0,1,5,6,7,8,9,26,27,28,70,71] c_Sc_49)
def c_Sc_44:VC:=
 .ite (.s 64) (.seq (.r 12 [M 65 0,
  M 66 9,
  oX 67 65 66 3,
  oF 68 67 2,
  oL 69 68 1,
  {op:=.len 70 (.s 69)},
  oN 71 0]) c_Sc_47) (.skip)
def c_Sc_62:VC:=
 .r 10 [M 38 9,
  {op:=.bin 39 .add (.s 38) (.k (.int .i64 1))},
  M 9 39]
def c_Sc_40:VC:=
 .seq (.blk 3 (.seq (.d 11 [(0,M 40 5),
  (1,M 41 9),
  (2,oX 42 40 41 1),
  (3,oL 43 42 1),
  (4,{op:=.bin 44 .geq (.s 43) (.k (.int .i64 0))}),
  (5,M 45 44),
  (6,⟨none,[],some (45,true),.mv 46 (.s 0)⟩),
  (7,⟨none,[],some (45,true),.mv 47 (.s 9)⟩),
  (8,⟨none,[],some (45,true),.iadr 48 (.s 46) (.s 47) 3⟩),
  (9,⟨none,[],some (45,true),.fadv 49 (.s 48) 0⟩),
  (10,⟨none,[],some (45,true),.ldv 50 (.s 49) 1 false⟩),
  (11,⟨none,[],some (45,true),.fadv 51 (.s 7) 0⟩),
  (12,⟨none,[],some (45,true),.ldv 52 (.s 51) 1 false⟩),
  (13,⟨none,[],some (45,true),.bin 53 .leq (.s 50) (.s 52)⟩),
  (14,{op:=.pick 54 (.s 45) (.s 53) (.k (.bool false))}),
  (15,M 55 54),
  (16,⟨none,[],some (55,true),.fadv 56 (.s 7) 0⟩),
  (17,⟨none,[],some (55,true),.ldv 57 (.s 56) 1 false⟩),
  (18,⟨none,[],some (55,true),.mv 58 (.s 0)⟩),
  (19,⟨none,[],some (55,true),.mv 59 (.s 9)⟩),
  (20,⟨none,[],some (55,true),.iadr 60 (.s 58) (.s 59) 3⟩),
  (21,⟨none,[],some (55,true),.fadv 61 (.s 60) 1⟩),
  (22,⟨none,[],some (55,true),.ldv 62 (.s 61) 1 false⟩),
  (23,⟨none,[],some (55,true),.bin 63 .lss (.s 57) (.s 62)⟩),
  (24,{op:=.pick 64 (.s 55) (.s 63) (.k (.bool false))})]) (.kp [0,1,5,6,7,8,9,26,27,28,64] c_Sc_44))) (.kp [0,1,5,6,7,8,9,26,27,28] c_Sc_62)
def c_Sc_34:VC:=
 .seq (.seq (.r 9 [M 35 9,
  M 36 6,
  {op:=.bin 37 .lss (.s 35) (.s 36)}]) c_Sc_37) c_Sc_40
def c_Sc_32:VC:=
 .blk 2 (.loop [0,1,5,6,7,8,9,26,27,28] c_Sc_34)
def c_Sc_73:VC:=
 .ite (.s 89) (.skip) (.exit 6)
def c_Sc_95:VC:=
 .r 25 [M 98 13,
  M 99 98,
  ⟨none,[],some (99,true),.mv 100 (.s 8)⟩,
  ⟨none,[],some (99,true),.mv 101 (.s 12)⟩,
  ⟨none,[],some (99,true),.mv 102 (.s 14)⟩,
  ⟨none,[],some (99,true),.bin 103 .add (.s 101) (.s 102)⟩,
  ⟨none,[],some (99,true),.iadr 104 (.s 100) (.s 103) 1⟩,
  ⟨none,[],some (99,true),.ld 105 (.s 104) 1 false⟩,
  ⟨none,[],some (99,true),.un 106 .not (.s 105)⟩,
  {op:=.pick 107 (.s 99) (.s 106) (.k (.bool false))},
  M 13 107]
def c_Sc_96:VC:=
 .r 26 [{op:=.bin 108 .add (.s 95) (.k (.int .i64 1))},
  M 95 108]
def c_Sc_91:VC:=
 .seq (.blk 9 (.seq (.r 24 [M 97 95,
  M 14 97]) c_Sc_95)) c_Sc_96
def c_Sc_87:VC:=
 .seq (.ite (.s 96) (.skip) (.exit 8)) c_Sc_91
def c_Sc_85:VC:=
 .seq (.r 23 [{op:=.bin 96 .lss (.s 95) (.s 94)}]) c_Sc_87
def c_Sc_83:VC:=
 .blk 8 (.loop [0,1,5,7,8,11,12,13,26,27,28,94,95] c_Sc_85)
def c_Sc_99:VC:=
 .ite (.s 109) (.r 28 [M 110 12,
  M 11 110]) (.skip)
def c_Sc_97:VC:=
 .seq (.r 27 [M 109 13]) c_Sc_99
def c_Sc_80:VC:=
 .seq (.seq (.r 22 [oF 92 7 2,
  oL 93 92 1,
  {op:=.len 94 (.s 93)},
  oN 95 0]) c_Sc_83) (.kp [0,1,5,7,8,11,12,13,26,27,28] c_Sc_97)
def c_Sc_102:VC:=
 .r 20 [M 90 12,
  {op:=.bin 91 .sub (.s 90) (.k (.int .i64 1))},
  M 12 91]
def c_Sc_76:VC:=
 .seq (.blk 7 (.seq (.r 21 [oK 13 true]) c_Sc_80)) c_Sc_102
def c_Sc_70:VC:=
 .seq (.seq (.r 19 [M 88 12,
  {op:=.bin 89 .geq (.s 88) (.k (.int .i64 0))}]) c_Sc_73) c_Sc_76
def c_Sc_68:VC:=
 .blk 6 (.loop [0,1,5,7,8,11,12,26,27,28] c_Sc_70)
def c_Sc_103:VC:=
 .r 29 [M 111 5,
  M 112 11,
  {op:=.lits 113 [.sc] [(.s 112)]},
  {op:=.app 114 (.s 111) (.s 113) [.sc] 17592186044416},
  M 5 114]
def c_Sc_65:VC:=
 .seq (.seq (.r 18 [M 83 1,
  oF 84 7 2,
  oL 85 84 1,
  {op:=.len 86 (.s 85)},
  {op:=.bin 87 .sub (.s 83) (.s 86)},
  M 12 87]) c_Sc_68) (.kp [0,1,5,11,26,27,28] c_Sc_103)
def c_Sc_63:VC:=
 .seq (.r 17 [oN 11 (-1)]) c_Sc_65
def c_Sc_29:VC:=
 .seq (.seq (.r 8 [oN 9 0]) c_Sc_32) (.kp [0,1,5,7,8,26,27,28] c_Sc_63)
def c_Sc_27:VC:=
 .seq (.r 7 [M 33 1,
  {op:=.mk 34 (.s 33) [.sc] [(.bool false)] 140737488355328},
  M 8 34]) c_Sc_29
def c_Sc_104:VC:=
 .r 30 [{op:=.bin 115 .add (.s 28) (.k (.int .i64 1))},
  M 28 115]
def c_Sc_23:VC:=
 .seq (.blk 1 (.seq (.r 6 [M 30 28,
  oX 31 26 28 3,
  {op:=.ld 32 (.s 31) 3 true},
  {op:=.alloc 7 [.k (.int .i64 0),.k (.int .i64 0),.o [.sc]]},
  M 6 30,
  oS 7 32 3]) c_Sc_27)) c_Sc_104
def c_Sc_19:VC:=
 .seq (.ite (.s 29) (.skip) (.exit 0)) c_Sc_23
def c_Sc_17:VC:=
 .seq (.r 5 [{op:=.bin 29 .lss (.s 28) (.s 27)}]) c_Sc_19
def c_Sc_15:VC:=
 .blk 0 (.loop [0,1,5,26,27,28] c_Sc_17)
def c_Sc_105:VC:=
 .seq (.r 31 [M 116 5,
  M 4 116]) (.ret)
def c_Sc_12:VC:=
 .seq (.seq (.r 4 [M 26 0,
  {op:=.len 27 (.s 26)},
  oN 28 0]) c_Sc_15) (.kp [5] c_Sc_105)
def c_Sc_10:VC:=
 .seq (.r 3 [{op:=.nil 5 [.sc]}]) c_Sc_12
def c_Sc_2:VC:=
 .seq (.seq (.r 1 [M 15 0,
  {op:=.call 16 27 [(.s 15)]},
  {op:=.un 17 .not (.s 16)},
  M 18 17,
  ⟨none,[],some (18,false),.mv 19 (.s 1)⟩,
  ⟨none,[],some (18,false),.bin 20 .lss (.s 19) (.k (.int .i64 1))⟩,
  {op:=.pick 21 (.s 18) (.k (.bool true)) (.s 20)},
  M 22 21,
  ⟨none,[],some (22,false),.mv 23 (.s 1)⟩,
  ⟨none,[],some (22,false),.bin 24 .gtr (.s 23) (.k (.int .i64 100))⟩,
  {op:=.pick 25 (.s 22) (.k (.bool true)) (.s 24)}]) c_Sc_5) c_Sc_10
def c_Sc_0:VC:=
 .seq (.r 0 [{op:=.nil 4 [.sc]}]) c_Sc_2
def vf_Sc:VF:={ pm:=[.ro [.ro [.sc,.sc,.ro [.sc]]],.ro [.sc]],rm:=[.v [.own [.sc]]],nslots:=117,res:=[4],rc:=[],code:=.kp [0,1] c_Sc_0 }
def c_La_5:VC:=
 .ite (.s 10) (.seq (.r 2 [oK 4 false]) (.ret)) (.skip)
def c_La_27:VC:=
 .ite (.s 24) (.seq (.r 7 [oK 4 false]) (.ret)) (.skip)
def c_La_25:VC:=
 .seq (.d 6 [(0,M 16 0),
  (1,M 17 5),
  (2,oX 18 16 17 1),
  (3,oV 19 18 1),
  (4,M 20 1),
  (5,M 21 5),
  (6,oX 22 20 21 1),
  (7,oV 23 22 1),
  (8,{op:=.bin 24 .neq (.s 19) (.s 23)})]) c_La_27
def c_La_32:VC:=
 .r 8 [{op:=.bin 25 .add (.s 13) (.k (.int .i64 1))},
  M 13 25]
def c_La_21:VC:=
 .seq (.blk 1 (.seq (.r 5 [M 15 13,
  M 5 15]) c_La_25)) c_La_32
def c_La_17:VC:=
 .seq (.ite (.s 14) (.skip) (.exit 0)) c_La_21
def c_La_15:VC:=
 .seq (.r 4 [{op:=.bin 14 .lss (.s 13) (.s 12)}]) c_La_17
def c_La_13:VC:=
 .blk 0 (.loop [0,1,12,13] c_La_15)
def c_La_33:VC:=
 .seq (.r 9 [oK 4 true]) (.ret)
def c_La_10:VC:=
 .seq (.seq (.r 3 [M 11 0,
  {op:=.len 12 (.s 11)},
  oN 13 0]) c_La_13) (.kp [] c_La_33)
def c_La_2:VC:=
 .seq (.seq (.r 1 [M 6 0,
  {op:=.len 7 (.s 6)},
  M 8 1,
  {op:=.len 9 (.s 8)},
  {op:=.bin 10 .neq (.s 7) (.s 9)}]) c_La_5) c_La_10
def c_La_0:VC:=
 .seq (.r 0 [oK 4 false]) c_La_2
def vf_La:VF:={ pm:=[.ro [.ro [.sc]],.ro [.ro [.sc]]],rm:=[.v [.sc]],nslots:=26,res:=[4],rc:=[],code:=.kp [0,1] c_La_0 }
def c_laws_FnRoomy_5:VC:=
 .ite (.s 15) (.seq (.r 2 [oK 2 true]) (.ret)) (.skip)
def c_laws_FnRoomy_17:VC:=
 .ite (.s 29) (.seq (.r 6 [oK 2 false]) (.ret)) (.skip)
def c_laws_FnRoomy_25:VC:=
 .ite (.s 32) (.seq (.r 8 [oK 2 true]) (.ret)) (.skip)
def c_laws_FnRoomy_48:VC:=
 .ite (.s 42) (.exit 1) (.skip)
def c_laws_FnRoomy_54:VC:=
 .ite (.s 55) (.seq (.r 14 [oK 2 false]) (.ret)) (.skip)
def c_laws_FnRoomy_66:VC:=
 .ite (.s 58) (.skip) (.exit 2)
def c_laws_FnRoomy_75:VC:=
 .ite (.s 116) (.seq (.r 20 [oK 2 false]) (.ret)) (.skip)
def c_laws_FnRoomy_73:VC:=
 .seq (.d 19 [(0,M 95 5),
  (1,M 96 7),
  (2,oX 97 95 96 1),
  (3,oL 98 97 1),
  (4,{op:=.bin 99 .geq (.s 98) (.k (.int .i64 0))}),
  (5,M 100 99),
  (6,⟨none,[],some (100,true),.mv 101 (.s 3)⟩),
  (7,⟨none,[],some (100,true),.mv 102 (.s 7)⟩),
  (8,⟨none,[],some (100,true),.iadr 103 (.s 101) (.s 102) 3⟩),
  (9,⟨none,[],some (100,true),.fadr 104 (.s 103) 1⟩),
  (10,⟨none,[],some (100,true),.ld 105 (.s 104) 1 false⟩),
  (11,⟨none,[],some (100,true),.mv 106 (.s 3)⟩),
  (12,⟨none,[],some (100,true),.mv 107 (.s 6)⟩),
  (13,⟨none,[],some (100,true),.iadr 108 (.s 106) (.s 107) 3⟩),
  (14,⟨none,[],some (100,true),.fadr 109 (.s 108) 0⟩),
  (15,⟨none,[],some (100,true),.ld 110 (.s 109) 1 false⟩),
  (16,⟨none,[],some (100,true),.bin 111 .gtr (.s 105) (.s 110)⟩),
  (17,{op:=.pick 112 (.s 100) (.s 111) (.k (.bool false))}),
  (18,M 113 112),
  (19,⟨none,[],some (113,true),.mv 114 (.s 8)⟩),
  (20,⟨none,[],some (113,true),.un 115 .not (.s 114)⟩),
  (21,{op:=.pick 116 (.s 113) (.s 115) (.k (.bool false))})]) c_laws_FnRoomy_75
def c_laws_FnRoomy_80:VC:=
 .r 17 [M 59 7,
  {op:=.bin 60 .add (.s 59) (.k (.int .i64 1))},
  M 7 60]
def c_laws_FnRoomy_69:VC:=
 .seq (.blk 3 (.seq (.d 18 [(0,M 61 5),
  (1,M 62 7),
  (2,oX 63 61 62 1),
  (3,oL 64 63 1),
  (4,M 65 3),
  (5,M 66 7),
  (6,oX 67 65 66 3),
  (7,oF 68 67 2),
  (8,oL 69 68 1),
  (9,{op:=.len 70 (.s 69)}),
  (10,{op:=.bin 71 .add (.s 64) (.s 70)}),
  (11,M 72 5),
  (12,M 73 6),
  (13,oX 74 72 73 1),
  (14,oL 75 74 1),
  (15,{op:=.bin 76 .leq (.s 71) (.s 75)}),
  (16,M 77 76),
  (17,⟨none,[],some (77,false),.mv 78 (.s 5)⟩),
  (18,⟨none,[],some (77,false),.mv 79 (.s 6)⟩),
  (19,⟨none,[],some (77,false),.iadr 80 (.s 78) (.s 79) 1⟩),
  (20,⟨none,[],some (77,false),.ld 81 (.s 80) 1 false⟩),
  (21,⟨none,[],some (77,false),.mv 82 (.s 3)⟩),
  (22,⟨none,[],some (77,false),.mv 83 (.s 6)⟩),
  (23,⟨none,[],some (77,false),.iadr 84 (.s 82) (.s 83) 3⟩),
  (24,⟨none,[],some (77,false),.fadr 85 (.s 84) 2⟩),
  (25,⟨none,[],some (77,false),.ld 86 (.s 85) 1 false⟩),
  (26,⟨none,[],some (77,false),.len 87 (.s 86)⟩),
  (27,⟨none,[],some (77,false),.bin 88 .add (.s 81) (.s 87)⟩),
  (28,⟨none,[],some (77,false),.mv 89 (.s 5)⟩),
  (29,⟨none,[],some (77,false),.mv 90 (.s 7)⟩),
  (30,⟨none,[],some (77,false),.iadr 91 (.s 89) (.s 90) 1⟩),
  (31,⟨none,[],some (77,false),.ld 92 (.s 91) 1 false⟩),
  (32,⟨none,[],some (77,false),.bin 93 .leq (.s 88) (.s 92)⟩),
  (33,{op:=.pick 94 (.s 77) (.k (.bool true)) (.s 93)}),
  (34,M 8 94)]) (.kp [3,4,5,6,7,8,34,35] c_laws_FnRoomy_73))) c_laws_FnRoomy_80
def c_laws_FnRoomy_63:VC:=
 .seq (.seq (.r 16 [M 56 7,
  M 57 6,
  {op:=.bin 58 .lss (.s 56) (.s 57)}]) c_laws_FnRoomy_66) c_laws_FnRoomy_69
def c_laws_FnRoomy_61:VC:=
 .blk 2 (.loop [3,4,5,6,7,34,35] c_laws_FnRoomy_63)
def c_laws_FnRoomy_59:VC:=
 .seq (.r 15 [oN 7 0]) c_laws_FnRoomy_61
def c_laws_FnRoomy_51:VC:=
 .seq (.seq (.d 13 [(0,M 43 5),
  (1,M 44 6),
  (2,oX 45 43 44 1),
  (3,oL 46 45 1),
  (4,M 47 3),
  (5,M 48 6),
  (6,oX 49 47 48 3),
  (7,oF 50 49 2),
  (8,oL 51 50 1),
  (9,{op:=.len 52 (.s 51)}),
  (10,{op:=.bin 53 .add (.s 46) (.s 52)}),
  (11,M 54 4),
  (12,{op:=.bin 55 .gtr (.s 53) (.s 54)})]) c_laws_FnRoomy_54) c_laws_FnRoomy_59
def c_laws_FnRoomy_45:VC:=
 .seq (.seq (.r 12 [M 38 5,
  M 39 6,
  oX 40 38 39 1,
  oL 41 40 1,
  {op:=.bin 42 .lss (.s 41) (.k (.int .i64 0))}]) c_laws_FnRoomy_48) c_laws_FnRoomy_51
def c_laws_FnRoomy_81:VC:=
 .r 21 [{op:=.bin 117 .add (.s 35) (.k (.int .i64 1))},
  M 35 117]
def c_laws_FnRoomy_41:VC:=
 .seq (.blk 1 (.seq (.r 11 [M 37 35,
  M 6 37]) c_laws_FnRoomy_45)) (.kp [3,4,5,34,35] c_laws_FnRoomy_81)
def c_laws_FnRoomy_37:VC:=
 .seq (.ite (.s 36) (.skip) (.exit 0)) c_laws_FnRoomy_41
def c_laws_FnRoomy_35:VC:=
 .seq (.r 10 [{op:=.bin 36 .lss (.s 35) (.s 34)}]) c_laws_FnRoomy_37
def c_laws_FnRoomy_33:VC:=
 .blk 0 (.loop [3,4,5,34,35] c_laws_FnRoomy_35)
def c_laws_FnRoomy_99:VC:=
 .r 26 [M 123 9,
  M 124 3,
  M 125 10,
  oX 126 124 125 3,
  oF 127 126 2,
  oL 128 127 1,
  {op:=.len 129 (.s 128)},
  {op:=.bin 130 .add (.s 123) (.s 129)},
  M 9 130]
def c_laws_FnRoomy_100:VC:=
 .r 27 [{op:=.bin 131 .add (.s 120) (.k (.int .i64 1))},
  M 120 131]
def c_laws_FnRoomy_95:VC:=
 .seq (.blk 5 (.seq (.r 25 [M 122 120,
  M 10 122]) c_laws_FnRoomy_99)) c_laws_FnRoomy_100
def c_laws_FnRoomy_91:VC:=
 .seq (.ite (.s 121) (.skip) (.exit 4)) c_laws_FnRoomy_95
def c_laws_FnRoomy_89:VC:=
 .seq (.r 24 [{op:=.bin 121 .lss (.s 120) (.s 119)}]) c_laws_FnRoomy_91
def c_laws_FnRoomy_87:VC:=
 .blk 4 (.loop [3,9,119,120] c_laws_FnRoomy_89)
def c_laws_FnRoomy_104:VC:=
 .ite (.s 133) (.seq (.r 29 [oK 2 true]) (.ret)) (.skip)
def c_laws_FnRoomy_126:VC:=
 .ite (.s 143) (.seq (.r 34 [oK 2 false]) (.ret)) (.skip)
def c_laws_FnRoomy_124:VC:=
 .seq (.r 33 [M 142 12,
  {op:=.bin 143 .lss (.s 142) (.k (.int .i64 0))}]) c_laws_FnRoomy_126
def c_laws_FnRoomy_131:VC:=
 .r 35 [{op:=.bin 144 .add (.s 138) (.k (.int .i64 1))},
  M 138 144]
def c_laws_FnRoomy_120:VC:=
 .seq (.blk 7 (.seq (.r 32 [oX 140 136 138 1,
  oL 141 140 1,
  M 12 141]) c_laws_FnRoomy_124)) c_laws_FnRoomy_131
def c_laws_FnRoomy_116:VC:=
 .seq (.ite (.s 139) (.skip) (.exit 6)) c_laws_FnRoomy_120
def c_laws_FnRoomy_114:VC:=
 .seq (.r 31 [{op:=.bin 139 .lss (.s 138) (.s 137)}]) c_laws_FnRoomy_116
def c_laws_FnRoomy_112:VC:=
 .blk 6 (.loop [136,137,138] c_laws_FnRoomy_114)
def c_laws_FnRoomy_132:VC:=
 .seq (.r 36 [oK 2 true]) (.ret)
def c_laws_FnRoomy_109:VC:=
 .seq (.seq (.r 30 [M 134 3,
  M 135 9,
  {op:=.call 136 9 [(.s 134),(.s 135)]},
  {op:=.len 137 (.s 136)},
  oN 138 0]) c_laws_FnRoomy_112) (.kp [] c_laws_FnRoomy_132)
def c_laws_FnRoomy_101:VC:=
 .seq (.seq (.r 28 [M 132 9,
  {op:=.bin 133 .gtr (.s 132) (.k (.int .i64 100))}]) c_laws_FnRoomy_104) c_laws_FnRoomy_109
def c_laws_FnRoomy_84:VC:=
 .seq (.seq (.r 23 [M 118 3,
  {op:=.len 119 (.s 118)},
  oN 120 0]) c_laws_FnRoomy_87) (.kp [3,9] c_laws_FnRoomy_101)
def c_laws_FnRoomy_82:VC:=
 .seq (.r 22 [oN 9 0]) c_laws_FnRoomy_84
def c_laws_FnRoomy_30:VC:=
 .seq (.seq (.r 9 [M 33 3,
  {op:=.len 34 (.s 33)},
  oN 35 0]) c_laws_FnRoomy_33) (.kp [3] c_laws_FnRoomy_82)
def c_laws_FnRoomy_22:VC:=
 .seq (.seq (.r 7 [M 30 5,
  {op:=.len 31 (.s 30)},
  {op:=.bin 32 .eql (.s 31) (.k (.int .i64 0))}]) c_laws_FnRoomy_25) c_laws_FnRoomy_30
def c_laws_FnRoomy_14:VC:=
 .seq (.seq (.r 5 [M 24 5,
  M 25 3,
  M 26 4,
  {op:=.call 27 11 [(.s 25),(.s 26)]},
  {op:=.call 28 10 [(.s 24),(.s 27)]},
  {op:=.un 29 .not (.s 28)}]) c_laws_FnRoomy_17) c_laws_FnRoomy_22
def c_laws_FnRoomy_12:VC:=
 .seq (.r 4 [M 21 3,
  M 22 4,
  {op:=.call 23 9 [(.s 21),(.s 22)]},
  M 5 23]) c_laws_FnRoomy_14
def c_laws_FnRoomy_10:VC:=
 .seq (.r 3 [M 17 0,
  {op:=.call 18 8 [(.s 17)]},
  M 16 18,
  {op:=.ext 19 (.s 16) 0},
  {op:=.ext 20 (.s 16) 1},
  M 3 19,
  M 4 20]) c_laws_FnRoomy_12
def c_laws_FnRoomy_2:VC:=
 .seq (.seq (.r 1 [M 13 0,
  {op:=.len 14 (.s 13)},
  {op:=.bin 15 .gtr (.s 14) (.k (.int .i64 1048576))}]) c_laws_FnRoomy_5) c_laws_FnRoomy_10
def c_laws_FnRoomy_0:VC:=
 .seq (.r 0 [oK 2 false]) c_laws_FnRoomy_2
def vf_laws_FnRoomy:VF:={ pm:=[.ro [.ro [.sc]]],rm:=[.v [.sc]],nslots:=145,res:=[2],rc:=[],code:=.kp [0] c_laws_FnRoomy_0 }
def ext:FuncId→List Arg→Option FRes:=fun f ars=>if f=53 then ex_strings_Contains ars else none
def tblL:List (FuncId×VF):=[(44,vf_Sj),(30,vf_Sl),(52,vf_Sm),(51,vf_Sf),(43,vf_Si),(31,vf_Sk),(29,vf_Se),(8,vf_Sa),(35,vf_Ie),(53,vf_strings_Contains),(49,vf_Id),(41,vf_Ic),(26,vf_Ia),(9,vf_Ib),(33,vf_Sh),(50,vf_Sd),(42,vf_Sg),(27,vf_Sb),(11,vf_Sc),(10,vf_La),(3,vf_laws_FnRoomy)]
def tbl:FuncId→Option VF:=fun f=>tblL.lookup f
end Go.Proofs.V

namespace Go.Proofs.V
open Go
theorem fi_Sj:funcIs Go.Proofs.Try.prog tbl 44 vf_Sj=true:=by kernel_rfl
theorem fi_Sl:funcIs Go.Proofs.Try.prog tbl 30 vf_Sl=true:=by kernel_rfl
theorem fi_Sm:funcIs Go.Proofs.Try.prog tbl 52 vf_Sm=true:=by kernel_rfl
theorem fi_Sf:funcIs Go.Proofs.Try.prog tbl 51 vf_Sf=true:=by kernel_rfl
theorem fi_Si:funcIs Go.Proofs.Try.prog tbl 43 vf_Si=true:=by kernel_rfl
theorem fi_Sk:funcIs Go.Proofs.Try.prog tbl 31 vf_Sk=true:=by kernel_rfl
theorem fi_Se:funcIs Go.Proofs.Try.prog tbl 29 vf_Se=true:=by kernel_rfl
theorem fi_Sa:funcIs Go.Proofs.Try.prog tbl 8 vf_Sa=true:=by kernel_rfl
theorem fi_Ie:funcIs Go.Proofs.Try.prog tbl 35 vf_Ie=true:=by kernel_rfl
theorem fi_Id:funcIs Go.Proofs.Try.prog tbl 49 vf_Id=true:=by kernel_rfl
theorem fi_Ic:funcIs Go.Proofs.Try.prog tbl 41 vf_Ic=true:=by kernel_rfl
theorem fi_Ia:funcIs Go.Proofs.Try.prog tbl 26 vf_Ia=true:=by kernel_rfl
theorem fi_Ib:funcIs Go.Proofs.Try.prog tbl 9 vf_Ib=true:=by kernel_rfl
theorem fi_Sh:funcIs Go.Proofs.Try.prog tbl 33 vf_Sh=true:=by kernel_rfl
theorem fi_Sd:funcIs Go.Proofs.Try.prog tbl 50 vf_Sd=true:=by kernel_rfl
theorem fi_Sg:funcIs Go.Proofs.Try.prog tbl 42 vf_Sg=true:=by kernel_rfl
theorem fi_Sb:funcIs Go.Proofs.Try.prog tbl 27 vf_Sb=true:=by kernel_rfl
theorem fi_Sc:funcIs Go.Proofs.Try.prog tbl 11 vf_Sc=true:=by kernel_rfl
theorem fi_La:funcIs Go.Proofs.Try.prog tbl 10 vf_La=true:=by kernel_rfl
theorem fi_laws_FnRoomy:funcIs Go.Proofs.Try.prog tbl 3 vf_laws_FnRoomy=true:=by kernel_rfl
def gI:GInv:=gCell 0
def ren_strings_Contains:Go.Shelf.Ren:=⟨fun n=>match n with | 144=>53 | 143=>54 | 219=>55 | 217=>56 | 225=>57 | 224=>58 | 267=>59 | 266=>60 | 314=>61 | n=>n,fun n=>match n with | 9=>9 | 4=>4 | 3=>3 | 5=>5 | 46=>70 | 146=>75 | 51=>74 | n=>n,fun n=>match n with | 1=>0 | n=>n⟩
theorem lays_strings_Contains:Go.Proofs.LaysM.n144 Go.Proofs.Try.prog ren_strings_Contains where
 mixed:=by kernel_rfl
 f143:=Go.Proofs.Try.func54.trans (congrArg some (by kernel_rfl))
 f144:=Go.Proofs.Try.func53.trans (congrArg some (by kernel_rfl))
 f217:=Go.Proofs.Try.func56.trans (congrArg some (by kernel_rfl))
 f219:=Go.Proofs.Try.func55.trans (congrArg some (by kernel_rfl))
 f224:=Go.Proofs.Try.func58.trans (congrArg some (by kernel_rfl))
 f225:=Go.Proofs.Try.func57.trans (congrArg some (by kernel_rfl))
 f266:=Go.Proofs.Try.func60.trans (congrArg some (by kernel_rfl))
 f267:=Go.Proofs.Try.func59.trans (congrArg some (by kernel_rfl))
 f314:=Go.Proofs.Try.func61.trans (congrArg some (by kernel_rfl))
 t3:=Go.Proofs.Try.underlying3
 a3:=Go.Proofs.Try.isAgg3
 z3:=Go.Proofs.Try.sizeOf3
 v3:=Go.Proofs.Try.zeroValue3
 t4:=Go.Proofs.Try.underlying4
 a4:=Go.Proofs.Try.isAgg4
 z4:=Go.Proofs.Try.sizeOf4
 v4:=Go.Proofs.Try.zeroValue4
 t5:=Go.Proofs.Try.underlying5
 a5:=Go.Proofs.Try.isAgg5
 z5:=Go.Proofs.Try.sizeOf5
 v5:=Go.Proofs.Try.zeroValue5
 t9:=Go.Proofs.Try.underlying9
 a9:=Go.Proofs.Try.isAgg9
 z9:=Go.Proofs.Try.sizeOf9
 v9:=Go.Proofs.Try.zeroValue9
 t46:=Go.Proofs.Try.underlying70
 a46:=Go.Proofs.Try.isAgg70
 z46:=Go.Proofs.Try.sizeOf70
 v46:=Go.Proofs.Try.zeroValue70
 t51:=Go.Proofs.Try.underlying74
 a51:=Go.Proofs.Try.isAgg74
 z51:=Go.Proofs.Try.sizeOf74
 v51:=Go.Proofs.Try.zeroValue74
 t146:=Go.Proofs.Try.underlying75
 a146:=Go.Proofs.Try.isAgg75
 z146:=Go.Proofs.Try.sizeOf75
 v146:=Go.Proofs.Try.zeroValue75
 g1:=by kernel_rfl
 i3:=by kernel_rfl
 i4:=by kernel_rfl
 i5:=by kernel_rfl
 i9:=by kernel_rfl
 i46:=by kernel_rfl
 i51:=by kernel_rfl
 i146:=by kernel_rfl
 m1:=by kernel_rfl
 s1_3:=fun w h=>Go.Proofs.cell_of_shapedOpen_int (zero:=#[.int .i64 0]) (t:=3) h (of_decide_eq_true (by kernel_rfl)) (by kernel_rfl) rfl (by kernel_rfl) (by kernel_rfl) Go.Proofs.Try.underlying3
theorem giv_strings_Contains (p0:ByteArray) (p1:ByteArray) (r:Bool) (h:gContains p0 p1=some r) (w:World) (hw:gI.I w):Calls Go.Proofs.Try.prog 53 [(.string p0:Value),(.string p1:Value)].toArray w fun e w'=>e=.returned (.bool r)∧w' = w:=by
 unfold gContains at h
 split at h
 ·rename_i hs
  obtain rfl:=Option.some.inj h
  obtain ⟨m,hm⟩:=hw
  exact Go.Proofs.Any.strings_Contains { lays_strings_Contains with } p0 p1 m w hs hm
 ·simp at h
theorem gv_strings_Contains:∀ ars res st0,enter vf_strings_Contains ars=some st0→ext 53 ars=some res→callable Go.Proofs.Try.prog 53=true∧Does gI Go.Proofs.Try.prog 53 vf_strings_Contains st0 res:=by
 intro ars res st0 he hx
 refine ⟨by kernel_rfl,?_⟩
 have key:∃ p0 p1,ars=[.v false [.lit (.string p0)],.v false [.lit (.string p1)]]∧(gContains p0 p1).map (fun r=>(⟨[.v false [.lit (.bool r)]],[]⟩:FRes))=some res:=by
  have hx' : ex_strings_Contains ars=some res:=hx
  unfold ex_strings_Contains at hx'
  split at hx'
  ·exact ⟨_,_,rfl,hx'⟩
  ·simp at hx'
 obtain ⟨p0,p1,rfl,h2⟩:=key
 obtain ⟨r,h3,rfl⟩:=Option.map_eq_some_iff.1 h2
 refine given_does (vals:=[(.string p0:Value),(.string p1:Value)]) (v:=.bool r) (m:=2) rfl rfl rfl rfl rfl rfl he ?_ ?_
 ·have h4:enter vf_strings_Contains ([.v false [.lit (.string p0)],.v false [.lit (.string p1)]])=some ⟨[SV.v false [.lit (.string p0)],SV.v false [.lit (.string p1)]]++[undefS],[],[]⟩:=by kernel_rfl
  exact Option.some.inj (he.symm.trans h4)
 ·intro w hw
  exact giv_strings_Contains p0 p1 r h3 w hw
end Go.Proofs.V
