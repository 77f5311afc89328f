/- The tree semantics: a run of the functions is what the machine does. -/
import Derived.Test.YtfmagdeiaanmcaaFnExactDecodeTonesV1
import Derived.ChangeArms
import Derived.OpenShut
import Derived.Deep.Slices
import Derived.DataReads
import Derived.Below
import Derived.WideShapes
import Derived.IntWalk
set_option linter.unusedSimpArgs false
set_option linter.unusedVariables false
namespace Go.Proofs.V
open Go
variable {P : Program}

def initTm (args : Array Value) (n : Nat) : Array Value := args ++ Array.replicate (n - args.size) undef

def pinsOf : List PM → List Value → Nat → List (Nat × Value)
  | pm :: pms, v :: vs, k => (if pm.isBack then [(k, v)] else []) ++ pinsOf pms vs (k + 1)
  | _, _, _ => []

def resV : List Value → Value
  | [v] => v
  | vs => .tuple vs.toArray

def callable (P : Program) (f : FuncId) : Bool :=
  match P.funcs[f]? with
  | some fn => fn.body.isSome && fn.name != "runtime.NumGoroutine"
  | none => false

/-- what a function leaves -/
def Ret (vf : VF) (Ac : Nat → Prop) (pin0 : List (Nat × Value)) (w : World) (Fc : Nat → Prop) (res : FRes) (v : Value) (w' : World) : Prop :=
  ∃ F' O' Go' Gv' st' tm', Rel Ac pin0 w' F' O' Go' Gv' st' tm' ∧ Step Ac w w' ∧ (∀ b, Fc b → F' b) ∧ (∀ b, F' b → Fc b ∨ Ac b) ∧ leave vf st' = some res ∧ v = resV (vf.res.map fun k => tm'.getD k undef)

/-- what a function does, called -/
def Does (P : Program) (f : FuncId) (vf : VF) (st0 : St) (res : FRes) : Prop :=
  ∀ (args : Array Value) (w : World) (Fc Ac : Nat → Prop) (O : Nat → Option Ow) (Go : Nat → Gh) (Gv : Nat → Option Nat), args.size = vf.pm.length → Rel Ac (pinsOf vf.pm args.toList 0) w Fc O Go Gv st0 (initTm args vf.nslots) →
    Calls P f args w fun e w' => ∃ v, e = .returned v ∧ Ret vf Ac (pinsOf vf.pm args.toList 0) w Fc res v w'

def FSound (P : Program) (tbl : FuncId → Option VF) (run : FuncId → List Arg → Option FRes) : Prop :=
  ∀ f vf ars res, tbl f = some vf → run f ars = some res → callable P f = true ∧ ∃ st0, enter vf ars = some st0 ∧ Does P f vf st0 res

theorem Calls.mono {f : FuncId} {args : Array Value} {w : World} {R R' : Ending → World → Prop} (h : Calls P f args w R) (hr : ∀ e w', R e w' → R' e w') : Calls P f args w R' :=
  fun cs => let ⟨e, w', fr, r, s⟩ := h cs; ⟨e, w', fr, hr _ _ r, s⟩

theorem pinsOf_mem : ∀ {pms : List PM} {vs : List Value} {k j : Nat} {v : Value}, (j, v) ∈ pinsOf pms vs k → ∃ i, j = k + i ∧ vs[i]? = some v ∧ ∃ pm, pms[i]? = some pm ∧ pm.isBack = true
  | pm :: pms, u :: vs, k, j, v, h => by
    simp only [pinsOf, List.mem_append] at h
    rcases h with h | h
    · cases hb : pm.isBack with
      | false => simp [hb] at h
      | true =>
        simp [hb] at h
        obtain ⟨rfl, rfl⟩ := h
        exact ⟨0, rfl, rfl, pm, rfl, hb⟩
    · obtain ⟨i, h1, h2, pm', h3, h4⟩ := pinsOf_mem h
      exact ⟨i + 1, by omega, by simpa using h2, pm', by simpa using h3, h4⟩
  | [], _, _, _, _, h | _ :: _, [], _, _, _, h => by simp [pinsOf] at h

theorem pinsOf_in : ∀ {pms : List PM} {vs : List Value} {k i : Nat} {v : Value} {pm : PM}, pms[i]? = some pm → vs[i]? = some v → pm.isBack = true → (k + i, v) ∈ pinsOf pms vs k
  | pm :: pms, u :: vs, k, 0, v, pm', h1, h2, h3 => by
    simp at h1 h2
    subst h1; subst h2
    simp [pinsOf, h3]
  | pm :: pms, u :: vs, k, i + 1, v, pm', h1, h2, h3 => by
    simp only [pinsOf, List.mem_append]
    right
    have := pinsOf_in (k := k + 1) (by simpa using h1) (by simpa using h2) h3
    rwa [show k + 1 + i = k + (i + 1) by omega] at this
  | [], _, _, _, _, _, h1, _, _ => by simp at h1
  | _ :: _, [], _, _, _, _, _, h2, _ => by simp at h2

section
variable {A Ac : Nat → Prop} {pin : List (Nat × Value)} {w w' : World} {F Fc : Nat → Prop} {O Op : Nat → Option Ow} {Go Gop : Nat → Gh} {Gv Gvp : Nat → Option Nat} {st st' stp : St} {tm tmp : Array Value}
variable {tbl : FuncId → Option VF} {run : FuncId → List Arg → Option FRes}

theorem Rel.repin (h : Rel A pin w F O Go Gv st tm) {pin2 : List (Nat × Value)} (hp : ∀ k v, (k, v) ∈ pin2 → tm[k]? = some v) : Rel A pin2 w F O Go Gv st tm := { h with pinned := hp }

theorem Rel.pad : ∀ (n : Nat) {st : St} {tm : Array Value}, Rel A [] w F O Go Gv st tm → Rel A [] w F O Go Gv { st with slots := st.slots ++ List.replicate n undefS } (tm ++ Array.replicate n undef)
  | 0, st, tm, h => by simpa using h
  | n + 1, st, tm, h => by
    have h1 := Rel.pad n (h.pushSlot (v := undef) (s := undefS) undefRel)
    have e1 : (st.slots ++ [undefS]) ++ List.replicate n undefS = st.slots ++ List.replicate (n + 1) undefS := by simp [List.replicate_succ]
    have e2 : tm.push undef ++ Array.replicate n undef = tm ++ Array.replicate (n + 1) undef := by
      apply Array.ext'
      simp [List.replicate_succ]
    simp only [e1, e2] at h1
    exact h1

theorem getAll_rel (h : Rel A pin w F O Go Gv st tm) (ds : List Deferred) : ∀ {xs : List Opd} {ys : List Operand} {l : List SV}, getAll st xs = some l → opdsAre xs ys = true →
    ys.length = l.length ∧ ∀ (k : Nat) (y : Operand) (x : SV), ys[k]? = some y → l[k]? = some x → SRel w F Go Gv st ((Act.mk tm ds).eval y) x
  | [], [], l, hl, _ => by simp [getAll] at hl; subst hl; exact ⟨rfl, by simp⟩
  | [], _ :: _, _, _, ho | _ :: _, [], _, _, ho => by simp [opdsAre] at ho
  | x :: xs, y :: ys, l, hl, ho => by
    simp [opdsAre] at ho
    simp only [getAll] at hl
    split at hl
    · rename_i a b e1 e2
      simp at hl
      subst hl
      obtain ⟨h1, h2⟩ := getAll_rel h ds e2 ho.2
      refine ⟨by simp [h1], fun k y' x' hy hx => ?_⟩
      cases k with
      | zero => simp at hy hx; subst hy; subst hx; exact h.get ho.1 e1 ds
      | succ k => exact h2 k y' x' (by simpa using hy) (by simpa using hx)
    · simp at hl

theorem passAll_len : ∀ {pms : List PM} {xs : List SV} {ps : Pass}, passAll st pms xs = some ps → xs.length = pms.length
  | [], [], _, _ => rfl
  | [], _ :: _, _, h | _ :: _, [], _, h => by simp [passAll] at h
  | pm :: pms, x :: xs, ps, h => by
    simp only [passAll] at h
    split at h
    · rename_i a b h1 h2
      simp [passAll_len h2]
    · simp at h

theorem passAll_ids (h : Rel A pin w F O Go Gv st tm) : ∀ {pms : List PM} {xs : List SV} {ps : Pass} {vals : List Value}, passAll st pms xs = some ps → vals.length = xs.length → (∀ (j : Nat) (v : Value) (x : SV), vals[j]? = some v → xs[j]? = some x → SRel w F Go Gv st v x) →
    ∀ id, id ∈ ps.hs.map (·.1) → id < st.objs.length
  | [], [], ps, vals, hp, _, _ => by simp [passAll] at hp; subst hp; simp
  | [], _ :: _, _, _, hp, _, _ | _ :: _, [], _, _, hp, _, _ => by simp [passAll] at hp
  | pm :: pms, x :: xs, ps, vals, hp, hvl, hvr => by
    simp only [passAll] at hp
    split at hp
    · rename_i pa pb ha hb
      simp at hp
      subst hp
      cases vals with
      | nil => simp at hvl
      | cons v vals =>
        intro id hid
        simp only [List.map_append, List.mem_append] at hid
        rcases hid with hid | hid
        · have hv := hvr 0 v x rfl rfl
          unfold passOne at ha
          split at ha
          · split at ha
            · simp at ha; subst ha; simp at hid
            · simp at ha
          · rename_i ots agg cs
            split at ha
            · rename_i ts us ht
              simp at ha
              subst ha
              rw [roots_fst] at hid
              obtain ⟨_, _, _, _, _, t6⟩ := h.toTs ht (slot_cells hv (toTs_ne ht))
              obtain ⟨o, ho⟩ := t6 id hid
              exact obj_lt ho
            · simp at ha
          · rename_i ots i
            split at ha
            · rename_i cs hcs
              split at ha
              · rename_i ts us ht
                simp at ha
                subst ha
                rw [roots_fst] at hid
                obtain ⟨g, hg, _⟩ := h.vars i cs hcs
                obtain ⟨ws, w1, w2, _⟩ := h.varVals hcs hg
                obtain ⟨_, _, _, _, _, t6⟩ := h.toTs ht w2
                obtain ⟨o, ho⟩ := t6 id hid
                exact obj_lt ho
              · simp at ha
            · simp at ha
          · rename_i ot i p len
            split at ha
            · rename_i o ho
              split at ha
              · split at ha
                · simp at ha
                  subst ha
                  simp at hid
                  subst hid
                  exact obj_lt ho
                · simp at ha
              · simp at ha
            · simp at ha
          · rename_i ots agg cs
            split at ha
            · rename_i ts us bs ht hbk
              split at ha
              · simp at ha
                subst ha
                rw [roots_fst] at hid
                obtain ⟨_, _, _, _, _, t6⟩ := h.toTs ht (slot_cells hv (toTs_ne ht))
                obtain ⟨o, ho⟩ := t6 id hid
                exact obj_lt ho
              · simp at ha
            · simp at ha
          · simp at ha
        · exact passAll_ids h hb (by simpa using hvl) (fun j v' x' h1 h2 => hvr (j + 1) v' x' (by simpa using h1) (by simpa using h2)) id hid
    · simp at hp

theorem hasRos_mem : ∀ {p : List OT}, OT.hasRos p = false → ∀ q, q ∈ p → q.hasRo = false
  | [], _, q, hq => by simp at hq
  | a :: p, h, q, hq => by
    simp [OT.hasRos] at h
    rcases List.mem_cons.1 hq with rfl | hq
    · exact h.1
    · exact hasRos_mem h.2 q hq

/-- a call -/
theorem sound_vcall (hf : FSound P tbl run) (h : Rel A pin w F O Go Gv st tm) {d : Nat} (hd : ∀ x, (d, x) ∉ pin) {f : FuncId} {xs : List SV} {vals : List Value} (hvl : vals.length = xs.length) (hvr : ∀ (j : Nat) (v : Value) (x : SV), vals[j]? = some v → xs[j]? = some x → SRel w F Go Gv st v x)
    (hv : vcall tbl run st d f xs = some st') : callable P f = true ∧ Calls P f vals.toArray w fun e w' => ∃ v, e = .returned v ∧ Good A pin w F st' (tm.setIfInBounds d v) w' := by
  unfold vcall at hv
  split at hv
  · simp at hv
  · rename_i vf hvf
    split at hv
    · simp at hv
    · rename_i ps hps
      simp only at hv
      split at hv
      · rename_i hcond
        simp only [Bool.and_eq_true] at hcond
        obtain ⟨⟨⟨hdu, hdv⟩, hap⟩, hro⟩ := hcond
        split at hv
        · simp at hv
        · rename_i r hrun
          obtain ⟨hcall, st0, hent, hdoes⟩ := hf f vf _ r hvf hrun
          refine ⟨hcall, ?_⟩
          have hndo := distinct_nodup hdu
          have hndv := distinct_nodup hdv
          have hnotin : ∀ id, id ∈ ps.ls → id ∉ ps.hs.map (·.1) := by
            intro id hid hin
            simp only [apart, List.all_eq_true] at hap
            have := hap id hid
            simp only [Bool.not_eq_true', List.contains_eq_mem, decide_eq_false_iff_not] at this
            exact this hin
          have hlen := passAll_len hps
          -- what the callee may read
          have hFcO : ∀ b, Hand Go Gv ps.hs ps.vs b → ¬ (F b ∨ ∃ id, id ∈ ps.ls ∧ ∃ r bk, Go id r = some bk ∧ bk.g = b) := by
            rintro b hb (hF | ⟨id, hid, r, bk, e1, e2⟩)
            · obtain ⟨x, hx⟩ := hb.owned h
              rw [h.oF b hF] at hx
              simp at hx
            · have hO := h.oO _ _ _ e1
              rw [e2] at hO
              rcases hb with ⟨x, hx, r', bk', e3, e4⟩ | ⟨i, hi, e3⟩
              · have := h.oO _ _ _ e3
                rw [e4, hO] at this
                simp at this
                exact hnotin id hid (List.mem_map.2 ⟨x, hx, this.1.symm⟩)
              · have := h.oV _ _ e3
                rw [hO] at this
                simp at this
          generalize hFc : (fun b => F b ∨ ∃ id, id ∈ ps.ls ∧ ∃ r bk, Go id r = some bk ∧ bk.g = b) = Fc at *
          have hFcb : ∀ b, Fc b ↔ (F b ∨ ∃ id, id ∈ ps.ls ∧ ∃ r bk, Go id r = some bk ∧ bk.g = b) := fun b => by rw [← hFc]
          have hFsub : ∀ b, F b → Fc b := fun b hb => (hFcb b).2 (.inl hb)
          -- the callee's state
          unfold enter at hent
          split at hent
          · rename_i ste hste
            split at hent
            · rename_i hslots
              simp at hent
              have hinit : Rel (Give w Go Gv ps.hs ps.vs) [] w Fc (fun _ => none) (fun _ _ => none) (fun _ => none) ⟨[], [], []⟩ #[] := by
                refine ⟨rfl, by simp, ?_, by simp, ?_, by simp, by simp, by simp, by simp, by simp, ?_, fun b hb => .inl hb, by simp⟩
                · intro id o ho; simp [obj_eq] at ho
                · intro id cs hcs; simp [var_eq] at hcs
                · intro b hb
                  rcases (hFcb b).1 hb with hb | ⟨id, _, r, bk, e1, e2⟩
                  · exact h.fS b hb
                  · exact e2 ▸ (h.oA _ _ (h.oO _ _ _ e1)).2
              obtain ⟨O0, Go0, Gv0, hrel0⟩ := enter_rel h hFsub [] [] hinit hps hvl hvr (by simpa using hndo) (by simpa using hndv)
                (fun id hid r b hb => (hFcb _).2 (.inr ⟨id, hid, r, b, hb, rfl⟩)) (fun b hb => ⟨fun hc => hFcO b hb ((hFcb b).1 hc), .inr hb⟩) (fun b x hx => by simp at hx) hste
              have hsz : (#[] ++ vals.toArray : Array Value).size = ste.slots.length := hrel0.size
              have hvs : vals.toArray.size = ste.slots.length := by simpa using hsz
              have hpad := hrel0.pad (vf.nslots - ste.slots.length)
              have hargs : (#[] ++ vals.toArray) ++ Array.replicate (vf.nslots - ste.slots.length) undef = initTm vals.toArray vf.nslots := by
                unfold initTm
                rw [hvs]
                simp
              rw [hargs, hent] at hpad
              have hpin0 : Rel (Give w Go Gv ps.hs ps.vs) (pinsOf vf.pm vals.toArray.toList 0) w Fc O0 Go0 Gv0 st0 (initTm vals.toArray vf.nslots) := by
                refine hpad.repin (fun k v hk => ?_)
                obtain ⟨i, e1, e2, _⟩ := pinsOf_mem hk
                have hk' : k = i := by omega
                subst hk'
                have hkl : k < vals.length := (List.getElem?_eq_some_iff.1 (by simpa using e2)).1
                unfold initTm
                rw [Array.getElem?_append]
                have : k < vals.toArray.size := by simpa using hkl
                simp only [this, if_true]
                simpa using e2
              refine (hdoes vals.toArray w Fc (Give w Go Gv ps.hs ps.vs) O0 Go0 Gv0 (by simp [hvl, hlen]) hpin0).mono ?_
              rintro e w' ⟨v, rfl, F', O', Go', Gv', stf, tm', hr', hs', hFF, hFF', hleave, hvres⟩
              refine ⟨v, rfl, ?_⟩
              -- what comes back
              unfold leave at hleave
              split at hleave
              · rename_i rs us1 vs1 ms us2 vs2 hout1 hout2
                split at hleave
                · rename_i hdist
                  simp only [Bool.and_eq_true] at hdist
                  simp at hleave
                  subst hleave
                  have hnu := distinct_nodup hdist.1
                  have hnv := distinct_nodup hdist.2
                  have hgoal : ∀ (F3 : Nat → Prop) (K : OT → Prop), Ctx A pin (pinsOf vf.pm vals.toArray.toList 0) w w' F F' F3 O O' Go Go' Gv Gv' st stf tm tm' ps.hs ps.vs K → (∀ pm, pm ∈ vf.pm → pm.kinds K) → (∀ rm, rm ∈ vf.rm → rm.kinds K) → (∀ b, F3 b → F b ∨ A b) →
                      Good A pin w F st' (tm.setIfInBounds d v) w' := by
                    intro F3 K c hK1 hK2 hF3A
                    obtain ⟨OS, GoS, GvS, hi0⟩ := c.start
                    split at hv
                    · simp at hv
                    · rename_i st2 hback
                      obtain ⟨OS2, GoS2, GvS2, D2, Rst2, RstV2, hi2⟩ := back_all c (k := 0) hps hout2 hvl hvr
                        (fun j pm v' h1 h2 h3 => by
                          have := hr'.pinned (0 + j) v' (pinsOf_in h1 (by simpa using h2) h3)
                          exact this)
                        (fun x hx => hx) (fun x hx => hx) (by simpa using hndo) (by simpa using hndv) (by simpa using (List.nodup_append.1 hnu).2.1) (by simpa using (List.nodup_append.1 hnv).2.1) hK1 hi0 hback
                      have hrel2 := hi2.rel c
                      have htr : Tr w O O' OS2 Go Gv ps.hs ps.vs us2 vs2 := by
                        intro b x hx
                        rcases hi2.own b x hx with ⟨h1, _⟩ | h1
                        · exact .inl h1
                        · exact .inr (by simpa using h1)
                      have hnu' : (us2 ++ us1).Nodup := (List.perm_append_comm.nodup_iff).1 hnu
                      have hnv' : (vs2 ++ vs1).Nodup := (List.perm_append_comm.nodup_iff).1 hnv
                      have hstep : Step A w w' := ⟨hs'.size, fun b hb ha => hs'.heap b hb (fun hg => ha (c.giveA hg)), hs'.tape, hs'.os, hs'.output⟩
                      split at hv
                      · rename_i agg cs st3 hin
                        simp at hv
                        subst hv
                        obtain ⟨O3, Go3, Gv3, q1, q2, q3, q4⟩ := c.takeAll hrel2 htr hout1 hnu' hnv' hK2 hin
                        have hl1 : vf.res.length = 1 := by simpa using q3.symm
                        match hres : vf.res, hl1 with
                        | [k0], _ =>
                          rw [hres] at hvres q4
                          simp only [List.map_cons, List.map_nil, resV] at hvres
                          have := q4 0 v (agg, cs) (by simp [hvres]) rfl
                          exact ⟨F3, O3, Go3, Gv3, q1.put (s := .v agg cs) this hd, hstep, c.hF, hF3A⟩
                      · rename_i l st3 hne hin
                        simp at hv
                        subst hv
                        obtain ⟨O3, Go3, Gv3, q1, q2, q3, q4⟩ := c.takeAll hrel2 htr hout1 hnu' hnv' hK2 hin
                        have hvt : v = .tuple (vf.res.map fun k => tm'.getD k undef).toArray := by
                          rw [hvres]
                          unfold resV
                          split
                          · rename_i u he
                            have hl1 : vf.res.length = 1 := by
                              have := congrArg List.length he
                              simpa using this
                            rw [hl1] at q3
                            match l, q3 with
                            | [(agg, cs)], _ => exact (hne _ _ rfl).elim
                          · rfl
                        refine ⟨F3, O3, Go3, Gv3, q1.put (s := .tup l) ⟨_, hvt, by simp [q3], fun k u x hu hx => q4 k u x (by simpa using hu) hx⟩ hd, hstep, c.hF, hF3A⟩
                      · simp at hv
                  have hnotF : ∀ b, F b → ¬ Give w Go Gv ps.hs ps.vs b := by
                    rintro b hb (h1 | h1)
                    · have := h.fS b hb; omega
                    · obtain ⟨x, hx⟩ := h1.owned h
                      rw [h.oF b hb] at hx
                      simp at hx
                  have hgiveA : ∀ b, Give w Go Gv ps.hs ps.vs b → A b := by
                    rintro b (hb | hb)
                    · exact h.aN b hb
                    · obtain ⟨x, hx⟩ := hb.owned h
                      exact (h.oA b x hx).1
                  have hids := passAll_ids h hps hvl hvr
                  simp only [Bool.or_eq_true] at hro
                  rcases hro with hls | hnr
                  · have hls' : ps.ls = [] := by simpa using hls
                    have hFcF : ∀ b, Fc b → F b := by
                      intro b hb
                      rcases (hFcb b).1 hb with hb | ⟨id, hid, _⟩
                      · exact hb
                      · rw [hls'] at hid; simp at hid
                    refine hgoal F' (fun _ => True) ⟨h, hr', hs', hndo, hndv, hids, fun b hb => hFF b (hFsub b hb), hr'.fS, fun b hb hn => ?_, fun b hb _ => hr'.oF b hb, fun _ h => h⟩ ?_ ?_ ?_
                    · rcases hFF' b hb with h1 | h1
                      · exact h.oF b (hFcF b h1)
                      · exact absurd h1 hn
                    · intro pm _
                      cases pm <;> simp [PM.kinds]
                    · intro rm _
                      cases rm <;> simp [RM.kinds]
                    · intro b hb
                      rcases hFF' b hb with h1 | h1
                      · exact .inl (hFcF b h1)
                      · exact .inr (hgiveA b h1)
                  · simp only [Bool.not_eq_true', Bool.or_eq_false_iff] at hnr
                    refine hgoal F (fun q => q.hasRo = false) ⟨h, hr', hs', hndo, hndv, hids, fun b hb => hb, fun b hb => Nat.lt_of_lt_of_le (h.fS b hb) hs'.size, fun b hb _ => h.oF b hb, fun b hb hg => absurd hg (hnotF b hb), fun hq ho => ho.noRo hq⟩ ?_ ?_ (fun b hb => .inl hb)
                    · intro pm hpm
                      have := hnr.1
                      simp only [List.any_eq_false] at this
                      have := this pm hpm
                      cases pm with
                      | mb ots => intro o ho; exact hasRos_mem (by simpa [PM.hasRo] using this) o ho
                      | ms ot => simpa [PM.kinds, PM.hasRo, OT.hasRo] using this
                      | mg ots => intro o ho; exact hasRos_mem (by simpa [PM.hasRo] using this) o ho
                      | _ => trivial
                    · intro rm hrm
                      have := hnr.2
                      simp only [List.any_eq_false] at this
                      have := this rm hrm
                      cases rm with
                      | v ots => intro o ho; exact hasRos_mem (by simpa [RM.hasRo] using this) o ho
                      | p ots => intro o ho; exact hasRos_mem (by simpa [RM.hasRo] using this) o ho
                · simp at hleave
              · simp at hleave
            · simp at hent
          · simp at hent
      · simp at hv

theorem run_callFunc {f : FuncId} (h : callable P f = true) (args : Array Value) (w : World) : (callFunc f args).run P w = .ok (.enter f args) w := by
  unfold callable at h
  split at h
  · rename_i fn hfn
    simp only [Bool.and_eq_true, bne_iff_ne, ne_eq] at h
    unfold callFunc
    have h1 : ¬ (fn.name == "runtime.NumGoroutine") = true := by simpa using h.2
    have h2 : fn.body.isNone = false := by
      cases hb : fn.body <;> simp_all
    simp only [Sem.run_bind, run_program, Result.andThen_ok, hfn, h1, if_false, h2, Bool.false_eq_true]
    rfl
  · simp at h

theorem callOk (hf : FSound P tbl run) : CallOk P tbl run := by
  intro A pin w F O Go Gv st st' tm ds v o h hop hv hcall hd hdst next Q hn
  cases v with
  | call d f xs =>
    simp only [opIs] at hop
    split at hop
    · rename_i f' args ts heq
      simp only [Bool.and_eq_true, beq_iff_eq] at hop
      obtain ⟨rfl, hargs⟩ := hop
      simp only [vop, Option.bind_eq_some_iff] at hv
      obtain ⟨l, hl, hv⟩ := hv
      obtain ⟨h1, h2⟩ := getAll_rel h ds hl hargs
      obtain ⟨hc, hcalls⟩ := sound_vcall hf h (d := d) hd (vals := args.toList.map (Act.mk tm ds).eval) (by simpa using h1) (fun j v x hj hx => by
        simp only [List.getElem?_map, Option.map_eq_some_iff] at hj
        obtain ⟨y, hy, rfl⟩ := hj
        exact h2 j y x hy hx) hv
      have hrun : (execOp (Act.mk tm ds).eval o).run P w = .ok (.enter f (args.toList.map (Act.mk tm ds).eval).toArray) w := by
        have e : (args.toList.map (Act.mk tm ds).eval).toArray = args.map (Act.mk tm ds).eval := by apply Array.ext'; simp
        rw [e]
        have := run_callFunc hc (args.map (Act.mk tm ds).eval) w
        simp only [execOp, heq, resolve, Act.eval, Deferred.ofValue, Sem.run_bind, Sem.run_pure, Result.andThen_ok, invoke]
        simpa using this
      unfold Oper.wp
      rw [hrun, Oper.upon_enter]
      refine hcalls.mono ?_
      rintro e w' ⟨v, rfl, hg⟩
      simp only [hdst]
      exact hn _ _ hg
    · simp at hop
  | callc d x xs =>
    simp only [opIs] at hop
    split at hop
    · rename_i x' args ts heq
      simp only [Bool.and_eq_true] at hop
      obtain ⟨hx, hargs⟩ := hop
      simp only [vop] at hv
      split at hv
      · rename_i f caps l hcx hl
        split at hv
        · rename_i hcaps
          obtain ⟨h1, h2⟩ := getAll_rel h ds hl hargs
          obtain ⟨ws, e1, e2, e3⟩ := (h.cell hx hcx ds).1
          obtain ⟨hc, hcalls⟩ := sound_vcall hf h (d := d) hd (vals := args.toList.map (Act.mk tm ds).eval ++ ws.toList) (by simp [h1, e2]) (fun j v x hj hx' => by
          rw [List.getElem?_append] at hj hx'
          simp only [List.length_map, h1] at hj
          split at hj
          · rename_i hlt
            simp only [hlt, if_true] at hx'
            simp only [List.getElem?_map, Option.map_eq_some_iff] at hj
            obtain ⟨y, hy, rfl⟩ := hj
            exact h2 j y x hy hx'
          · rename_i hlt
            simp only [hlt, if_false] at hx'
            simp only [List.getElem?_map, Option.map_eq_some_iff] at hx'
            obtain ⟨id, hid, rfl⟩ := hx'
            have hvr := e3 _ v id (by simpa using hj) hid
            have hal : (st.var id).isSome = true := by
              simp only [List.all_eq_true] at hcaps
              exact hcaps id (List.mem_of_getElem? hid)
            obtain ⟨cs, hcs⟩ := Option.isSome_iff_exists.1 hal
            obtain ⟨g, _, e4⟩ := hvr.2 cs hcs
            exact ⟨_, rfl, .inl (by rw [e4]; rfl), hvr⟩) hv
          have hrun : (execOp (Act.mk tm ds).eval o).run P w = .ok (.enter f (args.toList.map (Act.mk tm ds).eval ++ ws.toList).toArray) w := by
            have e : (args.toList.map (Act.mk tm ds).eval ++ ws.toList).toArray = args.map (Act.mk tm ds).eval ++ ws := by apply Array.ext'; simp
            rw [e]
            have := run_callFunc hc (args.map (Act.mk tm ds).eval ++ ws) w
            simp only [execOp, heq, resolve, e1, Deferred.ofValue, Sem.run_bind, Sem.run_pure, Result.andThen_ok, invoke]
            simpa using this
          unfold Oper.wp
          rw [hrun, Oper.upon_enter]
          refine hcalls.mono ?_
          rintro e w' ⟨v, rfl, hg⟩
          simp only [hdst]
          exact hn _ _ hg
        · simp at hv
      · simp at hv
    · simp at hop
  | _ => simp [VOp.isCall] at hcall
end
end Go.Proofs.V

/- The tree semantics: the functions of a table. -/
set_option linter.unusedSimpArgs false
set_option linter.unusedVariables false
namespace Go.Proofs.V
open Go
variable {P : Program}

def resAre (P : Program) (pins : List Nat) : List Nat → List (Option (Nat × Bool)) → List ResultVar → Bool
  | [], _, [] => true
  | k :: ks, [], .tmp t :: rs => k == t && resAre P pins ks [] rs
  | k :: ks, none :: rc, .tmp t :: rs => k == t && resAre P pins ks rc rs
  | k :: ks, some (n, agg) :: rc, .cell a t :: rs => k == a && !pins.contains k && sizeIs P t n && underIs P t (fun d => isAggD d == agg) && resAre P pins ks rc rs
  | _, _, _ => false

def pinIdx : List PM → Nat → List Nat
  | [], _ => []
  | pm :: pms, k => (if pm.isBack then [k] else []) ++ pinIdx pms (k + 1)

/-- the compiled form of a function is that of the text -/
def funcIs (P : Program) (tbl : FuncId → Option VF) (f : FuncId) (vf : VF) : Bool :=
  match P.funcs[f]? with
  | some fn =>
    match fn.body with
    | some c => fn.name != "runtime.NumGoroutine" && fn.ntmps == vf.nslots && distinct vf.res && resAre P (pinIdx vf.pm 0) vf.res vf.rc fn.results.toList && chk P tbl (pinIdx vf.pm 0) vf.code c
    | none => false
  | none => false

theorem pinIdx_of : ∀ {pms : List PM} {vs : List Value} {k j : Nat} {v : Value}, (j, v) ∈ pinsOf pms vs k → j ∈ pinIdx pms k
  | pm :: pms, u :: vs, k, j, v, h => by
    simp only [pinsOf, List.mem_append] at h
    simp only [pinIdx, List.mem_append]
    rcases h with h | h
    · left
      cases hb : pm.isBack with
      | false => simp [hb] at h
      | true => simp [hb] at h; simp [h.1]
    · exact .inr (pinIdx_of h)
  | [], _, _, _, _, h | _ :: _, [], _, _, _, h => by simp [pinsOf] at h

theorem loadAt_asAddr {t : TypeId} {x v : Value} {w w' : World} (h : (Instr.loadAt t x).run P w = .ok v w') : (do loadVar t (← asAddr x) : Sem Value).run P w = .ok v w' := by
  unfold Instr.loadAt at h
  cases x with
  | pointer a =>
    cases a with
    | some a =>
      simp only [Sem.run_bind, asAddr, Instr.sureAddr, Sem.run_pure, Result.andThen_ok] at h ⊢
      exact h
    | none => cases h
  | _ => cases h

section
variable {A : Nat → Prop} {pin : List (Nat × Value)} {w : World} {F : Nat → Prop} {O : Nat → Option Ow} {Go : Nat → Gh} {Gv : Nat → Option Nat}

theorem results_list (pins : List Nat) (hpins : pinsOk pins pin) (tm0 : Array Value) : ∀ (ks : List Nat) (rc : List (Option (Nat × Bool))) (rs : List ResultVar) {st st2 : St} {tm : Array Value}, resAre P pins ks rc rs = true → ks.Nodup → Rel A pin w F O Go Gv st tm →
    (∀ k, k ∈ ks → tm[k]? = tm0[k]?) → resLoad ks rc st = some st2 →
    ∃ tm2, Rel A pin w F O Go Gv st2 tm2 ∧ (∀ k, k ∉ ks → tm2[k]? = tm[k]?) ∧ ∀ g : ResultVar → Sem Value, (∀ t, g (.tmp t) = pure (tm0.getD t undef)) → (∀ a t, g (.cell a t) = do loadVar t (← asAddr (tm0.getD a undef))) → (rs.mapM g).run P w = .ok (ks.map fun k => tm2.getD k undef) w
  | [], rc, rs, st, st2, tm, h, hnd, hr, htm, hl => by
    have e : st2 = st := by cases rc <;> simp [resLoad] at hl <;> exact hl.symm
    subst e
    cases rs with
    | nil => exact ⟨tm, hr, fun _ _ => rfl, fun g _ _ => by simp [Sem.run_pure]⟩
    | cons r rs => cases rc <;> simp [resAre] at h
  | k :: ks, rc, [], st, st2, tm, h, hnd, hr, htm, hl => by
    cases rc with
    | nil => simp [resAre] at h
    | cons o rc => cases o <;> simp [resAre] at h
  | k :: ks, rc, .tmp t :: rs, st, st2, tm, h, hnd, hr, htm, hl => by
    have hk : ∃ rc', k = t ∧ resAre P pins ks rc' rs = true ∧ resLoad ks rc' st = some st2 := by
      cases rc with
      | nil =>
        simp only [resAre, Bool.and_eq_true, beq_iff_eq] at h
        refine ⟨[], h.1, h.2, ?_⟩
        simp [resLoad] at hl
        cases ks <;> simp [resLoad, hl]
      | cons o rc =>
        cases o with
        | none =>
          simp only [resAre, Bool.and_eq_true, beq_iff_eq] at h
          exact ⟨rc, h.1, h.2, by simpa [resLoad] using hl⟩
        | some x => simp [resAre] at h
    obtain ⟨rc', rfl, h1, h2⟩ := hk
    have hnd' := List.nodup_cons.1 hnd
    obtain ⟨tm2, hr2, hs2, hg2⟩ := results_list pins hpins tm0 ks rc' rs h1 hnd'.2 hr (fun j hj => htm j (by simp [hj])) h2
    refine ⟨tm2, hr2, fun j hj => hs2 j (fun h => hj (by simp [h])), fun g hg hg' => ?_⟩
    have : tm2[k]? = tm0[k]? := (hs2 k hnd'.1).trans (htm k (by simp))
    have e : tm2.getD k undef = tm0.getD k undef := by simp only [Array.getD_eq_getD_getElem?, this]
    rw [List.mapM_cons, Sem.run_bind, hg, Sem.run_pure, Result.andThen_ok, Sem.run_bind, hg2 g hg hg', Result.andThen_ok, Sem.run_pure, List.map_cons, e]
  | k :: ks, rc, .cell a t :: rs, st, st2, tm, h, hnd, hr, htm, hl => by
    cases rc with
    | nil => simp [resAre] at h
    | cons o rc =>
      cases o with
      | none => simp [resAre] at h
      | some x =>
        obtain ⟨n, agg⟩ := x
        simp only [resAre, Bool.and_eq_true, beq_iff_eq, Bool.not_eq_true'] at h
        obtain ⟨⟨⟨⟨rfl, hp⟩, hn⟩, hag⟩, hrest⟩ := h
        simp only [resLoad] at hl
        split at hl
        · rename_i st1 h1
          split at h1
          · rename_i h4
            simp only [Bool.or_eq_true, decide_eq_true_eq] at h4
            have hd : ∀ x, (k, x) ∉ pin := fun x hx => by
              have := hpins _ _ hx
              simp at hp
              exact hp this
            obtain ⟨v, hv, hr1⟩ := sound_load (P := P) hr (x := .s k) (y := .tmp k) (by simp [opdIs]) h1 hn hag h4 hd []
            have hnd' := List.nodup_cons.1 hnd
            have hks : k < tm.size := by
              rcases Nat.lt_or_ge k tm.size with h5 | h5
              · exact h5
              · exfalso
                have : st.slots[k]? = none := by rw [List.getElem?_eq_none]; rw [← hr.size]; exact h5
                unfold vload at h1
                simp [St.cell, St.get, this] at h1
            obtain ⟨tm2, hr2, hs2, hg2⟩ := results_list pins hpins tm0 ks rc rs hrest hnd'.2 hr1 (fun j hj => by
              have : k ≠ j := fun e => hnd'.1 (e ▸ hj)
              rw [Array.getElem?_setIfInBounds_ne this]
              exact htm j (by simp [hj])) hl
            refine ⟨tm2, hr2, fun j hj => ?_, fun g hg hg' => ?_⟩
            · have h1 : j ∉ ks := fun h => hj (by simp [h])
              have h2 : k ≠ j := fun e => hj (by simp [e])
              rw [hs2 j h1, Array.getElem?_setIfInBounds_ne h2]
            · have e2 : tm2.getD k undef = v := by
                simp only [Array.getD_eq_getD_getElem?, hs2 k hnd'.1]
                simp [Array.getElem?_setIfInBounds, hks]
              have e3 : tm0.getD k undef = tm.getD k undef := by simp only [Array.getD_eq_getD_getElem?, htm k (by simp)]
              have hv' : (do loadVar t (← asAddr (tm0.getD k undef)) : Sem Value).run P w = .ok v w := by
                rw [e3]
                exact loadAt_asAddr hv
              rw [List.mapM_cons, Sem.run_bind, hg', hv', Result.andThen_ok, Sem.run_bind, hg2 g hg hg', Result.andThen_ok, Sem.run_pure, List.map_cons, e2]
          · simp at h1
        · simp at hl
end

theorem run_results {A : Nat → Prop} {pin : List (Nat × Value)} {w : World} {F : Nat → Prop} {O : Nat → Option Ow} {Go : Nat → Gh} {Gv : Nat → Option Nat} {st st2 : St} {tm : Array Value} {pins : List Nat} (hpins : pinsOk pins pin) {fn : Func} {ks : List Nat} {rc : List (Option (Nat × Bool))}
    (h : resAre P pins ks rc fn.results.toList = true) (hd : distinct ks = true) (hr : Rel A pin w F O Go Gv st tm) (hl : resLoad ks rc st = some st2) :
    ∃ tm2, Rel A pin w F O Go Gv st2 tm2 ∧ (results fn tm).run P w = .ok (resV (ks.map fun k => tm2.getD k undef)) w := by
  obtain ⟨tm2, hr2, _, hg⟩ := results_list pins hpins tm ks rc _ h (distinct_nodup hd) hr (fun _ _ => rfl) hl
  refine ⟨tm2, hr2, ?_⟩
  unfold results
  rw [Array.mapM_eq_mapM_toList]
  simp only [Sem.run_bind, map_eq_pure_bind]
  rw [hg _ (fun t => rfl) (fun a t => rfl)]
  simp only [Result.andThen_ok, Sem.run_pure]
  congr 1
  match ks with
  | [k] => rfl
  | [] => rfl
  | a :: b :: l => simp [resV]

variable {tbl : FuncId → Option VF} {ext : FuncId → List Arg → Option FRes}

theorem vrun_sound (hext : ∀ f vf ars res st0, tbl f = some vf → vf.given = true → enter vf ars = some st0 → ext f ars = some res → callable P f = true ∧ Does P f vf st0 res)
    (htbl : ∀ f vf, tbl f = some vf → vf.given = false → funcIs P tbl f vf = true) : ∀ n, FSound P tbl (vrun ext tbl n)
  | 0 => by intro f vf ars res _ h; simp [vrun] at h
  | n + 1 => by
    intro f vf ars res hvf h
    simp only [vrun, hvf] at h
    split at h
    · simp at h
    · rename_i st0 hst0
      by_cases hg : vf.given = true
      · simp only [hg, if_true] at h
        obtain ⟨h1, h2⟩ := hext f vf ars res st0 hvf hg hst0 h
        exact ⟨h1, st0, hst0, h2⟩
      · have hg' : vf.given = false := by simpa using hg
        simp only [hg', Bool.false_eq_true, if_false] at h
        have hfi := htbl f vf hvf hg'
        unfold funcIs at hfi
        split at hfi
        · rename_i fn hfn
          split at hfi
          · rename_i c hc
            simp only [Bool.and_eq_true, bne_iff_ne, ne_eq, beq_iff_eq] at hfi
            obtain ⟨⟨⟨⟨hname, hnt⟩, hdist⟩, hres⟩, hchk⟩ := hfi
            refine ⟨?_, st0, hst0, ?_⟩
            · unfold callable
              simp [hfn, hc, hname]
            · intro args w Fc Ac O Go Gv hargs hrel
              have hpins : pinsOk (pinIdx vf.pm 0) (pinsOf vf.pm args.toList 0) := fun k x hx => pinIdx_of hx
              have hcall : CallOk P tbl (vrun ext tbl n) := callOk (vrun_sound hext htbl n)
              refine calls_of_wp hfn hc ?_
              have hend : ∀ x st1, vexec tbl (vrun ext tbl n) n vf.code st0 = some (x, st1) → leave2 vf st1 = some res → (exitOf x = .normal ∨ exitOf x = .ret) →
                  c.wp P (bodyPost P fn fun e w' => ∃ v, e = .returned v ∧ Ret vf Ac (pinsOf vf.pm args.toList 0) w Fc res v w') ⟨args ++ Array.replicate (fn.ntmps - args.size) undef, []⟩ w := by
                intro x st1 hx hl he
                rw [hnt]
                refine sound_code hcall hpins [] n vf.code _ hchk hrel hx ?_
                rintro tm' w' ⟨F1, O1, Go1, Gv1, hr1, hs1, hf1, hf1'⟩
                obtain ⟨st2, hl1, hl2⟩ := Option.bind_eq_some_iff.1 hl
                obtain ⟨tm2, hr2, hrun⟩ := run_results hpins hres hdist hr1 hl1
                have hpost : ([] : List Deferred) = [] ∧ ∃ v, (results fn tm').run P w' = .ok v w' ∧ ∃ v', Ending.returned v = .returned v' ∧ Ret vf Ac (pinsOf vf.pm args.toList 0) w Fc res v' w' :=
                  ⟨rfl, _, hrun, _, rfl, F1, O1, Go1, Gv1, st2, tm2, hr2, hs1, hf1, hf1', hl2, rfl⟩
                rcases he with he | he
                · rw [he]; exact hpost
                · rw [he]; exact hpost
              split at h
              · rename_i st1 hx
                exact hend _ _ hx h (.inl rfl)
              · rename_i st1 hx
                exact hend _ _ hx h (.inr rfl)
              · simp at h
          · simp at hfi
        · simp at hfi
end Go.Proofs.V

/- The tree semantics: a law's arguments, read as trees. -/
set_option linter.unusedSimpArgs false
set_option linter.unusedVariables false
namespace Go.Proofs.V
open Go

/-- the types of cells that arguments have -/
inductive Ty where
  | int (k : IntKind)
  | bool
  | str
  | sl (p : List Ty)
  deriving Inhabited

mutual
def Ty.ot : Ty → OT
  | .int _ => .sc
  | .bool => .sc
  | .str => .sc
  | .sl p => .ro (Ty.ots p)
def Ty.ots : List Ty → List OT
  | [] => []
  | a :: x => Ty.ot a :: Ty.ots x
end

theorem Ty.ots_length : ∀ p : List Ty, (Ty.ots p).length = p.length
  | [] => rfl
  | _ :: x => by simp [Ty.ots, Ty.ots_length x]
theorem Ty.ots_get : ∀ (p : List Ty) (j : Nat) (q : OT), (Ty.ots p)[j]? = some q → ∃ y, p[j]? = some y ∧ q = y.ot
  | [], j, q, h => by simp [Ty.ots] at h
  | a :: x, 0, q, h => by simp [Ty.ots] at h; exact ⟨a, rfl, h.symm⟩
  | a :: x, j + 1, q, h => by
    simp [Ty.ots] at h
    obtain ⟨y, h1, h2⟩ := Ty.ots_get x j q h
    exact ⟨y, by simpa using h1, h2⟩
theorem Ty.ots_at : ∀ (p : List Ty) (j : Nat) (y : Ty), p[j]? = some y → (Ty.ots p)[j]? = some y.ot
  | [], j, y, h => by simp at h
  | a :: x, 0, y, h => by simp at h; subst h; rfl
  | a :: x, j + 1, y, h => by simpa [Ty.ots] using Ty.ots_at x j y (by simpa using h)

/-- a tree of a type -/
inductive Wt : Ty → T → Prop
  | int {k : IntKind} {n : Int} (h : (Lit.int k n).wf = true) : Wt (.int k) (.lit (.int k n))
  | bool {b : Bool} : Wt .bool (.lit (.bool b))
  | str {s : ByteArray} (h : s.size ≤ maxLen) : Wt .str (.lit (.string s))
  | sl {p : List Ty} {es : List (List T)} (hl : es.length ≤ maxLen) (hr : ∀ (i : Nat) (row : List T), es[i]? = some row → row.length = p.length)
      (hs : ∀ (i j : Nat) (row : List T) (x : T) (q : Ty), es[i]? = some row → row[j]? = some x → p[j]? = some q → Wt q x) : Wt (.sl p) (.sl es)

/-- a type's cells -/
def tyIs (P : Program) : Nat → TypeId → List Ty → Bool
  | 0, _, _ => false
  | n + 1, t, p =>
    match P.underlying t with
    | some .bool => (match p with | [.bool] => P.cellsOf t == 1 | _ => false)
    | some (.int k) => (match p with | [.int k'] => k == k' && P.cellsOf t == 1 | _ => false)
    | some .string => (match p with | [.str] => P.cellsOf t == 1 | _ => false)
    | some (.slice e) => (match p with | [.sl q] => P.cellsOf t == 1 && P.cellsOf e == q.length && decide (0 < q.length) && tyIs P n e q | _ => false)
    | some (.struct fs) =>
      P.cellsOf t == p.length &&
      (fs.toList.foldl (fun (x : Bool × Nat) f => (x.1 && f.offset == x.2 && tyIs P n f.type ((p.drop x.2).take (P.cellsOf f.type)) && decide (x.2 + P.cellsOf f.type ≤ p.length), x.2 + P.cellsOf f.type)) (true, 0)) == (true, p.length)
    | some (.array m e) => P.cellsOf t == p.length && p.length == m * P.cellsOf e && decide (0 < P.cellsOf e) && (List.range m).all fun i => tyIs P n e ((p.drop (i * P.cellsOf e)).take (P.cellsOf e))
    | _ => false

section
variable {P : Program} {H : Type} {enc : TypeId × Value → H} {w : World} {spare : Nat → Bool} {held : Bool}

/-- one cell as a tree -/
def CellOk (w : World) (q : Ty) (v : Value) (x : T) : Prop := v.oneCell' = true ∧ Rd w (fun b => b < w.heap.size) q.ot v x ∧ Wt q x

def CellsOk (w : World) (p : List Ty) (cs : List Value) : Prop := cs.length = p.length ∧ ∀ (j : Nat) (q : Ty) (v : Value), p[j]? = some q → cs[j]? = some v → ∃ x, CellOk w q v x

theorem fields_all (n : Nat) (p : List Ty) : ∀ (fs : List Field) (b : Bool) (off : Nat) (r : Bool × Nat),
    fs.foldl (fun (x : Bool × Nat) f => (x.1 && f.offset == x.2 && tyIs P n f.type ((p.drop x.2).take (P.cellsOf f.type)) && decide (x.2 + P.cellsOf f.type ≤ p.length), x.2 + P.cellsOf f.type)) (b, off) = r → r.1 = true →
    b = true ∧ off ≤ r.2 ∧ ∀ k, off ≤ k → k < r.2 → ∃ (i : Nat) (f : Field), fs[i]? = some f ∧ f.offset ≤ k ∧ k < f.offset + P.cellsOf f.type ∧ f.offset + P.cellsOf f.type ≤ p.length ∧ tyIs P n f.type ((p.drop f.offset).take (P.cellsOf f.type)) = true
  | [], b, off, r, h, hr => by
    simp at h
    subst h
    exact ⟨hr, Nat.le_refl _, fun k h1 h2 => by simp only at h2; omega⟩
  | f :: fs, b, off, r, h, hr => by
    simp only [List.foldl_cons] at h
    obtain ⟨h1, h2, h3⟩ := fields_all n p fs _ _ r h hr
    simp only [Bool.and_eq_true, beq_iff_eq, decide_eq_true_eq] at h1
    obtain ⟨⟨⟨h4, h5⟩, h6⟩, h7⟩ := h1
    refine ⟨h4, by omega, fun k hk1 hk2 => ?_⟩
    by_cases hk : k < off + P.cellsOf f.type
    · exact ⟨0, f, rfl, by omega, by omega, by omega, by rw [h5]; exact h6⟩
    · obtain ⟨i, f', a, c⟩ := h3 k (by omega) hk2
      exact ⟨i + 1, f', by simpa using a, c⟩

theorem trod_cells : ∀ (n : Nat) {t : TypeId} {p : List Ty} {fuel : Nat} {cs : List Value} {x : DataW H × List MemPlace}, tyIs P n t p = true → DataW.trod enc P w 0 spare held fuel t cs = some x → CellsOk w p cs
  | 0, t, p, fuel, cs, x, ht, _ => by simp [tyIs] at ht
  | n + 1, t, p, fuel, cs, x, ht, h => by
    unfold tyIs at ht
    split at ht
    · rename_i hu
      obtain ⟨b, rfl, _⟩ := DataW.trod_bool hu h
      split at ht
      · refine ⟨rfl, fun j q v hq hv => ?_⟩
        cases j with
        | zero => simp at hq hv; subst hq; subst hv; exact ⟨.lit (.bool b), rfl, .sc rfl, .bool⟩
        | succ j => simp at hq
      · simp at ht
    · rename_i k hu
      obtain ⟨m, rfl, _, hwf⟩ := DataW.trod_int hu h
      split at ht
      · simp only [Bool.and_eq_true, beq_iff_eq] at ht
        obtain ⟨rfl, _⟩ := ht
        refine ⟨rfl, fun j q v hq hv => ?_⟩
        cases j with
        | zero => simp at hq hv; subst hq; subst hv; exact ⟨.lit (.int k m), rfl, .sc rfl, .int hwf⟩
        | succ j => simp at hq
      · simp at ht
    · rename_i hu
      obtain ⟨s, rfl, _, hs⟩ := DataW.trod_string hu h
      split at ht
      · refine ⟨rfl, fun j q v hq hv => ?_⟩
        cases j with
        | zero => simp at hq hv; subst hq; subst hv; exact ⟨.lit (.string s), rfl, .sc rfl, .str hs⟩
        | succ j => simp at hq
      · simp at ht
    · rename_i e hu
      split at ht
      · rename_i q
        simp only [Bool.and_eq_true, beq_iff_eq, decide_eq_true_eq] at ht
        obtain ⟨⟨⟨_, hce⟩, hq0⟩, hte⟩ := ht
        have key : ∃ x, CellOk w (.sl q) (cs.headD undef) x := by
          rcases Deep.open_slice hu h with ⟨rfl, _⟩ | ⟨a, len, cap, m, n', D, Pl, rfl, _, hl, hm, hmm, _, hel⟩
          · exact ⟨.sl [], rfl, .emp (by simp [maxLen]), .sl (by simp [maxLen]) (by simp) (by simp)⟩
          · have hlm : len ≤ m := by subst hmm; split <;> omega
            by_cases h0 : len = 0
            · subst h0
              exact ⟨.sl [], rfl, .emp hm, .sl (by simp) (by simp) (by simp)⟩
            · have hc : ∀ i, i < len → ∃ cs' : List Value, cs'.length = q.length ∧ (∀ j, j < q.length → w.cell? ((a.add (i * q.length)).add j) = cs'[j]?) ∧ CellsOk w q cs' := by
                intro i hi
                obtain ⟨cs', h1, h2⟩ := hel i (by omega)
                obtain ⟨_, h3, h4⟩ := World.cells?_some h1
                rw [hce] at h1 h3 h4
                exact ⟨cs', h3, h4, trod_cells n hte h2⟩
              obtain ⟨g, o, spot⟩ := a
              have hspot : spot = none := by
                obtain ⟨cs', h1, h2, _⟩ := hc 0 (by omega)
                have := h2 0 hq0
                have hlt : 0 < cs'.length := by omega
                rw [List.getElem?_eq_getElem hlt] at this
                simp only [Nat.zero_mul, Addr.add, if_true] at this
                unfold World.cell? at this
                split at this
                · split at this
                  · simp at this
                  · rename_i hs
                    simpa using hs
                · simp at this
              subst hspot
              have hg : g < w.heap.size := by
                obtain ⟨cs', h1, h2, _⟩ := hc 0 (by omega)
                have := h2 0 hq0
                have hlt : 0 < cs'.length := by omega
                rw [List.getElem?_eq_getElem hlt] at this
                simp only [Nat.zero_mul, Addr.add, if_true] at this
                unfold World.cell? at this
                rcases Nat.lt_or_ge g w.heap.size with h5 | h5
                · exact h5
                · simp [Array.getElem?_eq_none h5] at this
              obtain ⟨css, hcl, hcs⟩ := list_of (Q := fun i (cs' : List Value) => cs'.length = q.length ∧ (∀ j, j < q.length → w.cell? ⟨g, o + i * q.length + j, none⟩ = cs'[j]?) ∧ CellsOk w q cs') len (fun i hi => by
                obtain ⟨cs', h1, h2, h3⟩ := hc i hi
                exact ⟨cs', h1, fun j hj => by rw [← h2 j hj, addr_add, addr_add], h3⟩)
              obtain ⟨es, hel2, hes⟩ := list_of (Q := fun i (row : List T) => row.length = q.length ∧ ∀ (j : Nat) (y : Ty) (v : Value) (x : T), q[j]? = some y → (css[i]?).bind (·[j]?) = some v → row[j]? = some x → CellOk w y v x) len (fun i hi => by
                obtain ⟨h1, h2, h3⟩ := hcs i css[i] (by simp)
                obtain ⟨row, r1, r2⟩ := list_of (Q := fun j (x : T) => ∀ (y : Ty) (v : Value), q[j]? = some y → css[i][j]? = some v → CellOk w y v x) q.length (fun j hj => by
                  obtain ⟨x, hx⟩ := h3.2 j q[j] (css[i][j]'(by omega)) (by simp [hj]) (by simp)
                  exact ⟨x, fun y v hy hv => by simp [hj] at hy; subst hy; rw [List.getElem?_eq_getElem (by omega)] at hv; simp at hv; subst hv; exact hx⟩)
                refine ⟨row, r1, fun j y v x hy hv hx => ?_⟩
                have hci : css[i]? = some css[i] := by simp
                rw [hci] at hv
                exact r2 j x hx y v hy (by simpa using hv))
              have hrow : ∀ (i : Nat) (row : List T), es[i]? = some row → row.length = q.length := fun i row hi => (hes i row hi).1
              refine ⟨.sl es, rfl, ?_, .sl (by omega) hrow ?_⟩
              · show Rd w _ (.ro (Ty.ots q)) _ _
                have := Rd.sl (w := w) (F := fun b => b < w.heap.size) (p := Ty.ots q) (g := g) (o := o) (cap := cap) (es := es) (fun i j => ((css[i]?).bind (·[j]?)).getD undef) hg (by omega) hm
                  (fun i row hi => by rw [Ty.ots_length]; exact hrow i row hi) (fun i j hi hj => by
                    rw [Ty.ots_length] at hj ⊢
                    have hi' : i < css.length := by omega
                    obtain ⟨h1, h2, h3⟩ := hcs i css[i] (by simp [hi'])
                    rw [h2 j hj]
                    have hj' : j < css[i].length := by omega
                    simp [hi', hj'])
                  (fun i j row x y hi hx hy => by
                    obtain ⟨y', hy', rfl⟩ := Ty.ots_get _ _ _ hy
                    have hi' : i < css.length := by
                      have := (List.getElem?_eq_some_iff.1 hi).1
                      omega
                    obtain ⟨h1, h2, h3⟩ := hcs i css[i] (by simp [hi'])
                    have hj' : j < css[i].length := by
                      have := (List.getElem?_eq_some_iff.1 hy').1
                      omega
                    have := ((hes i row hi).2 j y' css[i][j] x hy' (by simp [hi', hj']) hx).2.1
                    simpa [hi', hj'] using this)
                rw [hel2] at this
                exact this
              · intro i j row x y hi hx hy
                have hi' : i < css.length := by
                  have := (List.getElem?_eq_some_iff.1 hi).1
                  omega
                obtain ⟨h1, h2, h3⟩ := hcs i css[i] (by simp [hi'])
                have hj' : j < css[i].length := by
                  have := (List.getElem?_eq_some_iff.1 hy).1
                  omega
                exact ((hes i row hi).2 j y css[i][j] x hy (by simp [hi', hj']) hx).2.2
        have hlen : ∃ v, cs = [v] := by
          rcases Deep.open_slice hu h with ⟨rfl, _⟩ | ⟨a, len, cap, m, n', D, Pl, rfl, _⟩
          · exact ⟨_, rfl⟩
          · exact ⟨_, rfl⟩
        obtain ⟨v, rfl⟩ := hlen
        refine ⟨rfl, fun j y u hy hu' => ?_⟩
        cases j with
        | zero => simp at hy hu'; subst hy; subst hu'; simpa using key
        | succ j => simp at hy
      · simp at ht
    · rename_i fs hu
      simp only [Bool.and_eq_true, beq_iff_eq] at ht
      obtain ⟨hc, hf⟩ := ht
      obtain ⟨xs, m, _, _, hl, _, hx⟩ := DataW.trod_struct hu h
      obtain ⟨_, _, hall⟩ := fields_all n p fs.toList true 0 _ hf rfl
      refine ⟨by omega, fun j q v hq hv => ?_⟩
      have hj : j < p.length := (List.getElem?_eq_some_iff.1 hq).1
      obtain ⟨i, f, h1, h2, h3, h4, h5⟩ := hall j (Nat.zero_le _) hj
      have hxf := hx i f (by simpa using h1)
      have hi : i < xs.length := by
        have := (List.getElem?_eq_some_iff.1 h1).1
        simp at this
        omega
      rw [List.getElem?_eq_getElem hi] at hxf
      have := trod_cells n h5 hxf
      have hg : j - f.offset < P.cellsOf f.type := by omega
      refine this.2 (j - f.offset) q v ?_ ?_
      · rw [List.getElem?_take, if_pos hg, List.getElem?_drop, show f.offset + (j - f.offset) = j by omega]; exact hq
      · rw [List.getElem?_take, if_pos hg, List.getElem?_drop, show f.offset + (j - f.offset) = j by omega]; exact hv
    · rename_i m e hu
      simp only [Bool.and_eq_true, beq_iff_eq, decide_eq_true_eq, List.all_eq_true, List.mem_range] at ht
      obtain ⟨⟨⟨hc, hpl⟩, he0⟩, hall⟩ := ht
      obtain ⟨xs, m', _, _, hl, hxl, hx⟩ := DataW.trod_array hu h
      refine ⟨by omega, fun j q v hq hv => ?_⟩
      have hj : j < p.length := (List.getElem?_eq_some_iff.1 hq).1
      have hdm := Nat.div_add_mod j (P.cellsOf e)
      have hmod := Nat.mod_lt j he0
      have hi : j / P.cellsOf e < m := Nat.div_lt_of_lt_mul (by rw [Nat.mul_comm]; omega)
      have hxf := hx (j / P.cellsOf e) hi
      rw [List.getElem?_eq_getElem (by omega)] at hxf
      have := trod_cells n (hall _ hi) hxf
      have hjj : j / P.cellsOf e * P.cellsOf e + j % P.cellsOf e = j := by rw [Nat.mul_comm]; exact hdm
      refine this.2 (j % P.cellsOf e) q v ?_ ?_
      · rw [List.getElem?_take, if_pos hmod, List.getElem?_drop, hjj]; exact hq
      · rw [List.getElem?_take, if_pos hmod, List.getElem?_drop, hjj]; exact hv
    · simp at ht
end
end Go.Proofs.V

/- The tree semantics: a law's call. -/
set_option linter.unusedSimpArgs false
set_option linter.unusedVariables false
namespace Go.Proofs.V
open Go Go.RowKit
variable {P : Program}

theorem cells_one {v : Value} (h : v.oneCell' = true) : v.cells = #[v] := by
  cases v <;> first | rfl | simp [Value.oneCell'] at h

/-- cells of types -/
def Wts (p : List Ty) (ts : List T) : Prop := ts.length = p.length ∧ ∀ (j : Nat) (q : Ty) (x : T), p[j]? = some q → ts[j]? = some x → Wt q x

/-- a value of a parameter's type: is it a struct or an array? -/
def shapeIs (P : Program) (t : TypeId) (agg : Bool) : Bool :=
  match P.underlying t with
  | some (.struct _) => agg
  | some (.array _ _) => agg
  | some .bool => !agg
  | some (.int _) => !agg
  | some .string => !agg
  | some (.slice _) => !agg
  | _ => false

def ParOk (w : World) (p : Bool × List Ty) (v : Value) : Prop := CellsOk w p.2 v.cells.toList ∧ (p.1 = true → ∃ cs, v = .agg cs) ∧ (p.1 = false → v.oneCell' = true)

theorem par_ok {H : Type} {enc : TypeId × Value → H} {w : World} {spare : Nat → Bool} {held : Bool} {r : Reach} {base n : Nat} {t : TypeId} {p : Bool × List Ty} {v : Value} {d : DataW H} {ps : List MemPlace} (h1 : tyIs P n t p.2 = true) (h2 : shapeIs P t p.1 = true)
    (hd : DataW.Trod enc P w 0 spare held t v d ps) (hv : Value.okWide P w r base t v) : ParOk w p v := by
  obtain ⟨fuel, hd⟩ := hd
  refine ⟨trod_cells n h1 hd, fun hp => ?_, fun hp => ?_⟩
  · unfold shapeIs at h2
    unfold Value.okWide at hv
    split at h2
    · rename_i hu; rw [hu] at hv; obtain ⟨cs, e, _⟩ := hv; exact ⟨cs, e⟩
    · rename_i hu; rw [hu] at hv; obtain ⟨cs, e, _⟩ := hv; exact ⟨cs, e⟩
    all_goals simp [hp] at h2
  · unfold shapeIs at h2
    split at h2
    · simp [hp] at h2
    · simp [hp] at h2
    · rename_i hu
      simp only [Value.okWide, hu, Cell.okWide] at hv
      cases v <;> simp_all [Cell.ok, Value.oneCell']
    · rename_i hu
      simp only [Value.okWide, hu, Cell.okWide] at hv
      cases v <;> simp_all [Cell.ok, Value.oneCell']
    · rename_i hu
      simp only [Value.okWide, hu, Cell.okWide] at hv
      cases v <;> simp_all [Cell.ok, Value.oneCell']
    · rename_i hu
      obtain ⟨a, l, c, rfl⟩ := WideShapes.okWide_slice hu hv
      rfl
    · simp at h2

theorem CellsOk.trees {w : World} {p : List Ty} {cs : List Value} (h : CellsOk w p cs) : ∃ ts : List T, Wts p ts ∧ ∀ (j : Nat) (o : OT) (x : T) (v : Value), (Ty.ots p)[j]? = some o → ts[j]? = some x → cs[j]? = some v → v.oneCell' = true ∧ Rd w (fun b => b < w.heap.size) o v x := by
  obtain ⟨ts, h1, h2⟩ := list_of (Q := fun j (x : T) => ∀ (q : Ty) (v : Value), p[j]? = some q → cs[j]? = some v → CellOk w q v x) p.length (fun j hj => by
    have hj' : j < cs.length := by rw [h.1]; exact hj
    obtain ⟨x, hx⟩ := h.2 j p[j] cs[j] (by simp [hj]) (by simp [hj'])
    exact ⟨x, fun q v hq hv => by simp [hj] at hq; simp [hj'] at hv; subst hq; subst hv; exact hx⟩)
  refine ⟨ts, ⟨h1, fun j q x hq hx => ?_⟩, fun j o x v ho hx hv => ?_⟩
  · have hj' : j < cs.length := by rw [h.1]; exact (List.getElem?_eq_some_iff.1 hq).1
    exact (h2 j x hx q cs[j] hq (by simp [hj'])).2.2
  · obtain ⟨q, hq, rfl⟩ := Ty.ots_get _ _ _ ho
    have := h2 j x hx q v hq hv
    exact ⟨this.1, this.2.1⟩

def argsOf (ps : List (Bool × List Ty)) (tss : List (List T)) : List Arg := List.zipWith (fun p ts => Arg.v p.1 ts) ps tss
def parsOf (ps : List (Bool × List Ty)) : List PM := ps.map fun p => .ro (Ty.ots p.2)
def trueRes : FRes := ⟨[.v false [.lit (.bool true)]], []⟩

/-- THE PLAIN LAW: whatever the trees, the run answers true -/
def LawPure (ext : FuncId → List Arg → Option FRes) (tbl : FuncId → Option VF) (f : FuncId) (ps : List (Bool × List Ty)) : Prop :=
  ∀ tss : List (List T), tss.length = ps.length → (∀ (i : Nat) (p : Bool × List Ty) (ts : List T), ps[i]? = some p → tss[i]? = some ts → Wts p.2 ts) → ∃ n, vrun ext tbl n f (argsOf ps tss) = some trueRes

theorem pinsOf_ro : ∀ (ps : List (Bool × List Ty)) (vs : List Value) (k : Nat), pinsOf (parsOf ps) vs k = []
  | [], vs, k => by cases vs <;> rfl
  | p :: ps, [], k => rfl
  | p :: ps, v :: vs, k => by simp [parsOf, pinsOf, PM.isBack]; exact pinsOf_ro ps vs (k + 1)

theorem enter_law {w : World} {Ac : Nat → Prop} {F : Nat → Prop} {O : Nat → Option Ow} {Go : Nat → Gh} {Gv : Nat → Option Nat} : ∀ {ps : List (Bool × List Ty)} {tss : List (List T)} {vals : List Value} {st st0 : St} {tm : Array Value},
    Rel Ac [] w F O Go Gv st tm → vals.length = ps.length → tss.length = ps.length → (∀ (i : Nat) (p : Bool × List Ty) (ts : List T) (v : Value), ps[i]? = some p → tss[i]? = some ts → vals[i]? = some v →
      (p.1 = true → ∃ cs, v = .agg cs) ∧ (p.1 = false → v.oneCell' = true) ∧ v.cells.toList.length = p.2.length ∧ ts.length = p.2.length ∧ ∀ (j : Nat) (o : OT) (x : T) (u : Value), (Ty.ots p.2)[j]? = some o → ts[j]? = some x → v.cells.toList[j]? = some u → u.oneCell' = true ∧ Rd w F o u x) →
    enterAll st (parsOf ps) (argsOf ps tss) = some st0 → Rel Ac [] w F O Go Gv st0 (tm ++ vals.toArray)
  | [], tss, vals, st, st0, tm, h, hv, ht, _, he => by
    have : vals = [] := List.eq_nil_of_length_eq_zero (by simpa using hv)
    subst this
    have : tss = [] := List.eq_nil_of_length_eq_zero (by simpa using ht)
    subst this
    simp [parsOf, argsOf, enterAll] at he
    subst he
    simpa using h
  | p :: ps, [], vals, st, st0, tm, h, hv, ht, _, he => by simp at ht
  | p :: ps, ts :: tss, [], st, st0, tm, h, hv, ht, _, he => by simp at hv
  | p :: ps, ts :: tss, v :: vals, st, st0, tm, h, hv, ht, hh, he => by
    simp only [parsOf, argsOf, List.map_cons, List.zipWith_cons_cons, enterAll, enter1] at he
    split at he
    · rename_i st1 h1
      split at h1
      · simp at h1
        subst h1
        obtain ⟨a1, a2, a3, a4, a5⟩ := hh 0 p ts v rfl rfl rfl
        have hs : SRel w F Go Gv st v (.v p.1 (roCs (Ty.ots p.2) ts)) := by
          have hcs : CsRel w F Go Gv st v.cells.toList (roCs (Ty.ots p.2) ts) := roCs_rel (by rw [Ty.ots_length]; exact a4) (by rw [Ty.ots_length]; exact a3) a5
          cases hp : p.1 with
          | true =>
            obtain ⟨cs, rfl⟩ := a1 hp
            exact ⟨cs, rfl, hcs⟩
          | false =>
            have ho := a2 hp
            have hvc : v.cells = #[v] := cells_one ho
            rw [hvc] at hcs
            match hr : roCs (Ty.ots p.2) ts, hcs with
            | [c], hcs => exact ⟨c, rfl, .inl ho, (hcs.2 0 v c rfl rfl).2⟩
            | [], hcs => exact absurd hcs.1 (by simp)
            | _ :: _ :: _, hcs => exact absurd hcs.1 (by simp)
        have := enter_law (h.pushSlot hs) (by simpa using hv) (by simpa using ht) (fun i p' ts' v' x y z => hh (i + 1) p' ts' v' (by simpa using x) (by simpa using y) (by simpa using z)) he
        have e : tm ++ (v :: vals).toArray = tm.push v ++ vals.toArray := by simp
        rw [e]
        exact this
      · simp at h1
    · simp at he

variable {ext : FuncId → List Arg → Option FRes} {tbl : FuncId → Option VF}

theorem law_calls (hs : ∀ n, FSound P tbl (vrun ext tbl n)) {f : FuncId} {vf : VF} (hvf : tbl f = some vf) {ps : List (Bool × List Ty)} (hpm : vf.pm = parsOf ps) (hrm : vf.rm = [.v [.sc]]) (hp : LawPure ext tbl f ps) {w : World} {vals : List Value} (hl : vals.length = ps.length)
    (hv : ∀ (i : Nat) (p : Bool × List Ty) (v : Value), ps[i]? = some p → vals[i]? = some v → ParOk w p v) : Calls P f vals.toArray w fun e w' => e = .returned (.bool true) ∧ Below w.heap.size w w' := by
  obtain ⟨tss, t1, t2⟩ := list_of (Q := fun i (ts : List T) => ∀ (p : Bool × List Ty) (v : Value), ps[i]? = some p → vals[i]? = some v → Wts p.2 ts ∧ ∀ (j : Nat) (o : OT) (x : T) (u : Value), (Ty.ots p.2)[j]? = some o → ts[j]? = some x → v.cells.toList[j]? = some u → u.oneCell' = true ∧ Rd w (fun b => b < w.heap.size) o u x) ps.length (fun i hi => by
    have hi' : i < vals.length := by omega
    obtain ⟨ts, h1, h2⟩ := (hv i ps[i] vals[i] (by simp [hi]) (by simp [hi'])).1.trees
    exact ⟨ts, fun p v hp' hv' => by simp [hi] at hp'; simp [hi'] at hv'; subst hp'; subst hv'; exact ⟨h1, h2⟩⟩)
  obtain ⟨n, hrun⟩ := hp tss t1 (fun i p ts hp' ht' => by
    have hi : i < vals.length := by rw [hl]; exact (List.getElem?_eq_some_iff.1 hp').1
    exact (t2 i ts ht' p vals[i] hp' (by simp [hi])).1)
  obtain ⟨_, st0, hent, hdoes⟩ := hs n f vf _ _ hvf hrun
  unfold enter at hent
  split at hent
  · rename_i ste hste
    split at hent
    · simp at hent
      have hinit : Rel (fun b => w.heap.size ≤ b) [] w (fun b => b < w.heap.size) (fun _ => none) (fun _ _ => none) (fun _ => none) ⟨[], [], []⟩ #[] := by
        refine ⟨rfl, by simp, ?_, by simp, ?_, by simp, by simp, by simp, by simp, by simp, fun b hb => hb, fun b hb => hb, by simp⟩
        · intro id o ho; simp [obj_eq] at ho
        · intro id cs hcs; simp [var_eq] at hcs
      rw [hpm] at hste
      have hrel := enter_law hinit hl t1 (fun i p ts v hp' ht' hv' => by
        have h1 := hv i p v hp' hv'
        have h2 := t2 i ts ht' p v hp' hv'
        exact ⟨h1.2.1, h1.2.2, h1.1.1, h2.1.1, h2.2⟩) hste
      have hsz : (#[] ++ vals.toArray : Array Value).size = ste.slots.length := hrel.size
      have hvs : vals.toArray.size = ste.slots.length := by simpa using hsz
      have hpad := hrel.pad (vf.nslots - ste.slots.length)
      have hargs : (#[] ++ vals.toArray) ++ Array.replicate (vf.nslots - ste.slots.length) undef = initTm vals.toArray vf.nslots := by
        unfold initTm
        rw [hvs]
        simp
      rw [hargs, hent] at hpad
      have hpins : pinsOf vf.pm vals.toArray.toList 0 = [] := by rw [hpm]; exact pinsOf_ro ps _ 0
      refine (hdoes vals.toArray w _ _ _ _ _ (by simp [hpm, parsOf, hl]) (by rw [hpins]; exact hpad)).mono ?_
      rintro e w' ⟨v, rfl, F', O', Go', Gv', st', tm', hr, hstep, _, _, hleave, hvv⟩
      refine ⟨?_, hstep.os, hstep.tape, hstep.output, hstep.size, fun k hk => hstep.heap k hk (by omega)⟩
      congr 1
      unfold leave at hleave
      rw [hrm] at hleave
      split at hleave
      · rename_i rs us1 vs1 ms us2 vs2 h1 h2
        split at hleave
        · simp only [Option.some.injEq, trueRes, FRes.mk.injEq] at hleave
          obtain ⟨rfl, rfl⟩ := hleave
          match hres : vf.res, h1 with
          | [], h1 => simp [outRs] at h1
          | k :: k2 :: ks, h1 =>
            simp only [outRs] at h1
            split at h1
            · rename_i h3; simp at h3
            · simp at h1
          | [k], h1 =>
            simp only [outRs] at h1
            split at h1
            · rename_i a us vs ars us' vs' e1 e2
              simp at h1 e2
              obtain ⟨⟨rfl, rfl⟩, _, _⟩ := h1
              obtain ⟨s, hs1, hs2⟩ := Option.bind_eq_some_iff.1 e1
              have hk : k < tm'.size := by rw [hr.size]; exact (List.getElem?_eq_some_iff.1 hs1).1
              have hsr := hr.slots k tm'[k] s (by simp [hk]) hs1
              unfold outR at hs2
              split at hs2
              · rename_i ots agg cs e3
                simp at e3
                subst e3
                split at hs2
                · rename_i ts us3 ht
                  simp at hs2
                  obtain ⟨⟨rfl, rfl⟩, _⟩ := hs2
                  obtain ⟨c, hc1, _, hc2⟩ := hsr
                  simp at hc1
                  subst hc1
                  simp only [V.toTs] at ht
                  split at ht
                  · rename_i x u xs us4 h3 h4
                    simp at ht
                    obtain ⟨⟨rfl, _⟩, _⟩ := ht
                    cases c with
                    | lit y =>
                      simp only [V.toT] at h3
                      split at h3
                      · simp at h3
                        rw [hvv, hres]
                        simp only [CRel] at hc2
                        simp [resV, hk, hc2, h3.1]
                      · simp at h3
                    | _ => simp [V.toT] at h3
                  · simp at ht
                · simp at hs2
              · rename_i e3; simp at e3
              · simp at hs2
            · simp at h1
        · simp at hleave
      · simp at hleave
    · simp at hent
  · simp at hent
end Go.Proofs.V

/- Runs of code with what is not known told ahead: the answers are given, what they must fulfil is gathered. Definitions alone. -/
namespace Go.Proofs.V
open Go

/-- an answer that is given -/
inductive Orc where
  | row (r : List T)
  | rows (es : List (List T))
  | num (n : Nat)
  | int (n : Int)
  | bit (b : Bool)
  | res (r : FRes)

def X (α : Type) : Type := List Orc → Option (α × List Orc × List Prop)

def xpure {α : Type} (a : α) : X α := fun os => some (a, os, [])
def xbind {α β : Type} (x : X α) (f : α → X β) : X β := fun os =>
  match x os with
  | none => none
  | some (a, os1, p) =>
    match f a os1 with
    | none => none
    | some (b, os2, q) => some (b, os2, p ++ q)
def xfail {α : Type} : X α := fun _ => none
def xof {α : Type} : Option α → X α
  | some a => xpure a
  | none => xfail
def xask (p : Prop) : X Unit := fun os => some ((), os, [p])
def xnum : X Nat
  | .num n :: os => some (n, os, [])
  | _ => none
def xint : X Int
  | .int n :: os => some (n, os, [])
  | _ => none
def xrow : X (List T)
  | .row r :: os => some (r, os, [])
  | _ => none
def xrows : X (List (List T))
  | .rows r :: os => some (r, os, [])
  | _ => none
def xbit : X Bool
  | .bit b :: os => some (b, os, [])
  | _ => none
def xres : X FRes
  | .res r :: os => some (r, os, [])
  | _ => none
/-- the rows, told anew -/
def xtell (es : List (List T)) : X (List (List T)) := xbind xrows fun es' => xbind (xask (es = es')) fun _ => xpure es'
/-- a length, told anew -/
def xsize (n : Nat) : X Nat := xbind xnum fun m => xbind (xask (n = m)) fun _ => xpure m
/-- a xtruth value -/
def xtruth : Option Value → X Bool
  | some (.bool e) => xbind xbit fun b => xbind (xask (e = b)) fun _ => xpure b
  | _ => xfail

def binX (op : BinOp) : Value → Value → X Value
  | .int k a, .int k' b =>
    match op with
    | .shl => xbind (xask (0 ≤ b)) fun _ => xpure (.int k (k.wrap (a * 2 ^ min b.toNat k.bits)))
    | .shr => xbind (xask (0 ≤ b)) fun _ => xpure (.int k (a.fdiv (2 ^ min b.toNat k.bits)))
    | .quo => if k = k' then xbind (xask (b ≠ 0)) fun _ => xpure (.int k (k.wrap (a.tdiv b))) else xfail
    | .rem => if k = k' then xbind (xask (b ≠ 0)) fun _ => xpure (.int k (a.tmod b)) else xfail
    | op => xof (vbin op (.int k a) (.int k' b))
  | .string a, .string b =>
    match op with
    | .add => xbind (xask (a.size + b.size ≤ 9223372036854775807)) fun _ => xpure (.string (a ++ b))
    | op => xof (vbin op (.string a) (.string b))
  | _, _ => xfail

def idxX : Value → Value → X Value
  | .string s, .int _ i => xbind xint fun b => xbind (xask (0 ≤ i)) fun _ => xbind (xask ((s[i.toNat]?).map (fun c => (c.toNat : Int)) = some b)) fun _ => xpure (.int .u8 b)
  | _, _ => xfail

def loX (st : St) (h : Nat) : Option Opd → X (Nat × Nat)
  | none => xpure (0, h)
  | some o => xbind (xof (st.num o)) fun k => xbind (xask (0 ≤ k ∧ k ≤ h)) fun _ => xpure (k.toNat, h)
def boundsX (st : St) (n : Nat) (lo : Option Opd) : Option Opd → X (Nat × Nat)
  | none => loX st n lo
  | some o => xbind (xof (st.num o)) fun k => xbind (xask (0 ≤ k ∧ k ≤ n)) fun _ => loX st k.toNat lo

/-- the rows at a place xof an object -/
def subX : List OT → List (List T) → Pth → X (List OT × List (List T))
  | ot, es, [] => xpure (ot, es)
  | ot, es, (i, j) :: r =>
    xbind xrow fun rw => xbind (xask (es[i]? = some rw)) fun _ =>
    match ot[j]?, rw[j]? with
    | some (.own ot'), some (.sl es') => subX ot' es' r
    | _, _ => xfail

/-- the object with other rows at a place; each level is told anew -/
def updX : List OT → List (List T) → Pth → List (List T) → X (List (List T))
  | _, _, [], new => xpure new
  | ot, es, (i, j) :: r, new =>
    xbind xrow fun rw => xbind (xask (es[i]? = some rw)) fun _ =>
    match ot[j]?, rw[j]? with
    | some (.own ot'), some (.sl es') => xbind (updX ot' es' r new) fun es'' => xtell (es.set i (rw.set j (.sl es'')))
    | _, _ => xfail

/-- what is read xof a cell xof an object xof its own -/
def rdCX (id : Nat) (p : Pth) (i j : Nat) : OT → T → X C
  | .own _, .sl es => xbind (xsize es.length) fun n => xpure (.ref id (p ++ [(i, j)]) 0 n)
  | o, t => xpure (rdC id p i j o t)
def rdCsX (id : Nat) (p : Pth) (i : Nat) : Nat → List OT → List T → X (List C)
  | j, o :: ot, x :: row => xbind (rdCX id p i j o x) fun c => xbind (rdCsX id p i (j + 1) ot row) fun cs => xpure (c :: cs)
  | _, _, _ => xpure []

def toTX (st : St) : OT → C → X (T × List Nat)
  | .own ot, .ref id [] 0 len =>
    xbind (xof (st.obj id)) fun o =>
    if OT.beqs ot o.ot then xbind (xask (len ≤ o.es.length)) fun _ => xbind (xtell (o.es.take len)) fun es => xpure (.sl es, [id]) else xfail
  | o, c => xof (toT st o c)
def toTsX (st : St) : List OT → List C → X (List T × List Nat)
  | [], [] => xpure ([], [])
  | o :: ot, c :: cs => xbind (toTX st o c) fun x => xbind (toTsX st ot cs) fun y => xpure (x.1 :: y.1, x.2 ++ y.2)
  | _, _ => xfail

def lendTX (st : St) : OT → C → X (T × List Nat)
  | .ro q, .ref id p off len =>
    xbind (xof (st.obj id)) fun o => xbind (subX o.ot o.es p) fun x =>
    if OT.beqs q (OT.lends x.1) then xbind (xask (off + len ≤ x.2.length)) fun _ => xbind (xtell ((x.2.drop off).take len)) fun es => xpure (.sl es, [id]) else xfail
  | o, c => xof (lendT st o c)
def lendTsX (st : St) : List OT → List C → X (List T × List Nat)
  | [], [] => xpure ([], [])
  | o :: ot, c :: cs => xbind (lendTX st o c) fun x => xbind (lendTsX st ot cs) fun y => xpure (x.1 :: y.1, x.2 ++ y.2)
  | _, _ => xfail

def inCX (objs : List (Option Ob)) : OT → T → X (C × List (Option Ob))
  | .own ot, .sl es => xbind (xsize es.length) fun n => xpure (.ref objs.length [] 0 n, objs ++ [some ⟨ot, es⟩])
  | o, t => xof (inC objs o t)
def inCsX (objs : List (Option Ob)) : List OT → List T → X (List C × List (Option Ob))
  | [], [] => xpure ([], objs)
  | o :: ot, x :: xs => xbind (inCX objs o x) fun c => xbind (inCsX c.2 ot xs) fun cs => xpure (c.1 :: cs.1, cs.2)
  | _, _ => xfail

-- ---------------------------------------------------------------- freezing
def frzCX (i : Nat) (o : Ob) : C → X C
  | .ref id p off len =>
    if id = i then xbind (subX o.ot o.es p) fun x => xbind (xask (off + len ≤ x.2.length)) fun _ => xbind (xtell ((x.2.drop off).take len)) fun es => xpure (.ro (OT.lends x.1) es)
    else xpure (.ref id p off len)
  | c => xpure c
def mapX {α β : Type} (f : α → X β) : List α → X (List β)
  | [] => xpure []
  | a :: l => xbind (f a) fun b => xbind (mapX f l) fun bs => xpure (b :: bs)
def SV.mapX (f : C → X C) : SV → X SV
  | .v a cs => xbind (V.mapX f cs) fun cs => xpure (.v a cs)
  | .tup ss => xbind (V.mapX (fun x => xbind (V.mapX f x.2) fun cs => xpure (x.1, cs)) ss) fun ss => xpure (.tup ss)
  | .any => xpure .any
def optX {α β : Type} (f : α → X β) : Option α → X (Option β)
  | none => xpure none
  | some a => xbind (f a) fun b => xpure (some b)
def St.mapX (st : St) (f : C → X C) : X St := xbind (V.mapX (SV.mapX f) st.slots) fun sl => xbind (V.mapX (optX (V.mapX f)) st.vars) fun vs => xpure { st with slots := sl, vars := vs }
def freezeX (st : St) (k j : Nat) : X St :=
  match (st.slots[k]?).bind SV.cells with
  | some (_, cs) =>
    match cs[j]? with
    | some (.ref id _ _ _) => xbind (xof (st.obj id)) fun o => xbind (St.mapX st (frzCX id o)) fun st1 => xpure { st1 with objs := st.objs.set id none }
    | _ => xfail
  | none => xfail
def frzAllX (st : St) : List (Nat × Nat) → X St
  | [] => xpure st
  | (k, j) :: r => xbind (freezeX st k j) fun st1 => frzAllX st1 r

-- ---------------------------------------------------------------- memory operations
def pushX (st : St) (d : Nat) (ot : List OT) (es : List (List T)) : X St :=
  xbind (xtell es) fun es => xbind (xsize es.length) fun n => xpure { st with slots := st.slots.set d (.v false [.ref st.objs.length [] 0 n]), objs := st.objs ++ [some ⟨ot, es⟩] }

def loadX (st : St) (d : Nat) (x : Opd) (n : Nat) (agg : Bool) : X St :=
  let put (cs : List C) : X St := if cs.length = n then xpure (st.set d (.v agg cs)) else xfail
  match st.cell x with
  | some (.rptr p cs) => put ((roCs p cs).take n)
  | some (.ptr id p i j) =>
    xbind (xof (st.obj id)) fun o => xbind (subX o.ot o.es p) fun y => xbind xrow fun rw => xbind (xask (y.2[i]? = some rw)) fun _ =>
    xbind (rdCsX id p i j ((y.1.drop j).take n) ((rw.drop j).take n)) put
  | some (.vptr id j) => xbind (xof (st.var id)) fun cs => put ((cs.drop j).take n)
  | _ => xfail

def putOX (st : St) (id : Nat) (p : Pth) (i j : Nat) (c : C) : X St :=
  xbind (xof (st.obj id)) fun o => xbind (subX o.ot o.es p) fun y =>
  xbind (xof (y.1[j]?)) fun oc => xbind (toTX st oc c) fun x =>
  if x.2.contains id then xfail else
  xbind xrows fun es1 => xbind (xask (∃ row, y.2[i]? = some row ∧ j < row.length ∧ y.2.set i (row.set j x.1) = es1)) fun _ =>
  xbind (updX o.ot o.es p es1) fun es' =>
  let st1 := match oc with | .sc | .ro _ => st | _ => st.mapC (staleC id p.length)
  xpure { st1 with objs := (killO st1.objs x.2).set id (some ⟨o.ot, es'⟩) }

def putOsX (st : St) (id : Nat) (p : Pth) (i : Nat) : Nat → List C → X St
  | _, [] => xpure st
  | j, c :: cs => xbind (putOX st id p i j c) fun st1 => putOsX st1 id p i (j + 1) cs

def storeX (st : St) (x : Opd) (n : Nat) (y : SV) : X St :=
  match st.cell x, y.cells with
  | some (.ptr id p i j), some (_, cs) => if cs.length = n then putOsX st id p i j cs else xfail
  | _, _ => xof (vstore st x n y)

def srcX (st : St) (p : List OT) : C → X (List (List T) × List Nat)
  | .ref id q off len =>
    xbind (xof (st.obj id)) fun o => xbind (subX o.ot o.es q) fun y =>
    if OT.beqs p y.1 && OT.beqs p (OT.lends p) then xbind (xask (off + len ≤ y.2.length)) fun _ => xpure ((y.2.drop off).take len, [])
    else if OT.beqs p y.1 && q.isEmpty && decide (off = 0) then xbind (xask (len = y.2.length)) fun _ => xbind (xask (off + len ≤ y.2.length)) fun _ => xpure (y.2, [id])
    else xfail
  | c => xof (srcRows st p c)

def appX (st : St) (d : Nat) (x y : Opd) (p : List OT) (lim : Nat) : X St :=
  xbind (xof (st.cell x)) fun cx => xbind (xof (st.cell y)) fun cy => xbind (srcX st p cy) fun s =>
  match cx with
  | .lit (.slice none 0 0) => xbind (xask (s.1.length ≤ lim)) fun _ => pushX (st.kill s.2) d p s.1
  | .ref id [] 0 len =>
    xbind (xof (st.obj id)) fun o =>
    if OT.beqs p o.ot && !s.2.contains id then xbind (xask (len ≤ o.es.length ∧ len + s.1.length ≤ lim)) fun _ => pushX (st.kill (id :: s.2)) d p (o.es.take len ++ s.1) else xfail
  | _ => xfail

def appSX (st : St) (d : Nat) (x y : Opd) (lim : Nat) : X St :=
  xbind (xof (st.cell x)) fun cx =>
  match st.val y with
  | some (.string s) =>
    match cx with
    | .lit (.slice none 0 0) => xbind (xask (s.size ≤ lim)) fun _ => pushX st d [.sc] (bytesT s)
    | .ref id [] 0 len =>
      xbind (xof (st.obj id)) fun o =>
      if OT.beqs [.sc] o.ot then xbind (xask (len ≤ o.es.length ∧ len + s.size ≤ lim)) fun _ => pushX (st.kill [id]) d [.sc] (o.es.take len ++ bytesT s) else xfail
    | _ => xfail
  | _ => xfail

def iadrX (st : St) (k : Int) (n : Nat) : C → X C
  | .ro p es => if p.length = n then xbind xrow fun rw => xbind (xask (0 ≤ k)) fun _ => xbind (xask (es[k.toNat]? = some rw)) fun _ => xpure (.rptr p rw) else xfail
  | .ref id q off len =>
    xbind (xask (0 ≤ k ∧ k < len)) fun _ =>
    match (st.obj id).bind fun o => subOT o.ot q with
    | some ot => if ot.length = n then xpure (.ptr id q (off + k.toNat) 0) else xfail
    | none => xfail
  | _ => xfail

def slcX (st : St) (lo hi : Option Opd) (n : Nat) : C → X SV
  | .ro p es => if p.length = n then xbind (boundsX st es.length lo hi) fun b => xbind (xtell ((es.take b.2).drop b.1)) fun es => xpure (.v false [.ro p es]) else xfail
  | .ref id q off len =>
    match (st.obj id).bind fun o => subOT o.ot q with
    | some ot => if ot.length = n then xbind (boundsX st len lo hi) fun b => xpure (.v false [.ref id q (off + b.1) (b.2 - b.1)]) else xfail
    | none => xfail
  | .lit (.slice none 0 0) => xbind (boundsX st 0 lo hi) fun _ => xpure (litS (.slice none 0 0))
  | _ => xfail

def lenX (st : St) : C → X Nat
  | .lit (.slice none 0 0) => xpure 0
  | .ro _ es => xsize es.length
  | .ref id _ _ len => xbind (xof (st.obj id)) fun _ => xpure len
  | _ => xfail

def nilX (st : St) : C → X Bool
  | .lit (.slice none 0 0) => xpure true
  | .ro _ es => xbind (xask (es.length ≠ 0)) fun _ => xpure false
  | .ref id _ _ len => xbind (xask (len ≠ 0)) fun _ => xbind (xof (st.obj id)) fun _ => xpure false
  | _ => xfail

def rowsAllX (st : St) (p : List OT) : List Opd → X (List (List T) × List Nat)
  | [] => xpure ([], [])
  | x :: xs => xbind (xof ((st.get x).bind SV.cells)) fun c => xbind (rowsAllX st p xs) fun r => xbind (toTsX st p c.2) fun t => xpure (t.1 :: r.1, t.2 ++ r.2)

-- ---------------------------------------------------------------- calls
def mgFullX (st : St) : List C → X Unit
  | [] => xpure ()
  | .ref id _ _ len :: cs => xbind (xof (st.obj id)) fun o => xbind (xask (len = o.es.length)) fun _ => mgFullX st cs
  | _ :: cs => mgFullX st cs
def passOneX (st : St) (pm : PM) (x : SV) : X Pass :=
  match pm, x with
  | .ro ots, .v agg cs => xbind (lendTsX st ots cs) fun t => xpure { args := [.v agg t.1], ls := t.2, bs := [.no] }
  | .mv ots, .v agg cs => xbind (toTsX st ots cs) fun t => xpure { args := [.v agg t.1], hs := roots t.2, bs := [.no] }
  | .mb ots, .v false [.vptr id 0] => xbind (xof (st.var id)) fun cs => xbind (toTsX st ots cs) fun t => xpure { args := [.m (.pt t.1)], hs := roots t.2, vs := [id], bs := [.var id ots] }
  | .ms ot, .v false [.ref id p 0 len] =>
    xbind (xof (st.obj id)) fun o => xbind (subX o.ot o.es p) fun y =>
    if OT.beqs ot y.1 then xbind (xask (len = y.2.length)) fun _ => xpure { args := [.m (.sl y.2)], hs := [(id, p)], bs := [.obj id p ot] } else xfail
  | .mg ots, .v agg cs => xbind (toTsX st ots cs) fun t => xbind (xof (mgBack ots cs)) fun bs => xbind (mgFullX st cs) fun _ => xpure { args := [.v agg t.1], hs := roots t.2, bs }
  | _, _ => xfail

def passAllX (st : St) : List PM → List SV → X Pass
  | [], [] => xpure {}
  | pm :: pms, x :: xs => xbind (passOneX st pm x) fun a => xbind (passAllX st pms xs) fun b => xpure { args := a.args ++ b.args, hs := a.hs ++ b.hs, vs := a.vs ++ b.vs, ls := a.ls ++ b.ls, bs := a.bs ++ b.bs }
  | _, _ => xfail

def giveBackX (os : List (Option Ob)) : List Back → List T → St → X St
  | [], [], st => xpure st
  | .no :: bs, ms, st => giveBackX os bs ms st
  | .var id ots :: bs, .pt ts :: ms, st => xbind (inCsX st.objs ots ts) fun c => giveBackX os bs ms { st with vars := st.vars.set id (some c.1), objs := c.2 }
  | .obj id p _ :: bs, .sl es :: ms, st =>
    xbind (xof ((os[id]?).bind fun x => x)) fun o => xbind (subX o.ot o.es p) fun y => xbind (xask (es.length = y.2.length)) fun _ => xbind (updX o.ot o.es p es) fun es' =>
    giveBackX os bs ms { st.mapC (staleC id p.length) with objs := st.objs.set id (some ⟨o.ot, es'⟩) }
  | _, _, _ => xfail

def inRX (st : St) : RM → Arg → X ((Bool × List C) × St)
  | .v ots, .v agg ts => xbind (inCsX st.objs ots ts) fun c => xpure ((agg, c.1), { st with objs := c.2 })
  | .p ots, .m (.pt ts) => xbind (inCsX st.objs ots ts) fun c => xpure ((false, [.vptr st.vars.length 0]), { st with objs := c.2, vars := st.vars ++ [some c.1] })
  | _, _ => xfail
def inRsX (st : St) : List RM → List Arg → X (List (Bool × List C) × St)
  | [], [] => xpure ([], st)
  | m :: ms, a :: ars => xbind (inRX st m a) fun x => xbind (inRsX x.2 ms ars) fun y => xpure (x.1 :: y.1, y.2)
  | _, _ => xfail

section
variable (ext : FuncId → List Arg → Option FRes) (tbl : FuncId → Option VF)

def callX (st : St) (d : Nat) (f : FuncId) (xs : List SV) : X St :=
  match tbl f with
  | none => xfail
  | some vf =>
    xbind (passAllX st vf.pm xs) fun ps =>
    let us := ps.hs.map (·.1)
    if distinct us && distinct ps.vs && apart ps.ls us && (ps.ls.isEmpty || !(vf.pm.any PM.hasRo || vf.rm.any RM.hasRo)) then
      xbind xres fun r => xbind (xask (Runs ext tbl f ps.args r)) fun _ =>
      xbind (giveBackX st.objs ps.bs r.ms { st with objs := killO st.objs us, vars := ps.vs.foldl (fun vs i => vs.set i none) st.vars }) fun st2 =>
      xbind (inRsX st2 vf.rm r.rs) fun y =>
      match y with
      | ([(agg, cs)], st3) => xpure (st3.set d (.v agg cs))
      | (l, st3) => xpure (st3.set d (.tup l))
    else xfail

def opX (st : St) : VOp → X St
  | .pick d c a b => xbind (xtruth (st.val c)) fun t => xof ((st.get (if t then a else b)).map (st.set d))
  | .bin d op x y => xbind (xof (st.val x)) fun a => xbind (xof (st.val y)) fun b => xbind (binX op a b) fun r => xpure (st.set d (litS r))
  | .len d x => xbind (xof (st.cell x)) fun c => xbind (lenX st c) fun n => xpure (st.set d (litS (.int .i64 n)))
  | .idx d x i => xbind (xof (st.val x)) fun a => xbind (xof (st.val i)) fun b => xbind (idxX a b) fun r => xpure (st.set d (litS r))
  | .sstr d x lo hi =>
    match st.val x with
    | some (.string s) => xbind (boundsX st s.size lo hi) fun b => xpure (st.set d (litS (.string (s.extract b.1 b.2))))
    | _ => xfail
  | .iadr d x i n => xbind (xof (st.cell x)) fun c => xbind (xof (st.num i)) fun k => xbind (iadrX st k n c) fun c => xpure (st.set d (.v false [c]))
  | .ld d x n agg => if agg || decide (n = 1) then loadX st d x n agg else xfail
  | .st x y n => xbind (xof (st.get y)) fun s => storeX st x n s
  | .lits d p rs => xbind (rowsAllX st p rs) fun r => if distinct r.2 then pushX (st.kill r.2) d p r.1 else xfail
  | .mk d n p zero lim => xbind (xof (st.num n)) fun k => xbind (xask (0 ≤ k ∧ k ≤ lim)) fun _ => pushX st d p (List.replicate k.toNat (zero.map zeroT))
  | .app d x y p lim => appX st d x y p lim
  | .apps d x y lim => appSX st d x y lim
  | .slc d x lo hi n => xbind (xof (st.cell x)) fun c => xbind (slcX st lo hi n c) fun s => xpure (st.set d s)
  | .eqn d neg x => xbind (xof (st.cell x)) fun c => xbind (nilX st c) fun b => xpure (st.set d (litS (.bool (b != neg))))
  | .s2b d x =>
    match st.val x with
    | some (.string s) => xbind (xask (s.size ≤ 140737488355328)) fun _ => pushX st d [.sc] (bytesT s)
    | _ => xfail
  | .b2s _ _ => xfail
  | .call d f xs => xbind (xof (getAll st xs)) fun l => callX ext tbl st d f l
  | .callc d x xs =>
    match st.cell x, getAll st xs with
    | some (.clo f caps), some l => if caps.all (fun i => (st.var i).isSome) then callX ext tbl st d f (l ++ caps.map fun i => .v false [.vptr i 0]) else xfail
    | _, _ => xfail
  | o => xof (vop tbl (fun _ _ => none) st o)

def roX (st0 : St) (o : ROp) : X St :=
  let st := kept st0 o.kp
  match o.g with
  | none => xbind (frzAllX st o.fz) fun st1 => opX ext tbl st1 o.op
  | some (s, want) =>
    match st.slots[s]? with
    | some (.v false [.lit v]) =>
      match v with
      | .bool e => xbind xbit fun b => xbind (xask (e = b)) fun _ => if b = want then xbind (frzAllX st o.fz) fun st1 => opX ext tbl st1 o.op else xpure (o.op.skipS st)
      | _ => xpure (o.op.skipS st)
    | _ => xfail

def opsX (st : St) : List ROp → X St
  | [] => xpure st
  | o :: os => xbind (roX ext tbl st o) fun st1 => opsX st1 os
end
end Go.Proofs.V

/- Runs with answers told ahead are runs. -/
set_option linter.unusedSimpArgs false
set_option linter.unusedVariables false
namespace Go.Proofs.V
open Go

def All : List Prop → Prop
  | [] => True
  | p :: ps => p ∧ All ps
theorem All.app : ∀ {ps qs : List Prop}, All (ps ++ qs) → All ps ∧ All qs
  | [], qs, h => ⟨trivial, h⟩
  | p :: ps, qs, h => ⟨⟨h.1, (All.app h.2).1⟩, (All.app h.2).2⟩

def Ok {α : Type} (x : X α) (r : α → Prop) : Prop := ∀ os a os' ps, x os = some (a, os', ps) → All ps → r a

section
variable {α β : Type} {r : α → Prop} {q : β → Prop}
theorem Ok.mono {x : X α} {r' : α → Prop} (h : Ok x r) (hr : ∀ a, r a → r' a) : Ok x r' := fun os a os' ps h1 h2 => hr a (h os a os' ps h1 h2)
theorem Ok.pure {a : α} (h : r a) : Ok (xpure a) r := fun os b os' ps h1 _ => by simp [xpure] at h1; rw [← h1.1]; exact h
theorem Ok.bind {x : X α} {f : α → X β} (h1 : Ok x r) (h2 : ∀ a, r a → Ok (f a) q) : Ok (xbind x f) q := by
  intro os b os' ps h hp
  unfold xbind at h
  split at h
  · simp at h
  · rename_i a os1 p hx
    split at h
    · simp at h
    · rename_i b' os2 p2 hf
      simp at h
      obtain ⟨rfl, rfl, rfl⟩ := h
      obtain ⟨hp1, hp2⟩ := hp.app
      exact h2 a (h1 _ _ _ _ hx hp1) _ _ _ _ hf hp2
theorem Ok.fail : Ok (xfail : X α) r := fun os a os' ps h _ => by simp [xfail] at h
theorem Ok.of {o : Option α} (h : ∀ a, o = some a → r a) : Ok (xof o) r := by
  cases o with
  | none => exact Ok.fail
  | some a => exact Ok.pure (h a rfl)
theorem Ok.ask {p : Prop} {r : Unit → Prop} (h : p → r ()) : Ok (xask p) r := fun os a os' ps h1 h2 => by
  simp [xask] at h1; obtain ⟨_, rfl⟩ := h1; exact h h2.1
theorem Ok.any {x : X α} (h : ∀ a, r a) : Ok x r := fun os a os' ps _ _ => h a
theorem Ok.true {x : X α} : Ok x fun _ => True := fun _ _ _ _ _ _ => trivial
theorem Ok.ite {c : Prop} [Decidable c] {x y : X α} (h1 : c → Ok x r) (h2 : ¬c → Ok y r) : Ok (if c then x else y) r := by
  split
  · exact h1 ‹_›
  · exact h2 ‹_›
theorem Ok.iteF {c : Prop} [Decidable c] {x : X α} (h1 : c → Ok x r) : Ok (if c then x else xfail) r := Ok.ite h1 fun _ => Ok.fail
end

theorem Ok.asked {β : Type} {p : Prop} {f : Unit → X β} {q : β → Prop} (h : p → Ok (f ()) q) : Ok (xbind (xask p) f) q := Ok.bind (r := fun _ => p) (Ok.ask fun h => h) fun _ hp => h hp
theorem Ok.took {α β : Type} {x : X α} {f : α → X β} {q : β → Prop} (h : ∀ a, Ok (f a) q) : Ok (xbind x f) q := Ok.bind Ok.true fun a _ => h a
theorem Ok.ofb {α β : Type} {o : Option α} {f : α → X β} {q : β → Prop} (h : ∀ a, o = some a → Ok (f a) q) : Ok (xbind (xof o) f) q := Ok.bind (r := fun a => o = some a) (Ok.of fun _ h => h) h

theorem tell_ok (es : List (List T)) : Ok (xtell es) fun x => x = es := Ok.took fun x => Ok.asked fun h => Ok.pure h.symm
theorem size_ok (n : Nat) : Ok (xsize n) fun x => x = n := Ok.took fun x => Ok.asked fun h => Ok.pure h.symm
theorem truth_ok (v : Option Value) : Ok (xtruth v) fun b => v = some (.bool b) := by
  unfold xtruth
  split
  · exact Ok.took fun b => Ok.asked fun h => Ok.pure (by rw [h])
  · exact Ok.fail

theorem binX_ok (op : BinOp) (a b : Value) : Ok (binX op a b) fun v => vbin op a b = some v := by
  unfold binX
  split
  · split
    · exact Ok.asked fun h => Ok.pure (by simp [vbin]; omega)
    · exact Ok.asked fun h => Ok.pure (by simp [vbin]; omega)
    · exact Ok.iteF fun hk => Ok.asked fun h => Ok.pure (by simp [vbin, hk, h])
    · exact Ok.iteF fun hk => Ok.asked fun h => Ok.pure (by simp [vbin, hk, h])
    · exact Ok.of fun a h => h
  · split
    · exact Ok.asked fun h => Ok.pure (by simp [vbin, h])
    · exact Ok.of fun a h => h
  · exact Ok.fail

theorem idxX_ok (a b : Value) : Ok (idxX a b) fun v => vidx a b = some v := by
  unfold idxX
  split
  · refine Ok.took fun x => Ok.asked fun h => Ok.asked fun h2 => Ok.pure ?_
    simp only [vidx, if_pos h]
    rw [Option.map_eq_some_iff] at h2 ⊢
    obtain ⟨c, h3, h4⟩ := h2
    exact ⟨c, h3, by rw [← h4]⟩
  · exact Ok.fail

theorem loX_ok (st : St) (h : Nat) (lo : Option Opd) : Ok (loX st h lo) fun x => vlo st h lo = some x := by
  cases lo with
  | none => exact Ok.pure rfl
  | some o =>
    unfold loX
    refine Ok.ofb fun k hk => Ok.asked fun h2 => Ok.pure ?_
    simp [vlo, hk, h2]
theorem boundsX_ok (st : St) (n : Nat) (lo hi : Option Opd) : Ok (boundsX st n lo hi) fun x => vbounds st n lo hi = some x := by
  cases hi with
  | none => exact loX_ok st n lo
  | some o => exact Ok.ofb fun k hk => Ok.asked fun h2 => (loX_ok st k.toNat lo).mono fun x hx => by simp [vbounds, hk, h2, hx]

theorem subX_ok : ∀ (p : Pth) (ot : List OT) (es : List (List T)), Ok (subX ot es p) fun x => subEs ot es p = some x
  | [], ot, es => Ok.pure rfl
  | (i, j) :: r, ot, es => by
    refine Ok.took fun rw => Ok.asked fun h => ?_
    split
    · rename_i ot' es' h1 h2
      exact (subX_ok r ot' es').mono fun x hx => by simp [subEs, h1, h, h2, hx]
    · exact Ok.fail

theorem updX_ok : ∀ (p : Pth) (ot : List OT) (es new : List (List T)), Ok (updX ot es p new) fun x => updEs ot es p new = some x
  | [], ot, es, new => Ok.pure rfl
  | (i, j) :: r, ot, es, new => by
    refine Ok.took fun rw => Ok.asked fun h => ?_
    split
    · rename_i ot' es' h1 h2
      refine Ok.bind (updX_ok r ot' es' new) fun x hx => (tell_ok _).mono fun y hy => ?_
      simp [updEs, h1, h, h2, hx, hy]
    · exact Ok.fail

theorem rdCX_ok (id : Nat) (p : Pth) (i j : Nat) (o : OT) (t : T) : Ok (rdCX id p i j o t) fun c => c = rdC id p i j o t := by
  unfold rdCX
  split
  · exact Ok.bind (size_ok _) fun n hn => Ok.pure (by simp [rdC, hn])
  · exact Ok.pure rfl
theorem rdCsX_ok (id : Nat) (p : Pth) (i : Nat) : ∀ (j : Nat) (ot : List OT) (row : List T), Ok (rdCsX id p i j ot row) fun cs => cs = rdCs id p i j ot row
  | j, o :: ot, x :: row => Ok.bind (rdCX_ok id p i j o x) fun c hc => Ok.bind (rdCsX_ok id p i (j + 1) ot row) fun cs hcs => Ok.pure (by simp [rdCs, hc, hcs])
  | j, [], _ => Ok.pure (by simp [rdCs])
  | j, _ :: _, [] => Ok.pure (by simp [rdCs])

theorem toTX_ok (st : St) (o : OT) (c : C) : Ok (toTX st o c) fun x => toT st o c = some x := by
  unfold toTX
  split
  · refine Ok.ofb fun ob hob => Ok.iteF fun hb => Ok.asked fun hl => Ok.bind (tell_ok _) fun es hes => Ok.pure ?_
    simp [toT, hob, hb, hl, hes]
  · exact Ok.of fun x h => h
theorem toTsX_ok (st : St) : ∀ (o : List OT) (c : List C), Ok (toTsX st o c) fun x => toTs st o c = some x
  | [], [] => Ok.pure rfl
  | [], _ :: _ => Ok.fail
  | _ :: _, [] => Ok.fail
  | o :: ot, c :: cs => Ok.bind (toTX_ok st o c) fun x hx => Ok.bind (toTsX_ok st ot cs) fun y hy => Ok.pure (by simp [toTs, hx, hy])

theorem lendTX_ok (st : St) (o : OT) (c : C) : Ok (lendTX st o c) fun x => lendT st o c = some x := by
  unfold lendTX
  split
  · refine Ok.ofb fun ob hob => Ok.bind (subX_ok _ _ _) fun x hx => Ok.iteF fun hb => Ok.asked fun hl => Ok.bind (tell_ok _) fun es hes => Ok.pure ?_
    simp [lendT, hob, hb, hl, hes, hx]
  · exact Ok.of fun x h => h
theorem lendTsX_ok (st : St) : ∀ (o : List OT) (c : List C), Ok (lendTsX st o c) fun x => lendTs st o c = some x
  | [], [] => Ok.pure rfl
  | [], _ :: _ => Ok.fail
  | _ :: _, [] => Ok.fail
  | o :: ot, c :: cs => Ok.bind (lendTX_ok st o c) fun x hx => Ok.bind (lendTsX_ok st ot cs) fun y hy => Ok.pure (by simp [lendTs, hx, hy])

theorem inCX_ok (objs : List (Option Ob)) (o : OT) (t : T) : Ok (inCX objs o t) fun x => inC objs o t = some x := by
  unfold inCX
  split
  · exact Ok.bind (size_ok _) fun n hn => Ok.pure (by simp [inC, hn])
  · exact Ok.of fun x h => h
theorem inCsX_ok : ∀ (o : List OT) (t : List T) (objs : List (Option Ob)), Ok (inCsX objs o t) fun x => inCs objs o t = some x
  | [], [], objs => Ok.pure rfl
  | [], _ :: _, objs => Ok.fail
  | _ :: _, [], objs => Ok.fail
  | o :: ot, c :: cs, objs => Ok.bind (inCX_ok objs o c) fun x hx => Ok.bind (inCsX_ok ot cs x.2) fun y hy => Ok.pure (by simp [inCs, hx, hy])

-- ---------------------------------------------------------------- freezing
theorem frzCX_ok (i : Nat) (o : Ob) (c : C) : Ok (frzCX i o c) fun x => x = frzC i o c := by
  unfold frzCX
  split
  · refine Ok.ite (fun hi => ?_) fun hi => Ok.pure (by simp [frzC, hi])
    refine Ok.bind (subX_ok _ _ _) fun x hx => Ok.asked fun hl => Ok.bind (tell_ok _) fun es hes => Ok.pure ?_
    simp [frzC, hi, hx, hl, hes]
  · exact Ok.pure (by cases c <;> first | rfl | (rename_i hne; exact absurd rfl (hne _ _ _ _)))
theorem mapX_ok {α β : Type} {f : α → X β} {g : α → β} (h : ∀ a, Ok (f a) fun b => b = g a) : ∀ l : List α, Ok (mapX f l) fun l' => l' = l.map g
  | [] => Ok.pure rfl
  | a :: l => Ok.bind (h a) fun b hb => Ok.bind (mapX_ok h l) fun l' hl => Ok.pure (by simp [hb, hl])
theorem svmapX_ok {f : C → X C} {g : C → C} (h : ∀ a, Ok (f a) fun b => b = g a) (s : SV) : Ok (SV.mapX f s) fun x => x = s.map g := by
  cases s with
  | v a cs => exact Ok.bind (mapX_ok h cs) fun x hx => Ok.pure (by simp [SV.map, hx])
  | tup ss =>
    have h1 : ∀ x : Bool × List C, Ok (xbind (V.mapX f x.2) fun cs => xpure (x.1, cs)) fun y => y = (x.1, x.2.map g) := by
      intro x
      refine Ok.bind (mapX_ok h x.2) fun y hy => Ok.pure ?_
      rw [hy]
    unfold SV.mapX
    refine Ok.bind (mapX_ok h1 ss) fun x hx => Ok.pure ?_
    rw [hx]
    rfl
  | any => exact Ok.pure rfl
theorem optX_ok {α β : Type} {f : α → X β} {g : α → β} (h : ∀ a, Ok (f a) fun b => b = g a) (o : Option α) : Ok (optX f o) fun x => x = o.map g := by
  cases o with
  | none => exact Ok.pure rfl
  | some a => exact Ok.bind (h a) fun b hb => Ok.pure (by simp [hb])
theorem stmapX_ok {f : C → X C} {g : C → C} (h : ∀ a, Ok (f a) fun b => b = g a) (st : St) : Ok (St.mapX st f) fun x => x = st.mapC g :=
  Ok.bind (mapX_ok (svmapX_ok h) st.slots) fun sl hsl => Ok.bind (mapX_ok (optX_ok (mapX_ok h)) st.vars) fun vs hvs => Ok.pure (by simp [St.mapC, hsl, hvs])
theorem freezeX_ok (st : St) (k j : Nat) : Ok (freezeX st k j) fun x => st.freeze k j = some x := by
  unfold freezeX
  split
  · rename_i a cs h1
    split
    · rename_i id p off len h2
      exact Ok.ofb fun o ho => Ok.bind (stmapX_ok (frzCX_ok id o) st) fun x hx => Ok.pure (by simp [St.freeze, h1, h2, ho, hx])
    · exact Ok.fail
  · exact Ok.fail
theorem frzAllX_ok : ∀ (l : List (Nat × Nat)) (st : St), Ok (frzAllX st l) fun x => frzAll st l = some x
  | [], st => Ok.pure rfl
  | (k, j) :: l, st => Ok.bind (freezeX_ok st k j) fun x hx => (frzAllX_ok l x).mono fun y hy => by simp [frzAll, hx, hy]

-- ---------------------------------------------------------------- memory operations
theorem pushX_ok (st : St) (d : Nat) (ot : List OT) (es : List (List T)) : Ok (pushX st d ot es) fun x => x = st.push d ⟨ot, es⟩ :=
  Ok.bind (tell_ok es) fun es' he => Ok.bind (size_ok _) fun n hn => Ok.pure (by subst he; subst hn; rfl)

theorem rdCs_take (id : Nat) (p : Pth) (i : Nat) : ∀ (n j : Nat) (ot : List OT) (row : List T), rdCs id p i j (ot.take n) (row.take n) = (rdCs id p i j ot row).take n
  | 0, j, ot, row => by simp [rdCs]
  | n + 1, j, [], row => by simp [rdCs]
  | n + 1, j, o :: ot, [] => by simp [rdCs]
  | n + 1, j, o :: ot, x :: row => by simp [rdCs, rdCs_take id p i n]

theorem loadX_ok (st : St) (d : Nat) (x : Opd) (n : Nat) (agg : Bool) : Ok (loadX st d x n agg) fun y => vload st d x n agg = some y := by
  unfold loadX
  simp only
  split
  · rename_i p cs h1
    exact Ok.iteF fun h => Ok.pure (by unfold vload; simp only [h1]; rw [if_pos h])
  · rename_i id p i j h1
    refine Ok.ofb fun o ho => Ok.bind (subX_ok _ _ _) fun y hy => Ok.took fun rw' => Ok.asked fun hrw => Ok.bind (rdCsX_ok _ _ _ _ _ _) fun cs hcs => Ok.iteF fun hl => Ok.pure ?_
    rw [rdCs_take] at hcs
    subst hcs
    unfold vload
    simp only [h1, ho, hy, hrw]
    rw [if_pos hl]
  · rename_i id j h1
    exact Ok.ofb fun cs hcs => Ok.iteF fun h => Ok.pure (by unfold vload; simp only [h1, hcs]; rw [if_pos h])
  · exact Ok.fail

theorem putOX_ok (st : St) (id : Nat) (p : Pth) (i j : Nat) (c : C) : Ok (putOX st id p i j c) fun x => st.putO id p i j c = some x := by
  unfold putOX
  refine Ok.ofb fun o ho => Ok.bind (subX_ok _ _ _) fun y hy => Ok.ofb fun oc hoc => Ok.bind (toTX_ok _ _ _) fun x hx => Ok.ite (fun _ => Ok.fail) fun hu => Ok.took fun es1 => Ok.asked fun h1 => Ok.bind (updX_ok _ _ _ _) fun es' he => Ok.pure ?_
  obtain ⟨row, h2, h3, h4⟩ := h1
  unfold St.putO
  have hn : ¬ row.length ≤ j := by omega
  simp only [ho, hy, hoc, h2, hx]
  rw [if_neg (by simp [hn]; simpa using hu), h4, he]
  rfl
theorem putOsX_ok (id : Nat) (p : Pth) (i : Nat) : ∀ (cs : List C) (j : Nat) (st : St), Ok (putOsX st id p i j cs) fun x => st.putOs id p i j cs = some x
  | [], j, st => Ok.pure rfl
  | c :: cs, j, st => Ok.bind (putOX_ok st id p i j c) fun x hx => (putOsX_ok id p i cs (j + 1) x).mono fun y hy => by simp [St.putOs, hx, hy]

theorem storeX_ok (st : St) (x : Opd) (n : Nat) (y : SV) : Ok (storeX st x n y) fun z => vstore st x n y = some z := by
  unfold storeX
  split
  · rename_i id p i j a cs h1 h2
    exact Ok.iteF fun h => (putOsX_ok id p i cs j st).mono fun z hz => by unfold vstore; simp only [h1, h2, if_pos h]; exact hz
  · exact Ok.of fun z h => h

theorem srcX_ok (st : St) (p : List OT) (c : C) : Ok (srcX st p c) fun x => srcRows st p c = some x := by
  unfold srcX
  split
  · refine Ok.ofb fun o ho => Ok.bind (subX_ok _ _ _) fun y hy => Ok.ite (fun hb => ?_) fun hb => Ok.iteF fun hb2 => ?_
    · exact Ok.asked fun hl => Ok.pure (by simp only [srcRows, ho, hy, if_pos hl, if_pos hb])
    · refine Ok.asked fun h1 => Ok.asked fun hl => Ok.pure ?_
      simp only [srcRows, ho, hy, if_pos hl]
      rw [if_neg hb, if_pos]
      simp only [Bool.and_eq_true, decide_eq_true_eq] at hb2 ⊢
      exact ⟨hb2.1, hb2.2, h1⟩
  · exact Ok.of fun x h => h

theorem appX_ok (st : St) (d : Nat) (x y : Opd) (p : List OT) (lim : Nat) : Ok (appX st d x y p lim) fun z => vappend st d x y p lim = some z := by
  unfold appX
  refine Ok.ofb fun cx hx => Ok.ofb fun cy hy => Ok.bind (srcX_ok st p cy) fun s hs => ?_
  split
  · exact Ok.asked fun h => (pushX_ok _ _ _ _).mono fun z hz => by simp only [vappend, hx, hy, hs, if_pos h, hz]
  · refine Ok.ofb fun o ho => Ok.iteF fun hb => Ok.asked fun h => (pushX_ok _ _ _ _).mono fun z hz => ?_
    simp only [vappend, hx, hy, hs, ho]
    simp only [Bool.and_eq_true] at hb
    rw [if_pos (by simp only [hb.1, hb.2, Bool.true_and, Bool.and_true, decide_eq_true_eq]; exact h), hz]
  · exact Ok.fail

theorem appSX_ok (st : St) (d : Nat) (x y : Opd) (lim : Nat) : Ok (appSX st d x y lim) fun z => vappendS st d x y lim = some z := by
  unfold appSX
  refine Ok.ofb fun cx hx => ?_
  split
  · rename_i s hs
    split
    · exact Ok.asked fun h => (pushX_ok _ _ _ _).mono fun z hz => by simp only [vappendS, hx, hs, if_pos h, hz]
    · refine Ok.ofb fun o ho => Ok.iteF fun hb => Ok.asked fun h => (pushX_ok _ _ _ _).mono fun z hz => ?_
      simp only [vappendS, hx, hs, ho]
      rw [if_pos (by simp only [hb, Bool.true_and, decide_eq_true_eq]; exact h), hz]
    · exact Ok.fail
  · exact Ok.fail

theorem iadrX_ok (st : St) (k : Int) (n : Nat) (c : C) : Ok (iadrX st k n c) fun x => iadrC st k n c = some x := by
  unfold iadrX
  split
  · exact Ok.iteF fun hp => Ok.took fun rw' => Ok.asked fun h1 => Ok.asked fun h2 => Ok.pure (by simp only [iadrC, if_pos h1, h2, if_pos hp])
  · refine Ok.asked fun h1 => ?_
    split
    · rename_i ot ho
      exact Ok.iteF fun hn => Ok.pure (by simp only [iadrC, if_pos h1, ho, if_pos hn])
    · exact Ok.fail
  · exact Ok.fail

theorem slcX_ok (st : St) (lo hi : Option Opd) (n : Nat) (c : C) : Ok (slcX st lo hi n c) fun x => slcR st lo hi n c = some x := by
  unfold slcX
  split
  · exact Ok.iteF fun hp => Ok.bind (boundsX_ok _ _ _ _) fun b hb => Ok.bind (tell_ok _) fun es he => Ok.pure (by simp only [slcR, if_pos hp, hb, Option.map_some, he])
  · split
    · rename_i ot ho
      exact Ok.iteF fun hn => Ok.bind (boundsX_ok _ _ _ _) fun b hb => Ok.pure (by simp only [slcR, ho, if_pos hn, hb, Option.map_some])
    · exact Ok.fail
  · exact Ok.bind (boundsX_ok _ _ _ _) fun b hb => Ok.pure (by simp only [slcR, hb, Option.map_some])
  · exact Ok.fail

theorem nilX_ok (st : St) (c : C) : Ok (nilX st c) fun x => nilC st c = some x := by
  unfold nilX
  split
  · exact Ok.pure rfl
  · exact Ok.asked fun h => Ok.pure (by simp [nilC, h])
  · exact Ok.asked fun h => Ok.ofb fun o ho => Ok.pure (by simp [nilC, h, ho])
  · exact Ok.fail

theorem rowsAllX_ok (st : St) (p : List OT) : ∀ xs : List Opd, Ok (rowsAllX st p xs) fun r => rowsAll st p xs = some r
  | [] => Ok.pure rfl
  | x :: xs => Ok.ofb fun c hc => Ok.bind (rowsAllX_ok st p xs) fun r hr => Ok.bind (toTsX_ok st p c.2) fun t ht => Ok.pure (by simp [rowsAll, hc, hr, ht])

-- ---------------------------------------------------------------- calls
theorem mgFullX_ok (st : St) : ∀ cs : List C, Ok (mgFullX st cs) fun _ => mgFull st cs = true
  | [] => Ok.pure rfl
  | .ref id p off len :: cs => Ok.ofb fun o ho => Ok.asked fun hl => (mgFullX_ok st cs).mono fun _ h => by simp [mgFull, ho, hl, h]
  | .lit _ :: cs => (mgFullX_ok st cs).mono fun _ h => by simpa [mgFull] using h
  | .ro .. :: cs => (mgFullX_ok st cs).mono fun _ h => by simpa [mgFull] using h
  | .ptr .. :: cs => (mgFullX_ok st cs).mono fun _ h => by simpa [mgFull] using h
  | .rptr .. :: cs => (mgFullX_ok st cs).mono fun _ h => by simpa [mgFull] using h
  | .vptr .. :: cs => (mgFullX_ok st cs).mono fun _ h => by simpa [mgFull] using h
  | .clo .. :: cs => (mgFullX_ok st cs).mono fun _ h => by simpa [mgFull] using h
  | .dead :: cs => (mgFullX_ok st cs).mono fun _ h => by simpa [mgFull] using h
theorem passOneX_ok (st : St) (pm : PM) (x : SV) : Ok (passOneX st pm x) fun a => passOne st pm x = some a := by
  unfold passOneX
  split
  · exact Ok.bind (lendTsX_ok _ _ _) fun t ht => Ok.pure (by simp [passOne, ht])
  · exact Ok.bind (toTsX_ok _ _ _) fun t ht => Ok.pure (by simp [passOne, ht])
  · exact Ok.ofb fun cs hcs => Ok.bind (toTsX_ok _ _ _) fun t ht => Ok.pure (by simp [passOne, ht, hcs])
  · exact Ok.ofb fun o ho => Ok.bind (subX_ok _ _ _) fun y hy => Ok.iteF fun hb => Ok.asked fun hl => Ok.pure (by simp [passOne, ho, hy, hb, hl])
  · exact Ok.bind (toTsX_ok _ _ _) fun t ht => Ok.ofb fun bs hb => Ok.bind (mgFullX_ok _ _) fun _ hf => Ok.pure (by simp [passOne, ht, hb, hf])
  · exact Ok.fail
theorem passAllX_ok (st : St) : ∀ (pms : List PM) (xs : List SV), Ok (passAllX st pms xs) fun a => passAll st pms xs = some a
  | [], [] => Ok.pure rfl
  | [], _ :: _ => Ok.fail
  | _ :: _, [] => Ok.fail
  | pm :: pms, x :: xs => Ok.bind (passOneX_ok st pm x) fun a ha => Ok.bind (passAllX_ok st pms xs) fun b hb => Ok.pure (by simp [passAll, ha, hb])

theorem giveBackX_ok (os : List (Option Ob)) : ∀ (bs : List Back) (ms : List T) (st : St), Ok (giveBackX os bs ms st) fun x => giveBack os bs ms st = some x
  | [], [], st => Ok.pure rfl
  | [], _ :: _, st => Ok.fail
  | .no :: bs, ms, st => (giveBackX_ok os bs ms st).mono fun x hx => by simpa [giveBack] using hx
  | .var id ots :: bs, [], st => Ok.fail
  | .var id ots :: bs, .lit _ :: ms, st => Ok.fail
  | .var id ots :: bs, .sl _ :: ms, st => Ok.fail
  | .var id ots :: bs, .pt ts :: ms, st => Ok.bind (inCsX_ok _ _ _) fun c hc => (giveBackX_ok os bs ms _).mono fun x hx => by simp [giveBack, hc, hx]
  | .obj id p ot :: bs, [], st => Ok.fail
  | .obj id p ot :: bs, .lit _ :: ms, st => Ok.fail
  | .obj id p ot :: bs, .pt _ :: ms, st => Ok.fail
  | .obj id p ot :: bs, .sl es :: ms, st => Ok.ofb fun o ho => Ok.bind (subX_ok _ _ _) fun y hy => Ok.asked fun hl => Ok.bind (updX_ok _ _ _ _) fun es' he => (giveBackX_ok os bs ms _).mono fun x hx => by
      simp only [giveBack, ho, hy, he, if_pos hl]
      exact hx

theorem inRX_ok (st : St) (m : RM) (a : Arg) : Ok (inRX st m a) fun x => inR st m a = some x := by
  unfold inRX
  split
  · exact Ok.bind (inCsX_ok _ _ _) fun c hc => Ok.pure (by simp [inR, hc])
  · exact Ok.bind (inCsX_ok _ _ _) fun c hc => Ok.pure (by simp [inR, hc])
  · exact Ok.fail
theorem inRsX_ok : ∀ (ms : List RM) (ars : List Arg) (st : St), Ok (inRsX st ms ars) fun x => inRs st ms ars = some x
  | [], [], st => Ok.pure rfl
  | [], _ :: _, st => Ok.fail
  | _ :: _, [], st => Ok.fail
  | m :: ms, a :: ars, st => Ok.bind (inRX_ok st m a) fun x hx => Ok.bind (inRsX_ok ms ars x.2) fun y hy => Ok.pure (by simp [inRs, hx, hy])

section
variable {ext : FuncId → List Arg → Option FRes} {tbl : FuncId → Option VF}

theorem callX_ok (st : St) (d : Nat) (f : FuncId) (xs : List SV) : Ok (callX ext tbl st d f xs) fun x => ∃ n, vcall tbl (vrun ext tbl n) st d f xs = some x := by
  unfold callX
  split
  · exact Ok.fail
  · rename_i vf hvf
    refine Ok.bind (passAllX_ok _ _ _) fun ps hps => Ok.iteF fun hc => Ok.took fun r => Ok.asked fun hr => Ok.bind (giveBackX_ok _ _ _ _) fun st2 hst2 => Ok.bind (inRsX_ok _ _ _) fun y hy => ?_
    obtain ⟨n, hr⟩ := hr
    split
    · exact Ok.pure ⟨n, by simp only [vcall, hvf, hps]; rw [if_pos hc]; simp only [hr, hst2, hy]⟩
    · rename_i l st3 hne
      refine Ok.pure ⟨n, ?_⟩
      simp only [vcall, hvf, hps]
      rw [if_pos hc]
      simp only [hr, hst2, hy]

theorem opX_ok (st : St) (o : VOp) : Ok (opX ext tbl st o) fun x => ∃ n, vop tbl (vrun ext tbl n) st o = some x := by
  have base : ∀ o : VOp, (∀ x, vop tbl (fun _ _ => none) st o = some x → ∃ n, vop tbl (vrun ext tbl n) st o = some x) := fun o x h => ⟨0, vop_mono (fun _ _ _ h => by simp at h) h⟩
  cases o with
  | pick d c a b =>
    refine Ok.bind (truth_ok _) fun t ht => Ok.of fun x hx => ⟨0, ?_⟩
    simp only [vop, ht]
    cases t <;> exact hx
  | bin d op x y => exact Ok.ofb fun a ha => Ok.ofb fun b hb => Ok.bind (binX_ok op a b) fun r hr => Ok.pure ⟨0, by simp [vop, ha, hb, hr]⟩
  | len d x =>
    refine Ok.ofb fun c hc => ?_
    unfold lenX
    split
    · exact Ok.bind (r := fun n => n = 0) (Ok.pure rfl) fun n hn => Ok.pure ⟨0, by subst hn; simp [vop, hc]⟩
    · exact Ok.bind (size_ok _) fun n hn => Ok.pure ⟨0, by subst hn; simp [vop, hc]⟩
    · rename_i id p off len
      refine Ok.bind (r := fun n => n = len ∧ ∃ o, st.obj id = some o) (Ok.ofb fun o ho => Ok.pure ⟨rfl, o, ho⟩) fun n hn => Ok.pure ⟨0, ?_⟩
      obtain ⟨rfl, o, ho⟩ := hn
      simp [vop, hc, ho]
    · exact Ok.bind (r := fun _ => False) Ok.fail fun _ h => h.elim
  | idx d x i => exact Ok.ofb fun a ha => Ok.ofb fun b hb => Ok.bind (idxX_ok a b) fun r hr => Ok.pure ⟨0, by simp [vop, ha, hb, hr]⟩
  | sstr d x lo hi =>
    simp only [opX]
    split
    · rename_i s hs
      exact Ok.bind (boundsX_ok _ _ _ _) fun b hb => Ok.pure ⟨0, by simp [vop, hs, hb]⟩
    · exact Ok.fail
  | iadr d x i n => exact Ok.ofb fun c hc => Ok.ofb fun k hk => Ok.bind (iadrX_ok st k n c) fun r hr => Ok.pure ⟨0, by simp [vop, hc, hk, hr]⟩
  | ld d x n agg =>
    simp only [opX]
    exact Ok.iteF fun h => (loadX_ok st d x n agg).mono fun y hy => ⟨0, by simp only [vop, if_pos h, hy]⟩
  | st x y n => exact Ok.ofb fun s hs => (storeX_ok st x n s).mono fun z hz => ⟨0, by simp [vop, hs, hz]⟩
  | lits d p rs => exact Ok.bind (rowsAllX_ok st p rs) fun r hr => Ok.iteF fun hd => (pushX_ok _ _ _ _).mono fun z hz => ⟨0, by simp [vop, hr, hd, hz]⟩
  | mk d n p zero lim => exact Ok.ofb fun k hk => Ok.asked fun h => (pushX_ok _ _ _ _).mono fun z hz => ⟨0, by simp only [vop, hk, if_pos h, hz]⟩
  | app d x y p lim => exact (appX_ok st d x y p lim).mono fun z hz => ⟨0, hz⟩
  | apps d x y lim => exact (appSX_ok st d x y lim).mono fun z hz => ⟨0, hz⟩
  | slc d x lo hi n => exact Ok.ofb fun c hc => Ok.bind (slcX_ok st lo hi n c) fun s hs => Ok.pure ⟨0, by simp [vop, hc, hs]⟩
  | eqn d neg x => exact Ok.ofb fun c hc => Ok.bind (nilX_ok st c) fun b hb => Ok.pure ⟨0, by simp [vop, hc, hb]⟩
  | s2b d x =>
    simp only [opX]
    split
    · rename_i s hs
      exact Ok.asked fun h => (pushX_ok _ _ _ _).mono fun z hz => ⟨0, by simp only [vop, hs, if_pos h, hz]⟩
    · exact Ok.fail
  | b2s d x => exact Ok.fail
  | call d f xs => exact Ok.ofb fun l hl => (callX_ok st d f l).mono fun z ⟨n, hz⟩ => ⟨n, by simp [vop, hl, hz]⟩
  | callc d x xs =>
    simp only [opX]
    split
    · rename_i f caps l h1 h2
      exact Ok.iteF fun h => (callX_ok st d f _).mono fun z ⟨n, hz⟩ => ⟨n, by simp only [vop, h1, h2, if_pos h, hz]⟩
    · exact Ok.fail
  | nil d p => exact (show Ok (xof (vop tbl (fun _ _ => none) st (.nil d p))) _ from Ok.of fun x hx => base _ x hx)
  | cpy d x y => exact (show Ok (xof (vop tbl (fun _ _ => none) st (.cpy d x y))) _ from Ok.of fun x hx => base _ x hx)
  | _ => exact Ok.of fun x hx => base _ x hx

theorem roX_ok (st : St) (o : ROp) : Ok (roX ext tbl st o) fun x => ∃ n, vro tbl (vrun ext tbl n) st o = some x := by
  have hdo : Ok (xbind (frzAllX (kept st o.kp) o.fz) fun st1 => opX ext tbl st1 o.op) fun x => ∃ n, (frzAll (kept st o.kp) o.fz).bind (fun st1 => vop tbl (vrun ext tbl n) st1 o.op) = some x :=
    Ok.bind (frzAllX_ok _ _) fun st1 h1 => (opX_ok st1 o.op).mono fun x ⟨n, hx⟩ => ⟨n, by simp [h1, hx]⟩
  unfold roX vro vro1
  simp only
  split
  · rename_i hg
    simp only [hg]
    exact hdo
  · rename_i s want hg
    simp only [hg]
    split
    · rename_i v hs
      split
      · rename_i e
        refine Ok.took fun b => Ok.asked fun he => Ok.ite (fun hb => ?_) fun hb => ?_
        · refine hdo.mono fun x ⟨n, hx⟩ => ⟨n, ?_⟩
          simp only [hs]
          rw [if_pos (he.trans hb)]
          exact hx
        · exact Ok.pure ⟨0, by simp only [hs]; rw [if_neg (by rw [he]; exact hb)]⟩
      · rename_i hne
        refine Ok.pure ⟨0, ?_⟩
        simp only [hs]
    · exact Ok.fail

theorem opsX_ok : ∀ (l : List ROp) (st : St), Ok (opsX ext tbl st l) fun x => ∃ n, vops tbl (vrun ext tbl n) st l = some x
  | [], st => Ok.pure ⟨0, rfl⟩
  | o :: l, st => Ok.bind (roX_ok st o) fun st1 ⟨n, h1⟩ => (opsX_ok l st1).mono fun x ⟨m, hx⟩ => ⟨max n m, by
      simp only [vops, vro_mono (runs_le (Nat.le_max_left n m)) h1]
      exact vops_mono (runs_le (Nat.le_max_right n m)) hx⟩
end
end Go.Proofs.V

/- Runs with answers told ahead: control flow, labels, loops. -/
set_option linter.unusedSimpArgs false
set_option linter.unusedVariables false
namespace Go.Proofs.V
open Go

/-- what is still to be done -/
inductive Fr where
  | sq (b : VC)
  | bk (id : Nat)
  | lp (keep : List Nat) (c : VC)
inductive Cu where
  | c (c : VC)
  | x (x : VX)

section
variable {ext : FuncId → List Arg → Option FRes} {tbl : FuncId → Option VF}

def EvK (ext : FuncId → List Arg → Option FRes) (tbl : FuncId → Option VF) : VX → List Fr → St → (VX → St → Prop) → Prop
  | x, [], st, Q => Q x st
  | .n, .sq b :: K, st, Q => Ev ext tbl b st fun x st => EvK ext tbl x K st Q
  | .e i, .sq _ :: K, st, Q => EvK ext tbl (.e i) K st Q
  | .r, .sq _ :: K, st, Q => EvK ext tbl .r K st Q
  | .n, .bk _ :: K, st, Q => EvK ext tbl .n K st Q
  | .e i, .bk id :: K, st, Q => if i = id then EvK ext tbl .n K st Q else EvK ext tbl (.e i) K st Q
  | .r, .bk _ :: K, st, Q => EvK ext tbl .r K st Q
  | .n, .lp keep c :: K, st, Q => Ev ext tbl (.loop keep c) st fun x st => EvK ext tbl x K st Q
  | .e i, .lp _ _ :: K, st, Q => EvK ext tbl (.e i) K st Q
  | .r, .lp _ _ :: K, st, Q => EvK ext tbl .r K st Q

def EvU (ext : FuncId → List Arg → Option FRes) (tbl : FuncId → Option VF) (u : Cu) (K : List Fr) (st : St) (Q : VX → St → Prop) : Prop :=
  match u with
  | .c c => Ev ext tbl c st fun x st => EvK ext tbl x K st Q
  | .x x => EvK ext tbl x K st Q

theorem Ev.loop1 {keep : List Nat} {a : VC} {st : St} {Q : VX → St → Prop} (h : Ev ext tbl a (st.sweep keep) (VX.then (fun st1 => Ev ext tbl (.loop keep a) st1 Q) Q)) : Ev ext tbl (.loop keep a) st Q := by
  obtain ⟨n, x, st1, h1, h2⟩ := h
  cases x with
  | n =>
    obtain ⟨m, y, st2, h3, h4⟩ := h2
    refine ⟨max n m + 1, y, st2, ?_, h4⟩
    simp only [vexec] at h3 ⊢
    have hb : vexec tbl (vrun ext tbl (max n m + 1)) (max n m + 1) a (st.sweep keep) = some (.n, st1) := ex_le (by omega) h1
    simp only [vloop, hb]
    exact vloop_mono (fun st r hr => ex_le (by omega) hr) (by omega) h3
  | e i =>
    refine ⟨n + 1, .e i, st1, ?_, h2⟩
    have hb := ex_le (Nat.le_succ n) h1
    simp only [vexec, vloop, hb]
  | r =>
    refine ⟨n + 1, .r, st1, ?_, h2⟩
    have hb := ex_le (Nat.le_succ n) h1
    simp only [vexec, vloop, hb]

variable (ext) (tbl) in
def runX : Nat → Cu → List Fr → St → X (Cu × List Fr × St)
  | 0, _, _, _ => xfail
  | n + 1, .c c, K, st =>
    match c with
    | .skip => runX n (.x .n) K st
    | .r _ ops => xbind (opsX ext tbl st ops) fun st1 => runX n (.x .n) K st1
    | .d _ ops => xbind (opsX ext tbl st (ops.map (·.2))) fun st1 => runX n (.x .n) K st1
    | .kp keep c => xpure (.c c, K, st.sweep keep)
    | .seq a b => runX n (.c a) (.sq b :: K) st
    | .ite o a b => xbind (xtruth (st.val o)) fun t => runX n (.c (match t with | true => a | false => b)) K st
    | .blk id a => runX n (.c a) (.bk id :: K) st
    | .loop keep a => xpure (.c a, .lp keep a :: K, st.sweep keep)
    | .exit id => runX n (.x (.e id)) K st
    | .ret => runX n (.x .r) K st
  | n + 1, .x x, K, st =>
    match K with
    | [] => xpure (.x x, [], st)
    | .sq b :: K =>
      match x with
      | .n => runX n (.c b) K st
      | x => runX n (.x x) K st
    | .bk id :: K =>
      match x with
      | .e i => if i = id then runX n (.x .n) K st else runX n (.x (.e i)) K st
      | x => runX n (.x x) K st
    | .lp keep a :: K =>
      match x with
      | .n => xpure (.c a, .lp keep a :: K, st.sweep keep)
      | x => runX n (.x x) K st

theorem runX_ok {Q : VX → St → Prop} : ∀ (n : Nat) (u : Cu) (K : List Fr) (st : St), Ok (runX ext tbl n u K st) fun y => EvU ext tbl y.1 y.2.1 y.2.2 Q → EvU ext tbl u K st Q
  | 0, u, K, st => Ok.fail
  | n + 1, .c c, K, st => by
    cases c with
    | skip => exact (runX_ok n (.x .n) K st).mono fun y h hy => Ev.skip (h hy)
    | r id ops =>
      refine Ok.bind (opsX_ok ops st) fun st1 ⟨m, h1⟩ => (runX_ok (Q := Q) n (.x .n) K st1).mono fun y h hy => ?_
      exact Ev.r ⟨m, st1, h1, h hy⟩
    | d id ops =>
      refine Ok.bind (opsX_ok (ops.map (·.2)) st) fun st1 ⟨m, h1⟩ => (runX_ok (Q := Q) n (.x .n) K st1).mono fun y h hy => ?_
      exact ⟨m, .n, st1, by simp [vexec, h1], h hy⟩
    | kp keep c =>
      refine Ok.pure fun hy => ?_
      obtain ⟨m, x, st1, h1, h2⟩ := hy
      exact ⟨m, x, st1, h1, h2⟩
    | seq a b =>
      refine (runX_ok n (.c a) (.sq b :: K) st).mono fun y h hy => Ev.seq ((h hy).mono fun x st1 hx => ?_)
      cases x <;> exact hx
    | ite o a b =>
      refine Ok.bind (truth_ok _) fun t ht => (runX_ok (Q := Q) n _ K st).mono fun y h hy => ?_
      refine Ev.ite ht (fun e => ?_) fun e => ?_
      · subst e; exact h hy
      · subst e; exact h hy
    | blk id a =>
      refine (runX_ok n (.c a) (.bk id :: K) st).mono fun y h hy => Ev.blk ((h hy).mono fun x st1 hx => ?_)
      cases x <;> exact hx
    | loop keep a =>
      refine Ok.pure fun hy => Ev.loop1 (Ev.mono hy fun x st1 hx => ?_)
      cases x <;> exact hx
    | exit id => exact (runX_ok n (.x (.e id)) K st).mono fun y h hy => Ev.exit (h hy)
    | ret => exact (runX_ok n (.x .r) K st).mono fun y h hy => Ev.ret (h hy)
  | n + 1, .x x, K, st => by
    cases K with
    | nil => exact Ok.pure fun hy => hy
    | cons fr K =>
      cases fr with
      | sq b =>
        cases x with
        | n => exact (runX_ok n (.c b) K st).mono fun y h hy => h hy
        | e i => exact (runX_ok n (.x (.e i)) K st).mono fun y h hy => h hy
        | r => exact (runX_ok n (.x .r) K st).mono fun y h hy => h hy
      | bk id =>
        cases x with
        | n => exact (runX_ok n (.x .n) K st).mono fun y h hy => h hy
        | e i =>
          simp only [runX]
          refine Ok.ite (fun hi => (runX_ok (Q := Q) n (.x .n) K st).mono fun y h hy => ?_) fun hi => (runX_ok (Q := Q) n (.x (.e i)) K st).mono fun y h hy => ?_
          · simp only [EvU, EvK]; rw [if_pos hi]; exact h hy
          · simp only [EvU, EvK]; rw [if_neg hi]; exact h hy
        | r => exact (runX_ok n (.x .r) K st).mono fun y h hy => h hy
      | lp keep a =>
        cases x with
        | n =>
          refine Ok.pure fun hy => Ev.loop1 (Ev.mono hy fun x st1 hx => ?_)
          cases x <;> exact hx
        | e i => exact (runX_ok n (.x (.e i)) K st).mono fun y h hy => h hy
        | r => exact (runX_ok n (.x .r) K st).mono fun y h hy => h hy

-- ---------------------------------------------------------------- lengths told anew
def lenCX : C → X C
  | .ref id p off len => xbind (xsize len) fun n => xpure (.ref id p off n)
  | c => xpure c
theorem lenCX_ok (c : C) : Ok (lenCX c) fun x => x = id c := by
  cases c with
  | ref id p off len => exact Ok.bind (size_ok len) fun n hn => Ok.pure (by rw [hn]; rfl)
  | _ => exact Ok.pure rfl
theorem SV.map_id : ∀ s : SV, s.map id = s
  | .v a cs => by simp [SV.map]
  | .tup ss => by simp [SV.map]
  | .any => rfl
theorem mapC_id (st : St) : st.mapC id = st := by
  have h1 : SV.map (id : C → C) = id := funext SV.map_id
  have h2 : (Option.map (List.map (id : C → C))) = id := by funext o; cases o <;> simp
  simp [St.mapC, h1, h2]
def relenX (st : St) : X St := St.mapX st lenCX
theorem relenX_ok (st : St) : Ok (relenX st) fun x => x = st := (stmapX_ok lenCX_ok st).mono fun x hx => by rw [hx, mapC_id]

variable (ext) (tbl) in
def stepX (n : Nat) (u : Cu) (K : List Fr) (st : St) : X (Cu × List Fr × St) :=
  xbind (runX ext tbl n u K st) fun y => xbind (relenX y.2.2) fun st1 => xpure (y.1, y.2.1, st1)
theorem stepX_ok {Q : VX → St → Prop} (n : Nat) (u : Cu) (K : List Fr) (st : St) : Ok (stepX ext tbl n u K st) fun y => EvU ext tbl y.1 y.2.1 y.2.2 Q → EvU ext tbl u K st Q :=
  Ok.bind (runX_ok n u K st) fun y h => Ok.bind (relenX_ok _) fun st1 h1 => Ok.pure fun hy => h (by subst h1; exact hy)

-- ---------------------------------------------------------------- the end of a function
def outRX (st : St) : RM → SV → X (Arg × List Nat × List Nat)
  | .v ots, .v agg cs => xbind (toTsX st ots cs) fun t => xpure (.v agg t.1, t.2, [])
  | .p ots, .v false [.vptr id 0] => xbind (xof (st.var id)) fun cs => xbind (toTsX st ots cs) fun t => xpure (.m (.pt t.1), t.2, [id])
  | _, _ => xfail
def outRsX (st : St) : List RM → List Nat → X (List Arg × List Nat × List Nat)
  | [], [] => xpure ([], [], [])
  | m :: ms, k :: ks => xbind (xof (st.slots[k]?)) fun s => xbind (outRX st m s) fun a => xbind (outRsX st ms ks) fun b => xpure (a.1 :: b.1, a.2.1 ++ b.2.1, a.2.2 ++ b.2.2)
  | _, _ => xfail
def outMX (st : St) : List PM → Nat → X (List T × List Nat × List Nat)
  | [], _ => xpure ([], [], [])
  | .ro _ :: ms, k => outMX st ms (k + 1)
  | .mv _ :: ms, k => outMX st ms (k + 1)
  | .mb ots :: ms, k =>
    xbind (xof (st.slots[k]?)) fun s => xbind (outMX st ms (k + 1)) fun r =>
    match s with
    | .v false [.vptr id 0] => xbind (xof (st.var id)) fun cs => xbind (toTsX st ots cs) fun t => xpure (.pt t.1 :: r.1, t.2 ++ r.2.1, id :: r.2.2)
    | _ => xfail
  | .ms ot :: ms, k =>
    xbind (xof (st.slots[k]?)) fun s => xbind (outMX st ms (k + 1)) fun r =>
    match s with
    | .v false [.ref id [] 0 _] => xbind (xof (st.obj id)) fun o => if OT.beqs ot o.ot then xpure (.sl o.es :: r.1, id :: r.2.1, r.2.2) else xfail
    | _ => xfail
  | .mg ots :: ms, k =>
    xbind (xof (st.slots[k]?)) fun s => xbind (outMX st ms (k + 1)) fun r =>
    match s with
    | .v _ cs => xbind (xof (mgOut st ots cs)) fun e => xpure (e.1 ++ r.1, e.2 ++ r.2.1, r.2.2)
    | _ => xfail
def leaveX (vf : VF) (st : St) : X FRes :=
  xbind (outRsX st vf.rm vf.res) fun a => xbind (outMX st vf.pm 0) fun b => if distinct (a.2.1 ++ b.2.1) && distinct (a.2.2 ++ b.2.2) then xpure ⟨a.1, b.1⟩ else xfail

theorem outRX_ok (st : St) (m : RM) (s : SV) : Ok (outRX st m s) fun x => outR st m s = some x := by
  unfold outRX
  split
  · exact Ok.bind (toTsX_ok _ _ _) fun t ht => Ok.pure (by simp [outR, ht])
  · exact Ok.ofb fun cs hcs => Ok.bind (toTsX_ok _ _ _) fun t ht => Ok.pure (by simp [outR, ht, hcs])
  · exact Ok.fail
theorem outRsX_ok (st : St) : ∀ (ms : List RM) (ks : List Nat), Ok (outRsX st ms ks) fun x => outRs st ms ks = some x
  | [], [] => Ok.pure rfl
  | [], _ :: _ => Ok.fail
  | _ :: _, [] => Ok.fail
  | m :: ms, k :: ks => Ok.ofb fun s hs => Ok.bind (outRX_ok st m s) fun a ha => Ok.bind (outRsX_ok st ms ks) fun b hb => Ok.pure (by simp [outRs, hs, ha, hb])
theorem outMX_ok (st : St) : ∀ (ms : List PM) (k : Nat), Ok (outMX st ms k) fun x => outM st ms k = some x
  | [], k => Ok.pure rfl
  | .ro _ :: ms, k => (outMX_ok st ms (k + 1)).mono fun x hx => by simpa [outM] using hx
  | .mv _ :: ms, k => (outMX_ok st ms (k + 1)).mono fun x hx => by simpa [outM] using hx
  | .mb ots :: ms, k => by
    refine Ok.ofb fun s hs => Ok.bind (outMX_ok st ms (k + 1)) fun r hr => ?_
    split
    · refine Ok.ofb fun cs hcs => Ok.bind (toTsX_ok _ _ _) fun t ht => Ok.pure ?_
      simp [outM, hs, hr, hcs, ht]
    · exact Ok.fail
  | .ms ot :: ms, k => by
    refine Ok.ofb fun s hs => Ok.bind (outMX_ok st ms (k + 1)) fun r hr => ?_
    split
    · refine Ok.ofb fun o ho => Ok.iteF fun hb => Ok.pure ?_
      simp [outM, hs, hr, ho, hb]
    · exact Ok.fail
  | .mg ots :: ms, k => by
    refine Ok.ofb fun s hs => Ok.bind (outMX_ok st ms (k + 1)) fun r hr => ?_
    split
    · refine Ok.ofb fun e he => Ok.pure ?_
      simp [outM, hs, hr, he]
    · exact Ok.fail
theorem leaveX_ok (vf : VF) (st : St) : Ok (leaveX vf st) fun x => leave vf st = some x := by
  unfold leaveX
  refine Ok.bind (outRsX_ok _ _ _) fun a ha => Ok.bind (outMX_ok _ _ _) fun b hb => Ok.iteF fun hd => Ok.pure ?_
  simp only [leave, ha, hb, if_pos hd]

def resX : List Nat → List (Option (Nat × Bool)) → St → X St
  | k :: ks, some (n, agg) :: rc, st => xbind (if agg || decide (n = 1) then loadX st k (.s k) n agg else xfail) fun st1 => resX ks rc st1
  | _ :: ks, none :: rc, st => resX ks rc st
  | [], _, st => xpure st
  | _ :: _, [], st => xpure st
theorem resX_ok : ∀ (ks : List Nat) (rc : List (Option (Nat × Bool))) (st : St), Ok (resX ks rc st) fun x => resLoad ks rc st = some x
  | k :: ks, some (n, agg) :: rc, st => Ok.bind (r := fun st1 => (if agg || decide (n = 1) then vload st k (.s k) n agg else none) = some st1) (Ok.iteF fun h => (loadX_ok st k (.s k) n agg).mono fun y hy => by rw [if_pos h, hy]) fun st1 h1 => (resX_ok ks rc st1).mono fun x hx => by simp only [resLoad, h1, hx]
  | _ :: ks, none :: rc, st => resX_ok ks rc st
  | [], _, st => Ok.pure (by simp [resLoad])
  | _ :: _, [], st => Ok.pure (by simp [resLoad])
def leave2X (vf : VF) (st : St) : X FRes := xbind (resX vf.res vf.rc st) fun st1 => leaveX vf st1
theorem leave2X_ok (vf : VF) (st : St) : Ok (leave2X vf st) fun x => leave2 vf st = some x := Ok.bind (resX_ok _ _ st) fun st1 h1 => (leaveX_ok vf st1).mono fun x hx => by simp [leave2, h1, hx]

/-- how a function ends that answers so -/
def Post (vf : VF) (r : FRes) (x : VX) (st : St) : Prop := (x = .n ∨ x = .r) ∧ leave2 vf st = some r

variable (ext) (tbl) in
def finX (vf : VF) (n : Nat) (u : Cu) (K : List Fr) (st : St) : X FRes :=
  xbind (runX ext tbl n u K st) fun y =>
  match y with
  | (.x .n, [], st1) => leave2X vf st1
  | (.x .r, [], st1) => leave2X vf st1
  | _ => xfail
theorem finX_ok (vf : VF) (n : Nat) (u : Cu) (K : List Fr) (st : St) : Ok (finX ext tbl vf n u K st) fun r => EvU ext tbl u K st (Post vf r) := by
  intro os r os' ps h hp
  have key : Ok (finX ext tbl vf n u K st) fun r => ∀ r', r = r' → EvU ext tbl u K st (Post vf r') := by
    intro os r os' ps h hp r' e
    subst e
    have : Ok (finX ext tbl vf n u K st) fun r1 => r1 = r → EvU ext tbl u K st (Post vf r) := by
      refine Ok.bind (runX_ok (Q := Post vf r) n u K st) fun y hy => ?_
      split
      · exact (leave2X_ok vf _).mono fun x hx e => hy ⟨.inl rfl, by rw [← e]; exact hx⟩
      · exact (leave2X_ok vf _).mono fun x hx e => hy ⟨.inr rfl, by rw [← e]; exact hx⟩
      · exact Ok.fail
    exact this _ _ _ _ h hp rfl
  exact key _ _ _ _ h hp r rfl

-- ---------------------------------------------------------------- the steps of a proof
/-- what comes of a run, and what it asks -/
def outX {α : Type} (x : X α) (os : List Orc) : Option (α × Prop) :=
  match x os with
  | some (a, [], ps) => some (a, All ps)
  | _ => none

theorem outX_ok {α : Type} {x : X α} {os : List Orc} {a : α} {p : Prop} {r : α → Prop} (h : Ok x r) (hx : outX x os = some (a, p)) (hp : p) : r a := by
  unfold outX at hx
  split at hx
  · rename_i b ps h1
    simp only [Option.some.injEq, Prod.mk.injEq] at hx
    obtain ⟨rfl, rfl⟩ := hx
    exact h _ _ _ _ h1 hp
  · simp at hx

/-- on to the next label -/
theorem go_on {u u' : Cu} {K K' : List Fr} {st st' : St} {Q : VX → St → Prop} (os : List Orc) (n : Nat) {p : Prop} (hp : p) (hn : EvU ext tbl u' K' st' Q) (h : outX (stepX ext tbl n u K st) os = some ((u', K', st'), p)) : EvU ext tbl u K st Q :=
  outX_ok (stepX_ok n u K st) h hp hn

/-- to the function's end -/
theorem go_end {u : Cu} {K : List Fr} {st : St} {vf : VF} {r r' : FRes} (os : List Orc) (n : Nat) {p : Prop} (hp : p) (hr : r' = r) (h : outX (finX ext tbl vf n u K st) os = some (r', p)) : EvU ext tbl u K st (Post vf r) := by
  subst hr
  exact outX_ok (r := fun r => EvU ext tbl u K st (Post vf r)) (finX_ok vf n u K st) h hp

/-- a function by its first label -/
theorem runs_of {f : FuncId} {vf : VF} {ars : List Arg} {r : FRes} {st : St} (hvf : tbl f = some vf) (hg : vf.given = false) (he : enter vf ars = some st) (h : EvU ext tbl (.c vf.code) [] st (Post vf r)) : Runs ext tbl f ars r :=
  Runs.intro hvf hg he h

-- ---------------------------------------------------------------- loops as functions
section
variable {σ ε : Type}
def iterM (b : σ → Option (σ ⊕ ε)) : Nat → σ → Option ε
  | 0, _ => none
  | n + 1, s =>
    match b s with
    | none => none
    | some (.inl s') => iterM b n s'
    | some (.inr e) => some e
theorem iterM_mono {b : σ → Option (σ ⊕ ε)} : ∀ {n m : Nat} {s : σ} {e : ε}, n ≤ m → iterM b n s = some e → iterM b m s = some e
  | 0, m, s, e, _, h => by simp [iterM] at h
  | n + 1, 0, s, e, hm, _ => by omega
  | n + 1, m + 1, s, e, hm, h => by
    simp only [iterM] at h ⊢
    split at h
    · simp at h
    · exact iterM_mono (Nat.le_of_succ_le_succ hm) h
    · exact h

open Classical in
/-- a loop: rounds till one ends it -/
noncomputable def loopM (b : σ → Option (σ ⊕ ε)) (s : σ) : Option ε := if h : ∃ e n, iterM b n s = some e then some h.choose else none

theorem loopM_some {b : σ → Option (σ ⊕ ε)} {s : σ} {e : ε} : loopM b s = some e ↔ ∃ n, iterM b n s = some e := by
  unfold loopM
  constructor
  · intro h
    split at h
    · rename_i hx
      simp at h
      subst h
      exact hx.choose_spec
    · simp at h
  · rintro ⟨n, h⟩
    have hx : ∃ e n, iterM b n s = some e := ⟨e, n, h⟩
    rw [dif_pos hx]
    obtain ⟨m, h2⟩ := hx.choose_spec
    have h3 := iterM_mono (Nat.le_max_left n m) h
    have h4 := iterM_mono (Nat.le_max_right n m) h2
    rw [h3] at h4
    exact h4.symm

theorem loopM_eq (b : σ → Option (σ ⊕ ε)) (s : σ) : loopM b s = match b s with
    | none => none
    | some (.inl s') => loopM b s'
    | some (.inr e) => some e := by
  have key : ∀ e, loopM b s = some e ↔ (match b s with
    | none => none
    | some (.inl s') => loopM b s'
    | some (.inr e) => some e) = some e := by
    intro e
    rw [loopM_some]
    constructor
    · rintro ⟨n, h⟩
      cases n with
      | zero => simp [iterM] at h
      | succ n =>
        simp only [iterM] at h
        split at h
        · simp at h
        · rename_i s' hb
          exact loopM_some.2 ⟨n, h⟩
        · rename_i e' hb
          exact h
    · intro h
      split at h
      · simp at h
      · rename_i s' hb
        obtain ⟨n, h⟩ := loopM_some.1 h
        exact ⟨n + 1, by simp only [iterM, hb]; exact h⟩
      · rename_i e' hb
        exact ⟨1, by simp only [iterM, hb]; exact h⟩
  cases h1 : loopM b s with
  | some e => rw [(key e).1 h1]
  | none =>
    cases h2 : (match b s with
    | none => none
    | some (.inl s') => loopM b s'
    | some (.inr e) => some e) with
    | none => rfl
    | some e => rw [(key e).2 h2] at h1; simp at h1

theorem loop_rule {b : σ → Option (σ ⊕ ε)} {stJ : σ → St} {u : Cu} {K : List Fr} {Q : VX → St → Prop} {We : ε → Prop}
    (H : ∀ s y, b s = some y → (∀ s', y = .inl s' → EvU ext tbl u K (stJ s') Q) → (∀ e, y = .inr e → We e) → EvU ext tbl u K (stJ s) Q) {s : σ} {e : ε} (h : loopM b s = some e) (he : We e) : EvU ext tbl u K (stJ s) Q := by
  replace h := loopM_some.1 h
  obtain ⟨n, h⟩ := h
  induction n generalizing s with
  | zero => simp [iterM] at h
  | succ n ih =>
    simp only [iterM] at h
    split at h
    · simp at h
    · rename_i s' hb
      exact H s _ hb (fun s'' e => by simp at e; subst e; exact ih h) (fun e h => by simp at h)
    · rename_i e' hb
      simp at h
      subst h
      exact H s _ hb (fun s'' e => by simp at e) (fun e h => by simp at h; subst h; exact he)

/-- the rule for the plain law: rounds that go down -/
theorem loopM_total {b : σ → Option (σ ⊕ ε)} {I : σ → Prop} {R : σ → ε → Prop} (m : σ → Nat) (H : ∀ s, I s → ∃ y, b s = some y ∧ (∀ s', y = .inl s' → I s' ∧ m s' < m s ∧ ∀ e, R s' e → R s e) ∧ (∀ e, y = .inr e → R s e)) (s : σ) (h : I s) : ∃ e, loopM b s = some e ∧ R s e := by
  have key : ∀ n s, m s < n → I s → ∃ e, loopM b s = some e ∧ R s e := by
    intro n
    induction n with
    | zero => intro s h; omega
    | succ n ih =>
      intro s hm hi
      obtain ⟨y, h1, h2, h3⟩ := H s hi
      rw [loopM_eq, h1]
      cases y with
      | inl s' =>
        obtain ⟨h4, h5, h6⟩ := h2 s' rfl
        obtain ⟨e, h7, h8⟩ := ih s' (by omega) h4
        exact ⟨e, h7, h6 e h8⟩
      | inr e => exact ⟨e, rfl, h3 e rfl⟩
  exact key (m s + 1) s (by omega) h
end
end
end Go.Proofs.V

/- Words of the plain functions, and what they answer for. -/
set_option linter.unusedSimpArgs false
set_option linter.unusedVariables false
namespace Go.Proofs.V
open Go

section
variable {α β : Type}
def w64 (x : Int) : Int := IntKind.wrap .i64 x
def wr (k : IntKind) (x : Int) : Int := IntKind.wrap k x
def shlI (k : IntKind) (a b : Int) : Int := k.wrap (a * 2 ^ min b.toNat k.bits)
def shrI (k : IntKind) (a b : Int) : Int := a.fdiv (2 ^ min b.toNat k.bits)
def andI (k : IntKind) (x y : Int) : Int := k.wrap (BitVec.ofInt k.bits x &&& BitVec.ofInt k.bits y).toNat
def orI (k : IntKind) (x y : Int) : Int := k.wrap (BitVec.ofInt k.bits x ||| BitVec.ofInt k.bits y).toNat
def xorI (k : IntKind) (x y : Int) : Int := k.wrap (BitVec.ofInt k.bits x ^^^ BitVec.ofInt k.bits y).toNat
def andNotI (k : IntKind) (x y : Int) : Int := k.wrap (BitVec.ofInt k.bits x &&& ~~~ BitVec.ofInt k.bits y).toNat
def notI (k : IntKind) (n : Int) : Int := k.wrap (BitVec.ofInt k.bits (if k.signed then -1 else k.max) ^^^ BitVec.ofInt k.bits n).toNat
def mxI (x y : Int) : Int := if y > x then y else x
def mnI (x y : Int) : Int := if y < x then y else x

def rd (l : List α) (k : Int) : Option α := if 0 ≤ k then l[k.toNat]? else none
def rds (l : List α) (off len : Nat) (k : Int) : Option α := if 0 ≤ k ∧ k < len then l[off + k.toNat]? else none
def ck (b : Bool) : Option Unit := if b then some () else none
def sat (s : ByteArray) (k : Int) : Option Int := if 0 ≤ k then (s[k.toNat]?).map (fun c => (c.toNat : Int)) else none

def rI (k : IntKind) (n : Int) : List T := [.lit (.int k n)]
def rB (b : Bool) : List T := [.lit (.bool b)]
def rS (s : ByteArray) : List T := [.lit (.string s)]
def rL (f : α → List T) (l : List α) : List T := [.sl (l.map f)]

/-- slots by their numbers -/
def mkSl (n : Nat) (l : List (Nat × SV)) : List SV := (List.range n).map fun k => (l.lookup k).getD .any

theorem split_ite {c : Bool} {A B : Option α} {r : α} (h : (if c then A else B) = some r) : (c = true ∧ A = some r) ∨ (c = false ∧ B = some r) := by
  cases c with
  | true => exact .inl ⟨rfl, h⟩
  | false => exact .inr ⟨rfl, h⟩
theorem bind_some {x : Option α} {f : α → Option β} {r : β} (h : x.bind f = some r) : ∃ a, x = some a ∧ f a = some r := Option.bind_eq_some_iff.1 h

theorem ck_p {p : Prop} [Decidable p] {u : Unit} (h : ck (decide p) = some u) : p := by
  unfold ck at h
  split at h
  · rename_i h1; exact of_decide_eq_true h1
  · simp at h

section
variable {l : List α} {k : Int} {x : α}
theorem rd_nn (h : rd l k = some x) : 0 ≤ k := by
  unfold rd at h
  split at h
  · assumption
  · simp at h
theorem rd_get (h : rd l k = some x) : l[k.toNat]? = some x := by
  unfold rd at h
  split at h
  · exact h
  · simp at h
theorem rd_get0 (h : rd l k = some x) : l[0 + k.toNat]? = some x := by rw [Nat.zero_add]; exact rd_get h
theorem rd_lt (h : rd l k = some x) : k < l.length := by
  have h1 := rd_get h
  have h2 := rd_nn h
  have := (List.getElem?_eq_some_iff.1 h1).1
  omega
theorem rd_in {n : Nat} (hn : n = l.length) (h : rd l k = some x) : 0 ≤ k ∧ k < (n : Int) := ⟨rd_nn h, by rw [hn]; exact rd_lt h⟩
theorem rds_in {off n : Nat} (h : rds l off n k = some x) : 0 ≤ k ∧ k < (n : Int) := by
  unfold rds at h
  split at h
  · assumption
  · simp at h
theorem rds_get {off n : Nat} (h : rds l off n k = some x) : l[off + k.toNat]? = some x := by
  unfold rds at h
  split at h
  · exact h
  · simp at h
end

theorem at_row (f : α → List T) {l : List α} {i : Nat} {x : α} (h : l[i]? = some x) : (l.map f)[i]? = some (f x) := by rw [List.getElem?_map, h]; rfl
theorem set_at {l : List α} {i : Nat} {x : α} (v : α) (h : l[i]? = some x) : (l.set i v)[i]? = some v := by
  have := (List.getElem?_eq_some_iff.1 h).1
  simp [List.getElem?_set, this]
theorem set_len {l : List α} {n i : Nat} {v : α} (h : n = l.length) : n = (l.set i v).length := by rw [List.length_set]; exact h

theorem put_ob (f : α → List T) {l : List α} {i : Nat} {x : α} (v : α) (j : Nat) (c : T) (h : l[i]? = some x) (h2 : decide (j < (f x).length) = true) (h3 : (f x).set j c = f v) :
    ∃ row, (l.map f)[i]? = some row ∧ j < row.length ∧ (l.map f).set i (row.set j c) = (l.set i v).map f :=
  ⟨f x, at_row f h, of_decide_eq_true h2, by rw [h3, List.map_set]⟩
theorem upd_ob (f : α → List T) (l : List α) (i : Nat) (x v : α) (j : Nat) (c : T) (h3 : (f x).set j c = f v) : (l.map f).set i ((f x).set j c) = (l.set i v).map f := by rw [h3, List.map_set]

theorem len_map (f : α → β) {l : List α} {n : Nat} (h : n = l.length) : (l.map f).length = n := by rw [List.length_map, h]
theorem lens (m n : Nat) (h : m = n) : m = n := h
theorem take_len {l : List α} {n : Nat} (h : n ≤ l.length) : n = (l.take n).length := by simp; omega
theorem take_le (f : α → List T) (l : List α) {n : Nat} (h : n ≤ l.length) : n ≤ (l.map f).length := by simpa using h
theorem take_t (f : α → List T) (l : List α) (n : Nat) : (l.map f).take n = (l.take n).map f := by rw [List.map_take]
theorem dt_len {l : List α} {off n : Nat} (h : off + n ≤ l.length) : n = ((l.drop off).take n).length := by simp; omega

-- appending: the source is of its own (t), or only read (r)
section
variable {lim n1 n2 : Nat} (f : α → List T) (l1 l2 : List α)
theorem app_ck {u : Unit} (h1 : n1 = l1.length) (h2 : n2 = l2.length) (h : ck (decide (l1.length + l2.length ≤ lim)) = some u) : n1 ≤ (l1.map f).length ∧ n1 + (((l2.map f).drop 0).take n2).length ≤ lim := by
  have := ck_p h
  subst h1; subst h2
  simp
  omega
theorem app_ck_ro {u : Unit} (h1 : n1 = l1.length) (h : ck (decide (l1.length + l2.length ≤ lim)) = some u) : n1 ≤ (l1.map f).length ∧ n1 + (l2.map f).length ≤ lim := by
  have := ck_p h
  subst h1
  simp
  omega
theorem app_ck_mv {u : Unit} (h1 : n1 = l1.length) (h : ck (decide (l1.length + l2.length ≤ lim)) = some u) : n1 ≤ (l1.map f).length ∧ n1 + (l2.map f).length ≤ lim := app_ck_ro f l1 l2 h1 h
theorem app_tell (h1 : n1 = l1.length) (h2 : n2 = l2.length) : (l1.map f).take n1 ++ ((l2.map f).drop 0).take n2 = (l1 ++ l2).map f := by
  subst h1; subst h2
  rw [List.take_of_length_le (by simp), List.drop_zero, List.take_of_length_le (by simp), List.map_append]
theorem app_tell_ro (h1 : n1 = l1.length) : (l1.map f).take n1 ++ l2.map f = (l1 ++ l2).map f := by
  subst h1
  rw [List.take_of_length_le (by simp), List.map_append]
theorem app_ckP {u : Unit} (h0 : n1 ≤ l1.length) (h2 : n2 = l2.length) (h : ck (decide ((l1.take n1).length + l2.length ≤ lim)) = some u) : n1 ≤ (l1.map f).length ∧ n1 + (((l2.map f).drop 0).take n2).length ≤ lim := by
  have := ck_p h
  subst h2
  simp at this ⊢
  omega
theorem app_tellP (n1 : Nat) (h2 : n2 = l2.length) : (l1.map f).take n1 ++ ((l2.map f).drop 0).take n2 = (l1.take n1 ++ l2).map f := by
  subst h2
  rw [List.drop_zero, List.take_of_length_le (l := l2.map f) (by simp), List.map_append, List.map_take]
theorem app_ck_part (off n2 : Nat) {u : Unit} (h1 : n1 = l1.length) (h : ck (decide (l1.length + ((l2.drop off).take n2).length ≤ lim)) = some u) : n1 ≤ (l1.map f).length ∧ n1 + (((l2.map f).drop off).take n2).length ≤ lim := by
  have := ck_p h
  subst h1
  simp at this ⊢
  omega
theorem app_tell_part (off n2 : Nat) (h1 : n1 = l1.length) : (l1.map f).take n1 ++ ((l2.map f).drop off).take n2 = (l1 ++ (l2.drop off).take n2).map f := by
  subst h1
  rw [List.take_of_length_le (by simp), List.map_append, List.map_take, List.map_drop]
theorem nil_ck {u : Unit} (h2 : n2 = l2.length) (h : ck (decide (l2.length ≤ lim)) = some u) : (((l2.map f).drop 0).take n2).length ≤ lim := by
  have := ck_p h
  subst h2
  simpa using this
theorem nil_ck_ro {u : Unit} (h : ck (decide (l2.length ≤ lim)) = some u) : (l2.map f).length ≤ lim := by
  have := ck_p h
  simpa using this
theorem all_le {n : Nat} (h : n = l1.length) : 0 + n ≤ (l1.map f).length := by subst h; simp
theorem all_le0 {n : Nat} (h : n = l1.length) : n ≤ (l1.map f).length := by subst h; simp
theorem all_eq {n : Nat} (h : n = l1.length) : n = (l1.map f).length := by subst h; simp
theorem all_dt {n : Nat} (h : n = l1.length) : ((l1.map f).drop 0).take n = l1.map f := by subst h; rw [List.drop_zero, List.take_of_length_le (by simp)]
theorem all_t {n : Nat} (h : n = l1.length) : (l1.map f).take n = l1.map f := by subst h; rw [List.take_of_length_le (by simp)]
theorem len2 (h : l1.length = l2.length) : (l1.map f).length = (l2.map f).length := by simpa using h
end

-- a part of a slice of its own
theorem part_le (f : α → List T) (l : List α) {off n : Nat} (h : off + n ≤ l.length) : off + n ≤ (l.map f).length := by simpa using h
theorem part_dt (f : α → List T) (l : List α) (off n : Nat) : ((l.map f).drop off).take n = ((l.drop off).take n).map f := by rw [List.map_take, List.map_drop]
theorem slc_tell (f : α → List T) (l : List α) (lo hi : Nat) : ((l.map f).take hi).drop lo = ((l.take hi).drop lo).map f := by rw [List.map_drop, List.map_take]
theorem slc_tell2 (f : α → List T) (l : List α) (lo : Nat) : ((l.map f).take (l.map f).length).drop lo = (l.drop lo).map f := by rw [List.take_length, List.map_drop]
theorem slc_hi (f : α → List T) (l : List α) {k : Int} (h : 0 ≤ k ∧ k ≤ (l.length : Int)) : 0 ≤ k ∧ k ≤ ((l.map f).length : Int) := by simpa using h
theorem slc_ne (f : α → List T) (l : List α) (h : l.length ≠ 0) : (l.map f).length ≠ 0 := by simpa using h
theorem slc_len (l : List α) {lo hi : Nat} (h : hi ≤ l.length) : hi - lo = ((l.take hi).drop lo).length := by simp; omega

theorem rep_ob (f : α → List T) (n : Nat) (z : α) (row : List T) (h : row = f z) : List.replicate n row = (List.replicate n z).map f := by rw [h, List.map_replicate]
theorem rep_len (n : Nat) (z : α) : n = (List.replicate n z).length := by simp

theorem sat_nn {s : ByteArray} {k b : Int} (h : sat s k = some b) : 0 ≤ k := by
  unfold sat at h
  split at h
  · assumption
  · simp at h
theorem sat_at {s : ByteArray} {k b : Int} (h : sat s k = some b) : (s[k.toNat]?).map (fun c => (c.toNat : Int)) = some b := by
  unfold sat at h
  split at h
  · exact h
  · simp at h
theorem not_t {e : Bool} (h : e = false) : (!e) = true := by rw [h]; rfl
theorem not_f {e : Bool} (h : e = true) : (!e) = false := by rw [h]; rfl
end
end Go.Proofs.V

/- A law's arguments as values of plain types. -/
set_option linter.unusedSimpArgs false
set_option linter.unusedVariables false
namespace Go.Proofs.V
open Go

/-- trees of types are the rows of a value -/
def Dec {α : Type} (p : List Ty) (enc : α → List T) (wf : α → Prop) : Prop := ∀ ts, Wts p ts → ∃ x, ts = enc x ∧ wf x

theorem wts_one {q : Ty} {ts : List T} (h : Wts [q] ts) : ∃ x, ts = [x] ∧ Wt q x := by
  obtain ⟨h1, h2⟩ := h
  match ts, h1 with
  | [x], _ => exact ⟨x, rfl, h2 0 q x rfl rfl⟩

def inK (k : IntKind) (n : Int) : Prop := k.min ≤ n ∧ n ≤ k.max
theorem dec_int (k : IntKind) : Dec [.int k] (rI k) (inK k) := by
  intro ts h
  obtain ⟨x, rfl, hx⟩ := wts_one h
  cases hx with
  | @int _ n hn =>
    refine ⟨n, rfl, ?_⟩
    simp only [Lit.wf, Bool.and_eq_true, decide_eq_true_eq] at hn
    exact hn
theorem dec_bool : Dec [.bool] rB (fun _ => True) := by
  intro ts h
  obtain ⟨x, rfl, hx⟩ := wts_one h
  cases hx with
  | @bool b => exact ⟨b, rfl, trivial⟩
theorem dec_str : Dec [.str] rS (fun s => s.size ≤ maxLen) := by
  intro ts h
  obtain ⟨x, rfl, hx⟩ := wts_one h
  cases hx with
  | @str s hs => exact ⟨s, rfl, hs⟩
theorem dec_sl {α : Type} {p : List Ty} {enc : α → List T} {wf : α → Prop} (h : Dec p enc wf) : Dec [.sl p] (rL enc) (fun l => l.length ≤ maxLen ∧ ∀ x ∈ l, wf x) := by
  intro ts ht
  obtain ⟨x, rfl, hx⟩ := wts_one ht
  cases hx with
  | @sl _ es hl hr hs =>
    have key : ∀ es : List (List T), (∀ row ∈ es, Wts p row) → ∃ l : List α, es = l.map enc ∧ ∀ x ∈ l, wf x := by
      intro es
      induction es with
      | nil => intro _; exact ⟨[], rfl, by simp⟩
      | cons row es ih =>
        intro hrow
        obtain ⟨x, hx, hw⟩ := h row (hrow row (by simp))
        obtain ⟨l, hl, hwl⟩ := ih fun r hr => hrow r (by simp [hr])
        exact ⟨x :: l, by rw [hx, hl]; rfl, by simpa using ⟨hw, hwl⟩⟩
    obtain ⟨l, rfl, hw⟩ := key es (by
      intro row hrow
      obtain ⟨i, hi, rfl⟩ := List.getElem_of_mem hrow
      have he : es[i]? = some es[i] := List.getElem?_eq_getElem hi
      exact ⟨hr i _ he, fun j q x hq hx => hs i j _ x q he hx hq⟩)
    exact ⟨l, rfl, by simpa using hl, hw⟩
theorem dec_app {α β : Type} {p q : List Ty} {e : α → List T} {f : β → List T} {w : α → Prop} {v : β → Prop} (h1 : Dec p e w) (h2 : Dec q f v) : Dec (p ++ q) (fun x : α × β => e x.1 ++ f x.2) (fun x => w x.1 ∧ v x.2) := by
  intro ts ⟨hl, ht⟩
  have e1 : ts = ts.take p.length ++ ts.drop p.length := (List.take_append_drop _ _).symm
  have hlen : p.length ≤ ts.length := by rw [hl]; simp
  obtain ⟨x, hx, hw⟩ := h1 (ts.take p.length) ⟨by simp; omega, fun j r y hr hy => by
    have hj : j < p.length := (List.getElem?_eq_some_iff.1 hr).1
    rw [List.getElem?_take, if_pos hj] at hy
    exact ht j r y (by rw [List.getElem?_append_left hj]; exact hr) hy⟩
  obtain ⟨y, hy, hv⟩ := h2 (ts.drop p.length) ⟨by simp [hl], fun j r z hr hz => by
    rw [List.getElem?_drop] at hz
    exact ht (p.length + j) r z (by rw [List.getElem?_append_right (by omega)]; simpa using hr) hz⟩
  exact ⟨(x, y), by rw [e1, hx, hy], hw, hv⟩
theorem dec_nil : Dec [] (fun _ : Unit => []) (fun _ => True) := by
  intro ts h
  exact ⟨(), List.eq_nil_of_length_eq_zero h.1, trivial⟩

theorem lookup_mem {α : Type} {f : FuncId} {v : α} : ∀ {l : List (FuncId × α)}, l.lookup f = some v → (f, v) ∈ l
  | [], h => by simp at h
  | (g, u) :: l, h => by
    simp only [List.lookup] at h
    split at h
    · rename_i e
      simp at e h
      subst e; subst h
      simp
    · exact List.mem_cons_of_mem _ (lookup_mem h)

/-- the table's functions do as the runs say -/
theorem table_sound {P : Program} {l : List (FuncId × VF)} {tbl : FuncId → Option VF} (ht : ∀ f, tbl f = l.lookup f) (hg : ∀ x ∈ l, x.2.given = false) (hf : ∀ x ∈ l, funcIs P tbl x.1 x.2 = true) (ext : FuncId → List Arg → Option FRes) : ∀ n, FSound P tbl (vrun ext tbl n) :=
  vrun_sound (fun f vf ars res st0 h h2 => by
    rw [ht] at h
    have := hg _ (lookup_mem h)
    simp only at this
    rw [this] at h2
    simp at h2) (fun f vf h _ => by rw [ht] at h; exact hf _ (lookup_mem h))
end Go.Proofs.V

/- The plain side: words that keep their numbers, loops that count. -/
set_option linter.unusedSimpArgs false
set_option linter.unusedVariables false
namespace Go.Proofs.V
open Go

theorem w64_id {x : Int} (h1 : -9223372036854775808 ≤ x) (h2 : x ≤ 9223372036854775807) : w64 x = x := IntWalk.i64_in x ⟨h1, h2⟩
theorem wu8_id {x : Int} (h1 : 0 ≤ x) (h2 : x ≤ 255) : wr .u8 x = x := IntWalk.u8_in x ⟨h1, h2⟩
theorem wu64_id {x : Int} (h1 : 0 ≤ x) (h2 : x ≤ 18446744073709551615) : wr .u64 x = x := IntWalk.u64_in x ⟨h1, h2⟩
theorem wu32_id {x : Int} (h1 : 0 ≤ x) (h2 : x ≤ 4294967295) : wr .u32 x = x := IntWalk.u32_in x ⟨h1, h2⟩
theorem wu64_eq (x : Int) : wr .u64 x = x % 18446744073709551616 := by
  unfold wr IntKind.wrap
  simp [IntKind.bits, IntKind.signed]
theorem wu8_eq (x : Int) : wr .u8 x = x % 256 := by
  unfold wr IntKind.wrap
  simp [IntKind.bits, IntKind.signed]
theorem w64_succ {i : Nat} (h : i < 4611686018427387904) : w64 ((i : Int) + 1) = ((i + 1 : Nat) : Int) := by rw [w64_id (by omega) (by omega)]; omega

section
variable {α σ τ ε : Type}
theorem loopM_fun {b : τ → Option (τ ⊕ ε)} (mk : Nat → σ → τ) (n : Nat) (f : Nat → σ) {e : ε} (step : ∀ i, i < n → b (mk i (f i)) = some (.inl (mk (i + 1) (f (i + 1))))) (done : b (mk n (f n)) = some (.inr e)) : loopM b (mk 0 (f 0)) = some e := by
  have key : ∀ d i, i + d = n → loopM b (mk i (f i)) = some e := by
    intro d
    induction d with
    | zero =>
      intro i hi
      have : i = n := by omega
      subst this
      rw [loopM_eq, done]
    | succ d ih =>
      intro i hi
      rw [loopM_eq, step i (by omega)]
      exact ih (i + 1) (by omega)
  exact key n 0 (by omega)

theorem loopM_inv {b : τ → Option (τ ⊕ ε)} (mk : Nat → σ → τ) (n : Nat) (I : Nat → σ → Prop) (R : ε → Prop)
    (step : ∀ i s, i < n → I i s → (∃ s', b (mk i s) = some (.inl (mk (i + 1) s')) ∧ I (i + 1) s') ∨ ∃ e, b (mk i s) = some (.inr e) ∧ R e)
    (done : ∀ s, I n s → ∃ e, b (mk n s) = some (.inr e) ∧ R e) {s : σ} (h : I 0 s) : ∃ e, loopM b (mk 0 s) = some e ∧ R e := by
  have key : ∀ d i s, i + d = n → I i s → ∃ e, loopM b (mk i s) = some e ∧ R e := by
    intro d
    induction d with
    | zero =>
      intro i s hi hs
      have : i = n := by omega
      subst this
      obtain ⟨e, h1, h2⟩ := done s hs
      exact ⟨e, by rw [loopM_eq, h1], h2⟩
    | succ d ih =>
      intro i s hi hs
      rcases step i s (by omega) hs with ⟨s', h1, h2⟩ | ⟨e, h1, h2⟩
      · rw [loopM_eq, h1]
        exact ih (i + 1) s' (by omega) h2
      · exact ⟨e, by rw [loopM_eq, h1], h2⟩
  exact key n 0 s (by omega) h

theorem rd_eq {l : List α} {i : Nat} (h : i < l.length) : rd l (i : Int) = some l[i] := by
  unfold rd
  rw [if_pos (by omega)]
  simp [h]
theorem rd_eq' {l : List α} {k : Int} {i : Nat} (hk : k = i) (h : i < l.length) : rd l k = some l[i] := by subst hk; exact rd_eq h
theorem ck_eq {p : Prop} [Decidable p] (h : p) : ck (decide p) = some () := by unfold ck; rw [if_pos (by simpa using h)]

theorem fill_set (l : List α) (z : α) (i : Nat) (h : i < l.length) : (l.take i ++ List.replicate (l.length - i) z).set i l[i] = l.take (i + 1) ++ List.replicate (l.length - (i + 1)) z := by
  apply List.ext_getElem?
  intro j
  simp only [List.getElem?_set, List.getElem?_append, List.length_take, List.getElem?_take, List.getElem?_replicate, List.length_append, List.length_replicate]
  by_cases hj : i = j
  · subst hj
    have h1 : min i l.length = i := by omega
    have h2 : min (i + 1) l.length = i + 1 := by omega
    simp [h1, h2]
    rw [if_pos (by omega), List.getElem?_eq_getElem h]
  · rw [if_neg hj]
    have h1 : min i l.length = i := by omega
    have h2 : min (i + 1) l.length = i + 1 := by omega
    rw [h1, h2]
    by_cases h3 : j < i
    · rw [if_pos h3, if_pos (show j < i + 1 by omega), if_pos h3, if_pos (show j < i + 1 by omega)]
    · rw [if_neg h3, if_neg (show ¬ j < i + 1 by omega)]
      by_cases h4 : j < l.length
      · rw [if_pos (by omega), if_pos (by omega)]
      · rw [if_neg (by omega), if_neg (by omega)]
theorem fill_set0 (l : List α) (z : α) (i : Nat) (h : i < l.length) : (l.take i ++ List.replicate (l.length - i) z).set (0 + Int.toNat (i : Int)) l[i] = l.take (i + 1) ++ List.replicate (l.length - (i + 1)) z := by
  rw [Nat.zero_add]
  exact fill_set l z i h
theorem mark_set (g : Nat → α) (l : List α) (i : Nat) (h : i < l.length) : ((List.range i).map g ++ l.drop i).set (0 + Int.toNat (i : Int)) (g i) = (List.range (i + 1)).map g ++ l.drop (i + 1) := by
  apply List.ext_getElem?
  intro j
  simp only [Nat.zero_add, Int.toNat_natCast, List.getElem?_set, List.getElem?_append, List.length_map, List.length_range, List.getElem?_map, List.length_append, List.length_drop, List.getElem?_drop]
  by_cases hj : i = j
  · subst hj
    rw [if_pos rfl, if_pos (by omega), if_pos (by omega)]
    simp
  · rw [if_neg hj]
    by_cases h3 : j < i
    · rw [if_pos h3, if_pos (by omega)]
      simp [h3, show j < i + 1 by omega]
    · rw [if_neg h3, if_neg (by omega)]
      congr 1
      omega
end
end Go.Proofs.V

/- The plain side: loops over lists, as the laws' helpers run them. -/
set_option linter.unusedSimpArgs false
set_option linter.unusedVariables false
namespace Go.Proofs.V
open Go
theorem if_t {α : Sort _} {c : Prop} [Decidable c] {a b : α} (h : c) : (if c then a else b) = a := if_pos h
theorem if_f {α : Sort _} {c : Prop} [Decidable c] {a b : α} (h : ¬ c) : (if c then a else b) = b := if_neg h
theorem rd_d {α : Type} {l : List α} {i : Nat} (z : α) (h : i < l.length) : rd l (i : Int) = some (l.getD i z) := by
  rw [rd_eq h, List.getD_eq_getElem?_getD, List.getElem?_eq_getElem h]; rfl
section
variable {α : Type}
theorem to_list {l : List α} {b : Int × List α → Option ((Int × List α) ⊕ List α)} (step : ∀ (i : Nat) (out : List α) (h : i < l.length), out.length = l.length → b ((i : Int), out) = some (.inl (((i + 1 : Nat) : Int), out.set (0 + Int.toNat (i : Int)) l[i])))
    (done : ∀ out, b ((l.length : Int), out) = some (.inr out)) (z : α) : loopM b (0, List.replicate (Int.toNat (l.length : Int)) z) = some l := by
  have := loopM_fun (b := b) (fun i (s : List α) => ((i : Int), s)) l.length (fun i => l.take i ++ List.replicate (l.length - i) z) (e := l) (fun i hi => by
    rw [step i _ hi (by simp; omega), fill_set0 l z i hi]) (by
    rw [done]; simp)
  simpa using this
theorem eq_list {n : Nat} {b : Int → Option (Int ⊕ (Bool ⊕ Unit))} (step : ∀ i : Nat, i < n → b (i : Int) = some (.inl ((i + 1 : Nat) : Int))) (done : b (n : Int) = some (.inr (.inr ()))) : loopM b 0 = some (.inr ()) :=
  loopM_fun (b := b) (fun i (s : Unit) => (i : Int)) n (fun _ => ()) step done
theorem sz_list {l : List α} {Sm : α → Prop} {b : Int × Int → Option ((Int × Int) ⊕ (Int ⊕ Int))} (step : ∀ (left : Int) (i : Nat) (h : i < l.length), 0 ≤ left → left ≤ 1048576 → b (left, (i : Int)) = some (.inr (.inl (-1))) ∨ ∃ left', b (left, (i : Int)) = some (.inl (left', ((i + 1 : Nat) : Int))) ∧ 0 ≤ left' ∧ left' ≤ left ∧ Sm l[i])
    (done : ∀ left, b (left, (l.length : Int)) = some (.inr (.inr left))) (left : Int) (h0 : 0 ≤ left) (h1 : left ≤ 1048576) :
    ∃ e, loopM b (left, 0) = some e ∧ (e = .inl (-1) ∨ ∃ s, e = .inr s ∧ 0 ≤ s ∧ s ≤ left ∧ ∀ x ∈ l, Sm x) := by
  have key := loopM_inv (b := b) (fun i (s : Int) => (s, (i : Int))) l.length (fun i s => 0 ≤ s ∧ s ≤ left ∧ ∀ j, j < i → ∀ x, l[j]? = some x → Sm x) (fun e => e = .inl (-1) ∨ ∃ s, e = .inr s ∧ 0 ≤ s ∧ s ≤ left ∧ ∀ x ∈ l, Sm x) ?_ ?_ (s := left) ⟨h0, by omega, by omega⟩
  · exact key
  · rintro i s hi ⟨h3, h4, h5⟩
    rcases step s i hi h3 (by omega) with h6 | ⟨s', h6, h7, h8, h9⟩
    · exact .inr ⟨_, h6, .inl rfl⟩
    · refine .inl ⟨s', h6, h7, by omega, ?_⟩
      intro j hj x hxj
      by_cases hji : j = i
      · subst hji
        rw [List.getElem?_eq_getElem hi] at hxj
        simp at hxj
        subst hxj
        exact h9
      · exact h5 j (by omega) x hxj
  · rintro s ⟨h3, h4, h5⟩
    refine ⟨.inr s, done s, .inr ⟨s, rfl, h3, h4, ?_⟩⟩
    intro x hx'
    obtain ⟨j, hj, e⟩ := List.getElem_of_mem hx'
    exact h5 j hj x (by rw [List.getElem?_eq_getElem hj, e])
/-- marks that are found again -/
theorem mark_list {Sm : α → Prop} (C : Nat) {b : Int × Int × List α → Option ((Int × Int × List α) ⊕ (Int × List α))} {bh : List α → Int × Int → Option ((Int × Int) ⊕ (Int ⊕ Int))}
    (step : ∀ (l : List α) (i k : Nat) (h : i < l.length), l.length ≤ 1048576 → k + C ≤ 4611686018427387904 → Sm l[i] → ∃ x' k' : _, b ((k : Int), (i : Int), l) = some (.inl (((k' : Nat) : Int), ((i + 1 : Nat) : Int), l.set i x')) ∧ k ≤ k' ∧ k' ≤ k + C ∧
      ∀ (l' : List α) (h' : i < l'.length), l'.length ≤ 1048576 → l'[i] = x' → bh l' ((k : Int), (i : Int)) = some (.inl ((k' : Int), ((i + 1 : Nat) : Int))))
    (done : ∀ (l : List α) (k : Int), b (k, (l.length : Int), l) = some (.inr (k, l))) (hdone : ∀ (l : List α) (k : Int), bh l (k, (l.length : Int)) = some (.inr (.inr k)))
    (l : List α) (k : Nat) (hl : l.length ≤ 1048576) (hk : k + l.length * C ≤ 4611686018427387904) (hs : ∀ x ∈ l, Sm x) :
    ∃ (l' : List α) (k' : Nat), loopM b ((k : Int), 0, l) = some ((k' : Int), l') ∧ l'.length = l.length ∧ k ≤ k' ∧ k' ≤ k + l.length * C ∧ loopM (bh l') ((k : Int), 0) = some (.inr (k' : Int)) := by
  have key : ∀ (d i k : Nat) (l : List α), i + d = l.length → l.length ≤ 1048576 → k + d * C ≤ 4611686018427387904 → (∀ x ∈ l.drop i, Sm x) →
      ∃ (l' : List α) (k' : Nat), loopM b ((k : Int), (i : Int), l) = some ((k' : Int), l') ∧ l'.length = l.length ∧ k ≤ k' ∧ k' ≤ k + d * C ∧ l'.take i = l.take i ∧ loopM (bh l') ((k : Int), (i : Int)) = some (.inr (k' : Int)) := by
    intro d
    induction d with
    | zero =>
      intro i k l hi hl hk hs
      have : i = l.length := by omega
      subst this
      refine ⟨l, k, ?_, rfl, by omega, by omega, rfl, ?_⟩
      · rw [loopM_eq, done]
      · rw [loopM_eq, hdone]
    | succ d ih =>
      intro i k l hi hl hk hs
      have hlt : i < l.length := by omega
      rw [Nat.succ_mul] at hk
      obtain ⟨x', k1, h1, h2, h3, h4⟩ := step l i k hlt hl (by have : 0 ≤ d * C := Nat.zero_le _; omega) (hs _ (by rw [List.drop_eq_getElem_cons hlt]; exact List.mem_cons_self))
      obtain ⟨l', k2, g1, g2, g3, g4, g5, g6⟩ := ih (i + 1) k1 (l.set i x') (by simp; omega) (by simpa using hl) (by omega) (by
        intro x hx
        rw [List.drop_set_of_lt (by omega)] at hx
        exact hs x (by rw [List.drop_eq_getElem_cons hlt]; exact List.mem_cons_of_mem _ hx))
      simp only [List.length_set] at g2
      have hx : l'[i]'(by omega) = x' := by
        have h5 : (l'.take (i + 1))[i]? = ((l.set i x').take (i + 1))[i]? := by rw [g5]
        simp only [List.getElem?_take, show i < i + 1 by omega, if_true] at h5
        rw [List.getElem?_eq_getElem (by omega), List.getElem?_eq_getElem (by simpa using hlt)] at h5
        simpa using h5
      refine ⟨l', k2, ?_, g2, by omega, by rw [Nat.succ_mul]; omega, ?_, ?_⟩
      · rw [loopM_eq, h1]; exact g1
      · have h5 : (l'.take (i + 1)).take i = ((l.set i x').take (i + 1)).take i := by rw [g5]
        rw [List.take_take, List.take_take, show min i (i + 1) = i by omega] at h5
        rw [h5, List.take_set_of_le (by omega)]
      · rw [loopM_eq, h4 l' (by omega) (by omega) hx]; exact g6
  obtain ⟨l', k', h1, h2, h3, h4, _, h6⟩ := key l.length 0 k l (by omega) hl hk (by simpa using hs)
  exact ⟨l', k', h1, h2, h3, h4, h6⟩
theorem mark_list0 {Sm : α → Prop} (C : Nat) {b : Int × Int × List α → Option ((Int × Int × List α) ⊕ (Int × List α))}
    (step : ∀ (l : List α) (i k : Nat) (h : i < l.length), l.length ≤ 1048576 → k + C ≤ 4611686018427387904 → Sm l[i] → ∃ x' k' : _, b ((k : Int), (i : Int), l) = some (.inl (((k' : Nat) : Int), ((i + 1 : Nat) : Int), l.set i x')) ∧ k ≤ k' ∧ k' ≤ k + C)
    (done : ∀ (l : List α) (k : Int), b (k, (l.length : Int), l) = some (.inr (k, l)))
    (l : List α) (k : Nat) (hl : l.length ≤ 1048576) (hk : k + l.length * C ≤ 4611686018427387904) (hs : ∀ x ∈ l, Sm x) :
    ∃ (l' : List α) (k' : Nat), loopM b ((k : Int), 0, l) = some ((k' : Int), l') ∧ l'.length = l.length ∧ k ≤ k' ∧ k' ≤ k + l.length * C := by
  have key : ∀ (d i k : Nat) (l : List α), i + d = l.length → l.length ≤ 1048576 → k + d * C ≤ 4611686018427387904 → (∀ x ∈ l.drop i, Sm x) →
      ∃ (l' : List α) (k' : Nat), loopM b ((k : Int), (i : Int), l) = some ((k' : Int), l') ∧ l'.length = l.length ∧ k ≤ k' ∧ k' ≤ k + d * C := by
    intro d
    induction d with
    | zero =>
      intro i k l hi hl hk hs
      have : i = l.length := by omega
      subst this
      exact ⟨l, k, by rw [loopM_eq, done], rfl, by omega, by omega⟩
    | succ d ih =>
      intro i k l hi hl hk hs
      have hlt : i < l.length := by omega
      rw [Nat.succ_mul] at hk
      obtain ⟨x', k1, h1, h2, h3⟩ := step l i k hlt hl (by have : 0 ≤ d * C := Nat.zero_le _; omega) (hs _ (by rw [List.drop_eq_getElem_cons hlt]; exact List.mem_cons_self))
      obtain ⟨l', k2, g1, g2, g3, g4⟩ := ih (i + 1) k1 (l.set i x') (by simp; omega) (by simpa using hl) (by omega) (by
        intro x hx
        rw [List.drop_set_of_lt (by omega)] at hx
        exact hs x (by rw [List.drop_eq_getElem_cons hlt]; exact List.mem_cons_of_mem _ hx))
      simp only [List.length_set] at g2
      exact ⟨l', k2, by rw [loopM_eq, h1]; exact g1, g2, by omega, by rw [Nat.succ_mul]; omega⟩
  exact key l.length 0 k l (by omega) hl hk (by simpa using hs)
end
end Go.Proofs.V

/- printed by a program: the plain functions, the code and the proofs of one law -/
set_option linter.unusedVariables false
set_option maxRecDepth 100000
namespace Go.Proofs.V
open Go
structure S_Tones where
  rate : Int
  quality : Int
  length : Int
  slots : (List (List Int))
  grades : (List (List Int))
  deriving DecidableEq, Inhabited, Repr
structure S_l10R where
  data : (List Int)
  at_ : Int
  err : Int
  deriving DecidableEq, Inhabited, Repr
structure S_Number where
  ok : Bool
  value : Int
  next : Int
  deriving DecidableEq, Inhabited, Repr
structure S_ztake where
  b : (List Int)
  at_ : Int
  short : Bool
  deriving DecidableEq, Inhabited, Repr
noncomputable def m_laws_toByteS_19 (l19_0 : (List Int)) : Option ((List Int)) :=
  some l19_0
noncomputable def m_laws_toByteS_9 (p0 : (List Int)) (i9_0 : Int) (l9_1 : (List Int)) : Option ((Int × (List Int)) ⊕ (((List Int)))) :=
  if (decide (i9_0 < (p0.length : Int))) then
    (rd p0 i9_0).bind fun x9_1 =>
    (rd l9_1 i9_0).bind fun _ =>
    some (.inl ((w64 (i9_0 + 1)), (l9_1.set (0 + Int.toNat i9_0) x9_1)))
  else
    some (.inr l9_1)
noncomputable def lp_laws_toByteS_9 (p0 : (List Int)) (s : Int × (List Int)) : Option ((Int × (List Int)) ⊕ (((List Int)))) := m_laws_toByteS_9 p0 s.1 s.2
noncomputable def m_laws_toByteS_0 (p0 : (List Int)) : Option ((List Int)) :=
  (ck (decide ((0 : Int) ≤ (p0.length : Int) ∧ (p0.length : Int) ≤ (140737488355328 : Int)))).bind fun _ =>
  (loopM (lp_laws_toByteS_9 p0) (0, (List.replicate (Int.toNat (p0.length : Int)) (0 : Int)))).bind fun e => m_laws_toByteS_19 e
noncomputable def m_laws_toByteS (p0 : (List Int)) : Option ((List Int)) := m_laws_toByteS_0 p0
noncomputable def m_spec_l1Bit_0 (p0 : (List Int)) (p1 : Int) (p2 : Bool) : Option (Int) :=
  if p2 then
    (rd p0 (w64 (Int.tdiv p1 8))).bind fun x0_1 =>
    (ck (decide ((0 : Int) ≤ (wr .u64 (w64 (7 - (Int.tmod p1 8))))))).bind fun _ =>
    some (andI .u64 (wr .u64 (shrI .u8 x0_1 (wr .u64 (w64 (7 - (Int.tmod p1 8)))))) 1)
  else
    (rd p0 (w64 (Int.tdiv p1 8))).bind fun x0_1 =>
    (ck (decide ((0 : Int) ≤ (wr .u64 (Int.tmod p1 8))))).bind fun _ =>
    some (andI .u64 (wr .u64 (shrI .u8 x0_1 (wr .u64 (Int.tmod p1 8)))) 1)
noncomputable def m_spec_l1Bit (p0 : (List Int)) (p1 : Int) (p2 : Bool) : Option (Int) := m_spec_l1Bit_0 p0 p1 p2
noncomputable def m_spec_l1Take_33 (p1 : Int) (p2 : Int) (i33_0 : Int) : Option (S_Number) :=
  some (S_Number.mk true i33_0 (w64 (p1 + p2)))
noncomputable def m_spec_l1Take_17 (p0 : (List Int)) (p1 : Int) (p2 : Int) (p3 : Bool) (i17_0 : Int) (i17_1 : Int) : Option ((Int × Int) ⊕ ((Int))) :=
  if (decide (i17_1 < p2)) then
    (m_spec_l1Bit p0 (w64 (p1 + i17_1)) p3).bind fun x17_1 =>
    if p3 then
      some (.inl ((wr .u64 ((wr .u64 (i17_0 * 2)) + x17_1)), (w64 (i17_1 + 1))))
    else
      (ck (decide ((0 : Int) ≤ (wr .u64 i17_1)))).bind fun _ =>
      some (.inl ((orI .u64 i17_0 (shlI .u64 x17_1 (wr .u64 i17_1))), (w64 (i17_1 + 1))))
  else
    some (.inr i17_0)
noncomputable def lp_spec_l1Take_17 (p0 : (List Int)) (p1 : Int) (p2 : Int) (p3 : Bool) (s : Int × Int) : Option ((Int × Int) ⊕ ((Int))) := m_spec_l1Take_17 p0 p1 p2 p3 s.1 s.2
noncomputable def m_spec_l1Take_5 (p0 : (List Int)) (p1 : Int) (p2 : Int) (p3 : Bool) (b5_0 : Bool) : Option (S_Number) :=
  if b5_0 then
    some (S_Number.mk false 0 0)
  else
    (loopM (lp_spec_l1Take_17 p0 p1 p2 p3) (0, 0)).bind fun e => m_spec_l1Take_33 p1 p2 e
noncomputable def m_spec_l1Take_0 (p0 : (List Int)) (p1 : Int) (p2 : Int) (p3 : Bool) : Option (S_Number) :=
  if (decide (p2 < 0)) then
    m_spec_l1Take_5 p0 p1 p2 p3 true
  else
    if (decide (p2 > 64)) then
      m_spec_l1Take_5 p0 p1 p2 p3 true
    else
      if (decide (p1 < 0)) then
        m_spec_l1Take_5 p0 p1 p2 p3 true
      else
        if (decide (p1 > (w64 (8 * (p0.length : Int))))) then
          m_spec_l1Take_5 p0 p1 p2 p3 true
        else
          m_spec_l1Take_5 p0 p1 p2 p3 (decide (p2 > (w64 ((w64 (8 * (p0.length : Int))) - p1))))
noncomputable def m_spec_l1Take (p0 : (List Int)) (p1 : Int) (p2 : Int) (p3 : Bool) : Option (S_Number) := m_spec_l1Take_0 p0 p1 p2 p3
noncomputable def m_spec_l10R_fail_0 (p1 : Int) (p0 : S_l10R) : Option (S_l10R) :=
  if (p0.err == 0) then
    some (S_l10R.mk p0.data p0.at_ p1)
  else
    some p0
noncomputable def m_spec_l10R_fail (p0 : S_l10R) (p1 : Int) : Option (S_l10R) := m_spec_l10R_fail_0 p1 p0
noncomputable def m_spec_l10R_take_10 (x0_0 : S_Number) (l10_0 : (List Int)) (i10_1 : Int) (i10_2 : Int) : Option (Int × S_l10R) :=
  if (i10_2 != 0) then
    some (0, (S_l10R.mk l10_0 i10_1 i10_2))
  else
    some ((w64 x0_0.value), (S_l10R.mk l10_0 x0_0.next i10_2))
noncomputable def m_spec_l10R_take_0 (p1 : Int) (p0 : S_l10R) : Option (Int × S_l10R) :=
  (m_spec_l1Take p0.data p0.at_ p1 true).bind fun x0_0 =>
  if x0_0.ok then
    m_spec_l10R_take_10 x0_0 p0.data p0.at_ p0.err
  else
    (m_spec_l10R_fail p0 2).bind fun x0_2 =>
    m_spec_l10R_take_10 x0_0 x0_2.data x0_2.at_ x0_2.err
noncomputable def m_spec_l10R_take (p0 : S_l10R) (p1 : Int) : Option (Int × S_l10R) := m_spec_l10R_take_0 p1 p0
noncomputable def m_spec_l10R_mark_18 (p1 : (List Int)) (i4_0 : Int) (x4_2 : Int × S_l10R) (b18_0 : Bool) : Option ((Int × (List Int) × Int × Int) ⊕ (S_l10R)) :=
  if b18_0 then
    (m_spec_l10R_fail x4_2.2 4).bind fun x18_1 =>
    some (.inl ((w64 (i4_0 + 1)), x18_1.data, x18_1.at_, x18_1.err))
  else
    some (.inl ((w64 (i4_0 + 1)), x4_2.2.data, x4_2.2.at_, x4_2.2.err))
noncomputable def m_spec_l10R_mark_4 (p1 : (List Int)) (i4_0 : Int) (l4_1 : (List Int)) (i4_2 : Int) (i4_3 : Int) : Option ((Int × (List Int) × Int × Int) ⊕ (S_l10R)) :=
  if (decide (i4_0 < (p1.length : Int))) then
    (rd p1 i4_0).bind fun x4_1 =>
    (m_spec_l10R_take (S_l10R.mk l4_1 i4_2 i4_3) 8).bind fun x4_2 =>
    if (x4_2.2.err == 0) then
      m_spec_l10R_mark_18 p1 i4_0 x4_2 (x4_2.1 != (w64 x4_1))
    else
      m_spec_l10R_mark_18 p1 i4_0 x4_2 false
  else
    some (.inr (S_l10R.mk l4_1 i4_2 i4_3))
noncomputable def lp_spec_l10R_mark_4 (p1 : (List Int)) (s : Int × (List Int) × Int × Int) : Option ((Int × (List Int) × Int × Int) ⊕ (S_l10R)) := m_spec_l10R_mark_4 p1 s.1 s.2.1 s.2.2.1 s.2.2.2
noncomputable def m_spec_l10R_mark_0 (p1 : (List Int)) (p0 : S_l10R) : Option (S_l10R) :=
  (loopM (lp_spec_l10R_mark_4 p1) (0, p0.data, p0.at_, p0.err)).bind fun e => some e
noncomputable def m_spec_l10R_mark (p0 : S_l10R) (p1 : (List Int)) : Option (S_l10R) := m_spec_l10R_mark_0 p1 p0
noncomputable def m_spec_l11Head_0 (p0 : Int) (p1 : Int) (p2 : Int) : Option (Bool) :=
  if (decide (p0 ≥ 1)) then
    if (decide (p0 ≤ 1000000)) then
      if (decide (p1 ≥ 0)) then
        if (decide (p1 ≤ 15)) then
          if (decide (p2 ≥ 0)) then
            some (decide (p2 ≤ 4000))
          else
            some false
        else
          some false
      else
        some false
    else
      some false
  else
    some false
noncomputable def m_spec_l11Head (p0 : Int) (p1 : Int) (p2 : Int) : Option (Bool) := m_spec_l11Head_0 p0 p1 p2
noncomputable def m_spec_l11Slots_0 (p0 : Int) : Option (Int) :=
  some (w64 ((w64 (Int.tdiv (w64 (p0 + 15)) 16)) + 1))
noncomputable def m_spec_l11Slots (p0 : Int) : Option (Int) := m_spec_l11Slots_0 p0
noncomputable def m_spec_Unfold_0 (p0 : Int) : Option (Int) :=
  if ((Int.tmod p0 2) == 1) then
    some (w64 ((w64 (0 - (w64 (wr .u64 (Int.tdiv p0 2))))) - 1))
  else
    some (w64 (wr .u64 (Int.tdiv p0 2)))
noncomputable def m_spec_Unfold (p0 : Int) : Option (Int) := m_spec_Unfold_0 p0
noncomputable def m_spec_l10R_folded_31 (i28_0 : Int) (l31_0 : (List Int)) (i31_1 : Int) (i31_2 : Int) : Option (Int × S_l10R) :=
  (m_spec_Unfold (wr .u64 i28_0)).bind fun x31_0 =>
  some (x31_0, (S_l10R.mk l31_0 i31_1 i31_2))
noncomputable def m_spec_l10R_folded_28 (x21_0 : Int × S_l10R) (i28_0 : Int) (b28_1 : Bool) : Option (Int × S_l10R) :=
  if b28_1 then
    (m_spec_l10R_fail x21_0.2 5).bind fun x28_1 =>
    m_spec_l10R_folded_31 i28_0 x28_1.data x28_1.at_ x28_1.err
  else
    m_spec_l10R_folded_31 i28_0 x21_0.2.data x21_0.2.at_ x21_0.2.err
noncomputable def m_spec_l10R_folded_21 (p1 : Int) (i21_0 : Int) (l21_1 : (List Int)) (i21_2 : Int) (i21_3 : Int) : Option (Int × S_l10R) :=
  (m_spec_l10R_take (S_l10R.mk l21_1 i21_2 i21_3) p1).bind fun x21_0 =>
  (ck (decide ((0 : Int) ≤ (wr .u64 p1)))).bind fun _ =>
  if (x21_0.2.err == 0) then
    m_spec_l10R_folded_28 x21_0 (orI .i64 (shlI .i64 i21_0 (wr .u64 p1)) x21_0.1) (decide ((orI .i64 (shlI .i64 i21_0 (wr .u64 p1)) x21_0.1) > 2097151))
  else
    m_spec_l10R_folded_28 x21_0 (orI .i64 (shlI .i64 i21_0 (wr .u64 p1)) x21_0.1) false
noncomputable def m_spec_l10R_folded_7 (p1 : Int) (i7_0 : Int) (l7_1 : (List Int)) (i7_2 : Int) (i7_3 : Int) : Option ((Int × (List Int) × Int × Int) ⊕ ((Int × (List Int) × Int × Int))) :=
  if (i7_3 == 0) then
    (m_spec_l10R_take (S_l10R.mk l7_1 i7_2 i7_3) 1).bind fun x7_1 =>
    if (x7_1.1 == 0) then
      (ck (decide ((0 : Int) ≤ (wr .u64 p1)))).bind fun _ =>
      if (decide ((shlI .i64 (w64 (i7_0 + 1)) (wr .u64 p1)) > 2097151)) then
        (m_spec_l10R_fail x7_1.2 5).bind fun x7_5 =>
        some (.inl ((w64 (i7_0 + 1)), x7_5.data, x7_5.at_, x7_5.err))
      else
        some (.inl ((w64 (i7_0 + 1)), x7_1.2.data, x7_1.2.at_, x7_1.2.err))
    else
      some (.inr (i7_0, x7_1.2.data, x7_1.2.at_, x7_1.2.err))
  else
    some (.inr (i7_0, l7_1, i7_2, i7_3))
noncomputable def lp_spec_l10R_folded_7 (p1 : Int) (s : Int × (List Int) × Int × Int) : Option ((Int × (List Int) × Int × Int) ⊕ ((Int × (List Int) × Int × Int))) := m_spec_l10R_folded_7 p1 s.1 s.2.1 s.2.2.1 s.2.2.2
noncomputable def m_spec_l10R_folded_0 (p1 : Int) (p0 : S_l10R) : Option (Int × S_l10R) :=
  (loopM (lp_spec_l10R_folded_7 p1) (0, p0.data, p0.at_, p0.err)).bind fun e => m_spec_l10R_folded_21 p1 e.1 e.2.1 e.2.2.1 e.2.2.2
noncomputable def m_spec_l10R_folded (p0 : S_l10R) (p1 : Int) : Option (Int × S_l10R) := m_spec_l10R_folded_0 p1 p0
noncomputable def m_spec_l10R_fill_2 (l2_0 : (List Int)) (i2_1 : Int) (i2_2 : Int) : Option (((List Int) × Int × Int) ⊕ (S_l10R)) :=
  if ((Int.tmod i2_1 8) != 0) then
    if (i2_2 == 0) then
      (m_spec_l10R_take (S_l10R.mk l2_0 i2_1 i2_2) 1).bind fun x2_2 =>
      if (x2_2.1 == 1) then
        (m_spec_l10R_fail x2_2.2 4).bind fun x2_4 =>
        some (.inl (x2_4.data, x2_4.at_, x2_4.err))
      else
        some (.inl (x2_2.2.data, x2_2.2.at_, x2_2.2.err))
    else
      some (.inr (S_l10R.mk l2_0 i2_1 i2_2))
  else
    some (.inr (S_l10R.mk l2_0 i2_1 i2_2))
noncomputable def lp_spec_l10R_fill_2 (s : (List Int) × Int × Int) : Option (((List Int) × Int × Int) ⊕ (S_l10R)) := m_spec_l10R_fill_2 s.1 s.2.1 s.2.2
noncomputable def m_spec_l10R_fill_0 (p0 : S_l10R) : Option (S_l10R) :=
  (loopM (lp_spec_l10R_fill_2) (p0.data, p0.at_, p0.err)).bind fun e => some e
noncomputable def m_spec_l10R_fill (p0 : S_l10R) : Option (S_l10R) := m_spec_l10R_fill_0 p0
noncomputable def m_spec_DecodeTones_72 (p0 : (List Int)) (i43_0 : Int) (i58_0 : Int) (i58_1 : Int) (x58_1 : Int × S_l10R) (x0_2 : Int × S_l10R) (x0_3 : Int × S_l10R) (x0_4 : Int × S_l10R) (l43_4 : (List (List Int))) (l43_5 : (List (List Int))) (b72_0 : Bool) (l72_1 : (List Int)) : Option ((Int × Int × (List Int) × Int × Int × (List Int)) ⊕ (((List Int) × Int × Int × (List Int)))) :=
  if b72_0 then
    (m_spec_l10R_fail x58_1.2 5).bind fun x72_1 =>
    some (.inl (i58_0, (w64 (i58_1 + 1)), x72_1.data, x72_1.at_, x72_1.err, l72_1))
  else
    some (.inl (i58_0, (w64 (i58_1 + 1)), x58_1.2.data, x58_1.2.at_, x58_1.2.err, l72_1))
noncomputable def m_spec_DecodeTones_101 (p0 : (List Int)) (i43_0 : Int) (x0_2 : Int × S_l10R) (x0_3 : Int × S_l10R) (x0_4 : Int × S_l10R) (l76_3 : (List Int)) (l43_4 : (List (List Int))) (l43_5 : (List (List Int))) (l101_0 : (List Int)) (i101_1 : Int) (i101_2 : Int) (l101_3 : (List Int)) : Option ((Int × (List Int) × Int × Int × (List (List Int)) × (List (List Int))) ⊕ (((List Int) × Int × Int × (List (List Int)) × (List (List Int))))) :=
  (ck (decide (l43_4.length + ([l101_3] : List (List Int)).length ≤ 5864062014805))).bind fun _ =>
  (ck (decide (l43_5.length + ([l76_3] : List (List Int)).length ≤ 5864062014805))).bind fun _ =>
  some (.inl ((w64 (i43_0 + 1)), l101_0, i101_1, i101_2, (l43_4 ++ ([l101_3] : List (List Int))), (l43_5 ++ ([l76_3] : List (List Int)))))
noncomputable def m_spec_DecodeTones_91 (p0 : (List Int)) (i43_0 : Int) (x76_0 : Int × S_l10R) (x0_2 : Int × S_l10R) (x0_3 : Int × S_l10R) (x0_4 : Int × S_l10R) (l76_3 : (List Int)) (l43_4 : (List (List Int))) (l43_5 : (List (List Int))) (i91_0 : Int) (l91_1 : (List Int)) (i91_2 : Int) (i91_3 : Int) (l91_4 : (List Int)) : Option ((Int × (List Int) × Int × Int × (List Int)) ⊕ (((List Int) × Int × Int × (List Int)))) :=
  if (decide (i91_0 < 16)) then
    if (i91_3 == 0) then
      (m_spec_l10R_folded (S_l10R.mk l91_1 i91_2 i91_3) x76_0.1).bind fun x91_2 =>
      (rd l91_4 i91_0).bind fun _ =>
      some (.inl ((w64 (i91_0 + 1)), x91_2.2.data, x91_2.2.at_, x91_2.2.err, (l91_4.set (0 + Int.toNat i91_0) x91_2.1)))
    else
      some (.inr (l91_1, i91_2, i91_3, l91_4))
  else
    some (.inr (l91_1, i91_2, i91_3, l91_4))
noncomputable def lp_spec_DecodeTones_91 (p0 : (List Int)) (i43_0 : Int) (x76_0 : Int × S_l10R) (x0_2 : Int × S_l10R) (x0_3 : Int × S_l10R) (x0_4 : Int × S_l10R) (l76_3 : (List Int)) (l43_4 : (List (List Int))) (l43_5 : (List (List Int))) (s : Int × (List Int) × Int × Int × (List Int)) : Option ((Int × (List Int) × Int × Int × (List Int)) ⊕ (((List Int) × Int × Int × (List Int)))) := m_spec_DecodeTones_91 p0 i43_0 x76_0 x0_2 x0_3 x0_4 l76_3 l43_4 l43_5 s.1 s.2.1 s.2.2.1 s.2.2.2.1 s.2.2.2.2
noncomputable def m_spec_DecodeTones_84 (p0 : (List Int)) (i43_0 : Int) (x76_0 : Int × S_l10R) (x0_2 : Int × S_l10R) (x0_3 : Int × S_l10R) (x0_4 : Int × S_l10R) (l76_3 : (List Int)) (l43_4 : (List (List Int))) (l43_5 : (List (List Int))) (l84_0 : (List Int)) (i84_1 : Int) (i84_2 : Int) : Option ((Int × (List Int) × Int × Int × (List (List Int)) × (List (List Int))) ⊕ (((List Int) × Int × Int × (List (List Int)) × (List (List Int))))) :=
  (ck (decide ((0 : Int) ≤ 16 ∧ 16 ≤ (17592186044416 : Int)))).bind fun _ =>
  (loopM (lp_spec_DecodeTones_91 p0 i43_0 x76_0 x0_2 x0_3 x0_4 l76_3 l43_4 l43_5) (0, l84_0, i84_1, i84_2, (List.replicate (Int.toNat 16) (0 : Int)))).bind fun e => m_spec_DecodeTones_101 p0 i43_0 x0_2 x0_3 x0_4 l76_3 l43_4 l43_5 e.1 e.2.1 e.2.2.1 e.2.2.2
noncomputable def m_spec_DecodeTones_81 (p0 : (List Int)) (i43_0 : Int) (x76_0 : Int × S_l10R) (x0_2 : Int × S_l10R) (x0_3 : Int × S_l10R) (x0_4 : Int × S_l10R) (l76_3 : (List Int)) (l43_4 : (List (List Int))) (l43_5 : (List (List Int))) (b81_0 : Bool) : Option ((Int × (List Int) × Int × Int × (List (List Int)) × (List (List Int))) ⊕ (((List Int) × Int × Int × (List (List Int)) × (List (List Int))))) :=
  if b81_0 then
    (m_spec_l10R_fail x76_0.2 5).bind fun x81_1 =>
    m_spec_DecodeTones_84 p0 i43_0 x76_0 x0_2 x0_3 x0_4 l76_3 l43_4 l43_5 x81_1.data x81_1.at_ x81_1.err
  else
    m_spec_DecodeTones_84 p0 i43_0 x76_0 x0_2 x0_3 x0_4 l76_3 l43_4 l43_5 x76_0.2.data x76_0.2.at_ x76_0.2.err
noncomputable def m_spec_DecodeTones_76 (p0 : (List Int)) (i43_0 : Int) (x0_2 : Int × S_l10R) (x0_3 : Int × S_l10R) (x0_4 : Int × S_l10R) (l43_4 : (List (List Int))) (l43_5 : (List (List Int))) (l76_0 : (List Int)) (i76_1 : Int) (i76_2 : Int) (l76_3 : (List Int)) : Option ((Int × (List Int) × Int × Int × (List (List Int)) × (List (List Int))) ⊕ (((List Int) × Int × Int × (List (List Int)) × (List (List Int))))) :=
  (m_spec_l10R_take (S_l10R.mk l76_0 i76_1 i76_2) 5).bind fun x76_0 =>
  if (x76_0.2.err == 0) then
    m_spec_DecodeTones_81 p0 i43_0 x76_0 x0_2 x0_3 x0_4 l76_3 l43_4 l43_5 (decide (x76_0.1 > 16))
  else
    m_spec_DecodeTones_81 p0 i43_0 x76_0 x0_2 x0_3 x0_4 l76_3 l43_4 l43_5 false
noncomputable def m_spec_DecodeTones_58 (p0 : (List Int)) (i43_0 : Int) (x0_2 : Int × S_l10R) (x0_3 : Int × S_l10R) (x0_4 : Int × S_l10R) (l43_4 : (List (List Int))) (l43_5 : (List (List Int))) (i58_0 : Int) (i58_1 : Int) (l58_2 : (List Int)) (i58_3 : Int) (i58_4 : Int) (l58_5 : (List Int)) : Option ((Int × Int × (List Int) × Int × Int × (List Int)) ⊕ (((List Int) × Int × Int × (List Int)))) :=
  if (decide (i58_1 < i58_0)) then
    (m_spec_l10R_take (S_l10R.mk l58_2 i58_3 i58_4) 4).bind fun x58_1 =>
    (rd l58_5 i58_1).bind fun _ =>
    if (x58_1.2.err == 0) then
      (rd (l58_5.set (0 + Int.toNat i58_1) x58_1.1) i58_1).bind fun _ =>
      m_spec_DecodeTones_72 p0 i43_0 i58_0 i58_1 x58_1 x0_2 x0_3 x0_4 l43_4 l43_5 (decide (x58_1.1 > 12)) (l58_5.set (0 + Int.toNat i58_1) x58_1.1)
    else
      m_spec_DecodeTones_72 p0 i43_0 i58_0 i58_1 x58_1 x0_2 x0_3 x0_4 l43_4 l43_5 false (l58_5.set (0 + Int.toNat i58_1) x58_1.1)
  else
    some (.inr (l58_2, i58_3, i58_4, l58_5))
noncomputable def lp_spec_DecodeTones_58 (p0 : (List Int)) (i43_0 : Int) (x0_2 : Int × S_l10R) (x0_3 : Int × S_l10R) (x0_4 : Int × S_l10R) (l43_4 : (List (List Int))) (l43_5 : (List (List Int))) (s : Int × Int × (List Int) × Int × Int × (List Int)) : Option ((Int × Int × (List Int) × Int × Int × (List Int)) ⊕ (((List Int) × Int × Int × (List Int)))) := m_spec_DecodeTones_58 p0 i43_0 x0_2 x0_3 x0_4 l43_4 l43_5 s.1 s.2.1 s.2.2.1 s.2.2.2.1 s.2.2.2.2.1 s.2.2.2.2.2
noncomputable def m_spec_DecodeTones_113 (x0_2 : Int × S_l10R) (x0_3 : Int × S_l10R) (x0_4 : Int × S_l10R) (l105_3 : (List (List Int))) (l105_4 : (List (List Int))) (l113_0 : (List Int)) (i113_1 : Int) (i113_2 : Int) : Option (Int × S_Tones) :=
  if (i113_2 != 0) then
    some (i113_2, (S_Tones.mk 0 0 0 ([] : List (List Int)) ([] : List (List Int))))
  else
    some (0, (S_Tones.mk x0_2.1 x0_3.1 x0_4.1 l105_3 l105_4))
noncomputable def m_spec_DecodeTones_110 (x105_0 : S_l10R) (x0_2 : Int × S_l10R) (x0_3 : Int × S_l10R) (x0_4 : Int × S_l10R) (l105_3 : (List (List Int))) (l105_4 : (List (List Int))) (b110_0 : Bool) : Option (Int × S_Tones) :=
  if b110_0 then
    (m_spec_l10R_fail x105_0 8).bind fun x110_1 =>
    m_spec_DecodeTones_113 x0_2 x0_3 x0_4 l105_3 l105_4 x110_1.data x110_1.at_ x110_1.err
  else
    m_spec_DecodeTones_113 x0_2 x0_3 x0_4 l105_3 l105_4 x105_0.data x105_0.at_ x105_0.err
noncomputable def m_spec_DecodeTones_105 (p0 : (List Int)) (x0_2 : Int × S_l10R) (x0_3 : Int × S_l10R) (x0_4 : Int × S_l10R) (l105_0 : (List Int)) (i105_1 : Int) (i105_2 : Int) (l105_3 : (List (List Int))) (l105_4 : (List (List Int))) : Option (Int × S_Tones) :=
  (m_spec_l10R_fill (S_l10R.mk l105_0 i105_1 i105_2)).bind fun x105_0 =>
  if (x105_0.err == 0) then
    m_spec_DecodeTones_110 x105_0 x0_2 x0_3 x0_4 l105_3 l105_4 (decide (x105_0.at_ < (w64 (8 * (p0.length : Int)))))
  else
    m_spec_DecodeTones_110 x105_0 x0_2 x0_3 x0_4 l105_3 l105_4 false
noncomputable def m_spec_DecodeTones_43 (p0 : (List Int)) (x0_2 : Int × S_l10R) (x0_3 : Int × S_l10R) (x0_4 : Int × S_l10R) (i43_0 : Int) (l43_1 : (List Int)) (i43_2 : Int) (i43_3 : Int) (l43_4 : (List (List Int))) (l43_5 : (List (List Int))) : Option ((Int × (List Int) × Int × Int × (List (List Int)) × (List (List Int))) ⊕ (((List Int) × Int × Int × (List (List Int)) × (List (List Int))))) :=
  (m_spec_l11Slots x0_4.1).bind fun x43_0 =>
  if (decide (i43_0 < x43_0)) then
    if (i43_3 == 0) then
      (ck (decide ((0 : Int) ≤ 8 ∧ 8 ≤ (17592186044416 : Int)))).bind fun _ =>
      (loopM (lp_spec_DecodeTones_58 p0 i43_0 x0_2 x0_3 x0_4 l43_4 l43_5) (((Int.toNat 8) : Int), 0, l43_1, i43_2, i43_3, (List.replicate (Int.toNat 8) (0 : Int)))).bind fun e => m_spec_DecodeTones_76 p0 i43_0 x0_2 x0_3 x0_4 l43_4 l43_5 e.1 e.2.1 e.2.2.1 e.2.2.2
    else
      some (.inr (l43_1, i43_2, i43_3, l43_4, l43_5))
  else
    some (.inr (l43_1, i43_2, i43_3, l43_4, l43_5))
noncomputable def lp_spec_DecodeTones_43 (p0 : (List Int)) (x0_2 : Int × S_l10R) (x0_3 : Int × S_l10R) (x0_4 : Int × S_l10R) (s : Int × (List Int) × Int × Int × (List (List Int)) × (List (List Int))) : Option ((Int × (List Int) × Int × Int × (List (List Int)) × (List (List Int))) ⊕ (((List Int) × Int × Int × (List (List Int)) × (List (List Int))))) := m_spec_DecodeTones_43 p0 x0_2 x0_3 x0_4 s.1 s.2.1 s.2.2.1 s.2.2.2.1 s.2.2.2.2.1 s.2.2.2.2.2
noncomputable def m_spec_DecodeTones_30 (p0 : (List Int)) (x0_2 : Int × S_l10R) (x0_3 : Int × S_l10R) (x0_4 : Int × S_l10R) (l30_0 : (List Int)) (i30_1 : Int) (i30_2 : Int) : Option (Int × S_Tones) :=
  if (i30_2 != 0) then
    some (i30_2, (S_Tones.mk 0 0 0 ([] : List (List Int)) ([] : List (List Int))))
  else
    (loopM (lp_spec_DecodeTones_43 p0 x0_2 x0_3 x0_4) (0, l30_0, i30_1, i30_2, ([] : List (List Int)), ([] : List (List Int)))).bind fun e => m_spec_DecodeTones_105 p0 x0_2 x0_3 x0_4 e.1 e.2.1 e.2.2.1 e.2.2.2.1 e.2.2.2.2
noncomputable def m_spec_DecodeTones_27 (p0 : (List Int)) (x0_5 : Int × S_l10R) (x0_2 : Int × S_l10R) (x0_3 : Int × S_l10R) (x0_4 : Int × S_l10R) (b27_0 : Bool) : Option (Int × S_Tones) :=
  if b27_0 then
    (m_spec_l10R_fail x0_5.2 5).bind fun x27_1 =>
    m_spec_DecodeTones_30 p0 x0_2 x0_3 x0_4 x27_1.data x27_1.at_ x27_1.err
  else
    m_spec_DecodeTones_30 p0 x0_2 x0_3 x0_4 x0_5.2.data x0_5.2.at_ x0_5.2.err
noncomputable def m_spec_DecodeTones_0 (p0 : (List Int)) : Option (Int × S_Tones) :=
  if (decide ((p0.length : Int) > 60000)) then
    some (1, (S_Tones.mk 0 0 0 ([] : List (List Int)) ([] : List (List Int))))
  else
    (m_spec_l10R_mark (S_l10R.mk p0 0 0) ([84, 79, 78, 49] : List Int)).bind fun x0_1 =>
    (m_spec_l10R_take x0_1 20).bind fun x0_2 =>
    (m_spec_l10R_take x0_2.2 4).bind fun x0_3 =>
    (m_spec_l10R_take x0_3.2 12).bind fun x0_4 =>
    (m_spec_l10R_take x0_4.2 4).bind fun x0_5 =>
    if (x0_5.2.err == 0) then
      if (x0_5.1 != 0) then
        m_spec_DecodeTones_27 p0 x0_5 x0_2 x0_3 x0_4 true
      else
        (m_spec_l11Head x0_2.1 x0_3.1 x0_4.1).bind fun x0_8 =>
        m_spec_DecodeTones_27 p0 x0_5 x0_2 x0_3 x0_4 (!x0_8)
    else
      m_spec_DecodeTones_27 p0 x0_5 x0_2 x0_3 x0_4 false
noncomputable def m_spec_DecodeTones (p0 : (List Int)) : Option (Int × S_Tones) := m_spec_DecodeTones_0 p0
noncomputable def m_impl_DecodeTonesC1_0 (p0 : Int) : Option (Int × S_Tones) :=
  some (p0, (S_Tones.mk 0 0 0 ([] : List (List Int)) ([] : List (List Int))))
noncomputable def m_impl_DecodeTonesC1 (p0 : Int) : Option (Int × S_Tones) := m_impl_DecodeTonesC1_0 p0
noncomputable def m_impl_zmagic_33 : Option (Int) :=
  some 0
noncomputable def m_impl_zmagic_7 (p0 : (List Int)) (p1 : ByteArray) (i7_0 : Int) : Option ((Int) ⊕ ((Int) ⊕ ((Unit)))) :=
  if (decide (i7_0 < (p1.size : Int))) then
    if (decide (i7_0 ≥ (p0.length : Int))) then
      some (.inr (.inl 2))
    else
      (rd p0 i7_0).bind fun x7_2 =>
      (sat p1 i7_0).bind fun x7_3 =>
      if (x7_2 != x7_3) then
        some (.inr (.inl 4))
      else
        some (.inl (w64 (i7_0 + 1)))
  else
    some (.inr (.inr ()))
noncomputable def lp_impl_zmagic_7 (p0 : (List Int)) (p1 : ByteArray) (s : Int) : Option ((Int) ⊕ ((Int) ⊕ ((Unit)))) := m_impl_zmagic_7 p0 p1 s
noncomputable def m_impl_zmagic_0 (p0 : (List Int)) (p1 : ByteArray) : Option (Int) :=
  (loopM (lp_impl_zmagic_7 p0 p1) 0).bind fun e => match e with | .inl e => some e | .inr e => m_impl_zmagic_33
noncomputable def m_impl_zmagic (p0 : (List Int)) (p1 : ByteArray) : Option (Int) := m_impl_zmagic_0 p0 p1
noncomputable def m_impl_ztake_bit_0 (p0 : S_ztake) : Option (Int × S_ztake) :=
  if (decide (p0.at_ ≥ (w64 (8 * (p0.b.length : Int))))) then
    some (0, (S_ztake.mk p0.b p0.at_ true))
  else
    (rd p0.b (w64 (Int.tdiv p0.at_ 8))).bind fun x0_1 =>
    (ck (decide ((0 : Int) ≤ (w64 (7 - (Int.tmod p0.at_ 8)))))).bind fun _ =>
    some ((w64 (andI .u8 (shrI .u8 x0_1 (w64 (7 - (Int.tmod p0.at_ 8)))) 1)), (S_ztake.mk p0.b (w64 (p0.at_ + 1)) p0.short))
noncomputable def m_impl_ztake_bit (p0 : S_ztake) : Option (Int × S_ztake) := m_impl_ztake_bit_0 p0
noncomputable def m_impl_ztake_take_19 (i19_0 : Int) (l19_1 : (List Int)) (i19_2 : Int) (b19_3 : Bool) : Option (Int × S_ztake) :=
  some (i19_0, (S_ztake.mk l19_1 i19_2 b19_3))
noncomputable def m_impl_ztake_take_9 (p1 : Int) (i9_0 : Int) (i9_1 : Int) (l9_2 : (List Int)) (i9_3 : Int) (b9_4 : Bool) : Option ((Int × Int × (List Int) × Int × Bool) ⊕ ((Int × (List Int) × Int × Bool))) :=
  if (decide (i9_1 < p1)) then
    (m_impl_ztake_bit (S_ztake.mk l9_2 i9_3 b9_4)).bind fun x9_1 =>
    some (.inl ((orI .u64 (shlI .u64 i9_0 1) (wr .u64 x9_1.1)), (w64 (i9_1 + 1)), x9_1.2.b, x9_1.2.at_, x9_1.2.short))
  else
    some (.inr (i9_0, l9_2, i9_3, b9_4))
noncomputable def lp_impl_ztake_take_9 (p1 : Int) (s : Int × Int × (List Int) × Int × Bool) : Option ((Int × Int × (List Int) × Int × Bool) ⊕ ((Int × (List Int) × Int × Bool))) := m_impl_ztake_take_9 p1 s.1 s.2.1 s.2.2.1 s.2.2.2.1 s.2.2.2.2
noncomputable def m_impl_ztake_take_0 (p1 : Int) (p0 : S_ztake) : Option (Int × S_ztake) :=
  (loopM (lp_impl_ztake_take_9 p1) (0, 0, p0.b, p0.at_, p0.short)).bind fun e => m_impl_ztake_take_19 e.1 e.2.1 e.2.2.1 e.2.2.2
noncomputable def m_impl_ztake_take (p0 : S_ztake) (p1 : Int) : Option (Int × S_ztake) := m_impl_ztake_take_0 p1 p0
noncomputable def m_impl_Unfold_0 (p0 : Int) : Option (Int) :=
  some (xorI .i64 (w64 (shrI .u64 p0 1)) (w64 (0 - (w64 (andI .u64 p0 1)))))
noncomputable def m_impl_Unfold (p0 : Int) : Option (Int) := m_impl_Unfold_0 p0
noncomputable def m_impl_ztake_fill_15 (b15_0 : Bool) (l15_1 : (List Int)) (i15_2 : Int) (b15_3 : Bool) : Option (Bool × S_ztake) :=
  some (b15_0, (S_ztake.mk l15_1 i15_2 b15_3))
noncomputable def m_impl_ztake_fill_7 (b7_0 : Bool) (l7_1 : (List Int)) (i7_2 : Int) (b7_3 : Bool) : Option ((Bool × (List Int) × Int × Bool) ⊕ ((Bool × (List Int) × Int × Bool))) :=
  if ((Int.tmod i7_2 8) != 0) then
    (m_impl_ztake_bit (S_ztake.mk l7_1 i7_2 b7_3)).bind fun x7_1 =>
    if (x7_1.1 == 0) then
      some (.inl (b7_0, x7_1.2.b, x7_1.2.at_, x7_1.2.short))
    else
      some (.inl (false, x7_1.2.b, x7_1.2.at_, x7_1.2.short))
  else
    some (.inr (b7_0, l7_1, i7_2, b7_3))
noncomputable def lp_impl_ztake_fill_7 (s : Bool × (List Int) × Int × Bool) : Option ((Bool × (List Int) × Int × Bool) ⊕ ((Bool × (List Int) × Int × Bool))) := m_impl_ztake_fill_7 s.1 s.2.1 s.2.2.1 s.2.2.2
noncomputable def m_impl_ztake_fill_0 (p0 : S_ztake) : Option (Bool × S_ztake) :=
  (loopM (lp_impl_ztake_fill_7) (true, p0.b, p0.at_, p0.short)).bind fun e => m_impl_ztake_fill_15 e.1 e.2.1 e.2.2.1 e.2.2.2
noncomputable def m_impl_ztake_fill (p0 : S_ztake) : Option (Bool × S_ztake) := m_impl_ztake_fill_0 p0
noncomputable def m_impl_DecodeTones_137 (p0 : (List Int)) (i108_0 : Int) (i42_0 : Int) (i42_1 : Int) (i108_1 : Int) (i32_1 : Int) (i32_2 : Int) (i32_3 : Int) (l85_3 : (List Int)) (l108_5 : (List Int)) (l42_5 : (List (List Int))) (l42_6 : (List (List Int))) (i137_0 : Int) (l137_1 : (List Int)) (i137_2 : Int) (b137_3 : Bool) : Option ((Int × Int × (List Int) × Int × Bool × (List Int)) ⊕ ((((List Int) × Int × Bool × (List Int))) ⊕ ((Int × S_Tones)))) :=
  (ck (decide ((0 : Int) ≤ i108_0))).bind fun _ =>
  (m_impl_ztake_take (S_ztake.mk l137_1 i137_2 b137_3) i108_0).bind fun x137_1 =>
  if x137_1.2.short then
    (m_impl_DecodeTonesC1 2).bind fun x137_3 =>
    some (.inr (.inr (x137_3.1, x137_3.2)))
  else
    if (decide ((orI .u64 (shlI .u64 i137_0 i108_0) x137_1.1) > 2097151)) then
      (m_impl_DecodeTonesC1 5).bind fun x137_4 =>
      some (.inr (.inr (x137_4.1, x137_4.2)))
    else
      (m_impl_Unfold (orI .u64 (shlI .u64 i137_0 i108_0) x137_1.1)).bind fun x137_4 =>
      (ck (decide (l108_5.length + ([x137_4] : List Int).length ≤ 17592186044416))).bind fun _ =>
      some (.inl (i108_0, (w64 (i108_1 + 1)), x137_1.2.b, x137_1.2.at_, x137_1.2.short, (l108_5 ++ ([x137_4] : List Int))))
noncomputable def m_impl_DecodeTones_121 (p0 : (List Int)) (i108_0 : Int) (i42_0 : Int) (i42_1 : Int) (i108_1 : Int) (i32_1 : Int) (i32_2 : Int) (i32_3 : Int) (l85_3 : (List Int)) (l108_5 : (List Int)) (l42_5 : (List (List Int))) (l42_6 : (List (List Int))) (i121_0 : Int) (l121_1 : (List Int)) (i121_2 : Int) (b121_3 : Bool) : Option ((Int × (List Int) × Int × Bool) ⊕ (((Int × (List Int) × Int × Bool)) ⊕ ((Int × S_Tones)))) :=
  (m_impl_ztake_bit (S_ztake.mk l121_1 i121_2 b121_3)).bind fun x121_0 =>
  if (x121_0.1 == 0) then
    if x121_0.2.short then
      some (.inr (.inl (i121_0, x121_0.2.b, x121_0.2.at_, x121_0.2.short)))
    else
      (ck (decide ((0 : Int) ≤ i108_0))).bind fun _ =>
      if (decide ((shlI .u64 (wr .u64 (i121_0 + 1)) i108_0) > 2097151)) then
        (m_impl_DecodeTonesC1 5).bind fun x121_5 =>
        some (.inr (.inr (x121_5.1, x121_5.2)))
      else
        some (.inl ((wr .u64 (i121_0 + 1)), x121_0.2.b, x121_0.2.at_, x121_0.2.short))
  else
    some (.inr (.inl (i121_0, x121_0.2.b, x121_0.2.at_, x121_0.2.short)))
noncomputable def lp_impl_DecodeTones_121 (p0 : (List Int)) (i108_0 : Int) (i42_0 : Int) (i42_1 : Int) (i108_1 : Int) (i32_1 : Int) (i32_2 : Int) (i32_3 : Int) (l85_3 : (List Int)) (l108_5 : (List Int)) (l42_5 : (List (List Int))) (l42_6 : (List (List Int))) (s : Int × (List Int) × Int × Bool) : Option ((Int × (List Int) × Int × Bool) ⊕ (((Int × (List Int) × Int × Bool)) ⊕ ((Int × S_Tones)))) := m_impl_DecodeTones_121 p0 i108_0 i42_0 i42_1 i108_1 i32_1 i32_2 i32_3 l85_3 l108_5 l42_5 l42_6 s.1 s.2.1 s.2.2.1 s.2.2.2
noncomputable def m_impl_DecodeTones_157 (p0 : (List Int)) (i42_0 : Int) (i42_1 : Int) (i32_1 : Int) (i32_2 : Int) (i32_3 : Int) (l85_3 : (List Int)) (l42_5 : (List (List Int))) (l42_6 : (List (List Int))) (l157_0 : (List Int)) (i157_1 : Int) (b157_2 : Bool) (l157_3 : (List Int)) : Option ((Int × Int × (List Int) × Int × Bool × (List (List Int)) × (List (List Int))) ⊕ ((((List Int) × Int × Bool × (List (List Int)) × (List (List Int)))) ⊕ ((Int × S_Tones)))) :=
  (ck (decide (l42_5.length + ([l157_3] : List (List Int)).length ≤ 5864062014805))).bind fun _ =>
  (ck (decide (l42_6.length + ([l85_3] : List (List Int)).length ≤ 5864062014805))).bind fun _ =>
  some (.inl (i42_0, (w64 (i42_1 + 1)), l157_0, i157_1, b157_2, (l42_5 ++ ([l157_3] : List (List Int))), (l42_6 ++ ([l85_3] : List (List Int)))))
noncomputable def m_impl_DecodeTones_108 (p0 : (List Int)) (i42_0 : Int) (i42_1 : Int) (i32_1 : Int) (i32_2 : Int) (i32_3 : Int) (l85_3 : (List Int)) (l42_5 : (List (List Int))) (l42_6 : (List (List Int))) (i108_0 : Int) (i108_1 : Int) (l108_2 : (List Int)) (i108_3 : Int) (b108_4 : Bool) (l108_5 : (List Int)) : Option ((Int × Int × (List Int) × Int × Bool × (List Int)) ⊕ ((((List Int) × Int × Bool × (List Int))) ⊕ ((Int × S_Tones)))) :=
  if (decide (i108_1 < 16)) then
    (loopM (lp_impl_DecodeTones_121 p0 i108_0 i42_0 i42_1 i108_1 i32_1 i32_2 i32_3 l85_3 l108_5 l42_5 l42_6) (0, l108_2, i108_3, b108_4)).bind fun e => match e with | .inl e => m_impl_DecodeTones_137 p0 i108_0 i42_0 i42_1 i108_1 i32_1 i32_2 i32_3 l85_3 l108_5 l42_5 l42_6 e.1 e.2.1 e.2.2.1 e.2.2.2 | .inr e => some (.inr (.inr e))
  else
    some (.inr (.inl (l108_2, i108_3, b108_4, l108_5)))
noncomputable def lp_impl_DecodeTones_108 (p0 : (List Int)) (i42_0 : Int) (i42_1 : Int) (i32_1 : Int) (i32_2 : Int) (i32_3 : Int) (l85_3 : (List Int)) (l42_5 : (List (List Int))) (l42_6 : (List (List Int))) (s : Int × Int × (List Int) × Int × Bool × (List Int)) : Option ((Int × Int × (List Int) × Int × Bool × (List Int)) ⊕ ((((List Int) × Int × Bool × (List Int))) ⊕ ((Int × S_Tones)))) := m_impl_DecodeTones_108 p0 i42_0 i42_1 i32_1 i32_2 i32_3 l85_3 l42_5 l42_6 s.1 s.2.1 s.2.2.1 s.2.2.2.1 s.2.2.2.2.1 s.2.2.2.2.2
noncomputable def m_impl_DecodeTones_85 (p0 : (List Int)) (i42_0 : Int) (i42_1 : Int) (i32_1 : Int) (i32_2 : Int) (i32_3 : Int) (l42_5 : (List (List Int))) (l42_6 : (List (List Int))) (l85_0 : (List Int)) (i85_1 : Int) (b85_2 : Bool) (l85_3 : (List Int)) : Option ((Int × Int × (List Int) × Int × Bool × (List (List Int)) × (List (List Int))) ⊕ ((((List Int) × Int × Bool × (List (List Int)) × (List (List Int)))) ⊕ ((Int × S_Tones)))) :=
  (m_impl_ztake_take (S_ztake.mk l85_0 i85_1 b85_2) 5).bind fun x85_0 =>
  if x85_0.2.short then
    (m_impl_DecodeTonesC1 2).bind fun x85_2 =>
    some (.inr (.inr (x85_2.1, x85_2.2)))
  else
    if (decide ((w64 x85_0.1) > 16)) then
      (m_impl_DecodeTonesC1 5).bind fun x85_3 =>
      some (.inr (.inr (x85_3.1, x85_3.2)))
    else
      (loopM (lp_impl_DecodeTones_108 p0 i42_0 i42_1 i32_1 i32_2 i32_3 l85_3 l42_5 l42_6) ((w64 x85_0.1), 0, x85_0.2.b, x85_0.2.at_, x85_0.2.short, ([] : List Int))).bind fun e => match e with | .inl e => m_impl_DecodeTones_157 p0 i42_0 i42_1 i32_1 i32_2 i32_3 l85_3 l42_5 l42_6 e.1 e.2.1 e.2.2.1 e.2.2.2 | .inr e => some (.inr (.inr e))
noncomputable def m_impl_DecodeTones_57 (p0 : (List Int)) (i42_0 : Int) (i42_1 : Int) (i32_1 : Int) (i32_2 : Int) (i32_3 : Int) (l42_5 : (List (List Int))) (l42_6 : (List (List Int))) (i57_0 : Int) (l57_1 : (List Int)) (i57_2 : Int) (b57_3 : Bool) (l57_4 : (List Int)) : Option ((Int × (List Int) × Int × Bool × (List Int)) ⊕ (((Int × S_Tones)) ⊕ (((List Int) × Int × Bool × (List Int))))) :=
  if (decide (i57_0 < 8)) then
    (m_impl_ztake_take (S_ztake.mk l57_1 i57_2 b57_3) 4).bind fun x57_1 =>
    if x57_1.2.short then
      (m_impl_DecodeTonesC1 2).bind fun x57_3 =>
      some (.inr (.inl (x57_3.1, x57_3.2)))
    else
      if (decide ((w64 x57_1.1) > 12)) then
        (m_impl_DecodeTonesC1 5).bind fun x57_4 =>
        some (.inr (.inl (x57_4.1, x57_4.2)))
      else
        (ck (decide (l57_4.length + ([(w64 x57_1.1)] : List Int).length ≤ 17592186044416))).bind fun _ =>
        some (.inl ((w64 (i57_0 + 1)), x57_1.2.b, x57_1.2.at_, x57_1.2.short, (l57_4 ++ ([(w64 x57_1.1)] : List Int))))
  else
    some (.inr (.inr (l57_1, i57_2, b57_3, l57_4)))
noncomputable def lp_impl_DecodeTones_57 (p0 : (List Int)) (i42_0 : Int) (i42_1 : Int) (i32_1 : Int) (i32_2 : Int) (i32_3 : Int) (l42_5 : (List (List Int))) (l42_6 : (List (List Int))) (s : Int × (List Int) × Int × Bool × (List Int)) : Option ((Int × (List Int) × Int × Bool × (List Int)) ⊕ (((Int × S_Tones)) ⊕ (((List Int) × Int × Bool × (List Int))))) := m_impl_DecodeTones_57 p0 i42_0 i42_1 i32_1 i32_2 i32_3 l42_5 l42_6 s.1 s.2.1 s.2.2.1 s.2.2.2.1 s.2.2.2.2
noncomputable def m_impl_DecodeTones_161 (p0 : (List Int)) (i32_1 : Int) (i32_2 : Int) (i32_3 : Int) (l161_0 : (List Int)) (i161_1 : Int) (b161_2 : Bool) (l161_3 : (List (List Int))) (l161_4 : (List (List Int))) : Option (Int × S_Tones) :=
  (m_impl_ztake_fill (S_ztake.mk l161_0 i161_1 b161_2)).bind fun x161_0 =>
  if x161_0.1 then
    if (decide ((w64 (Int.tdiv x161_0.2.at_ 8)) < (p0.length : Int))) then
      (m_impl_DecodeTonesC1 8).bind fun x161_3 =>
      some (x161_3.1, x161_3.2)
    else
      some (0, (S_Tones.mk i32_1 i32_2 i32_3 l161_3 l161_4))
  else
    (m_impl_DecodeTonesC1 4).bind fun x161_2 =>
    some (x161_2.1, x161_2.2)
noncomputable def m_impl_DecodeTones_42 (p0 : (List Int)) (i32_1 : Int) (i32_2 : Int) (i32_3 : Int) (i42_0 : Int) (i42_1 : Int) (l42_2 : (List Int)) (i42_3 : Int) (b42_4 : Bool) (l42_5 : (List (List Int))) (l42_6 : (List (List Int))) : Option ((Int × Int × (List Int) × Int × Bool × (List (List Int)) × (List (List Int))) ⊕ ((((List Int) × Int × Bool × (List (List Int)) × (List (List Int)))) ⊕ ((Int × S_Tones)))) :=
  if (decide (i42_1 < i42_0)) then
    (loopM (lp_impl_DecodeTones_57 p0 i42_0 i42_1 i32_1 i32_2 i32_3 l42_5 l42_6) (0, l42_2, i42_3, b42_4, ([] : List Int))).bind fun e => match e with | .inl e => some (.inr (.inr e)) | .inr e => m_impl_DecodeTones_85 p0 i42_0 i42_1 i32_1 i32_2 i32_3 l42_5 l42_6 e.1 e.2.1 e.2.2.1 e.2.2.2
  else
    some (.inr (.inl (l42_2, i42_3, b42_4, l42_5, l42_6)))
noncomputable def lp_impl_DecodeTones_42 (p0 : (List Int)) (i32_1 : Int) (i32_2 : Int) (i32_3 : Int) (s : Int × Int × (List Int) × Int × Bool × (List (List Int)) × (List (List Int))) : Option ((Int × Int × (List Int) × Int × Bool × (List (List Int)) × (List (List Int))) ⊕ ((((List Int) × Int × Bool × (List (List Int)) × (List (List Int)))) ⊕ ((Int × S_Tones)))) := m_impl_DecodeTones_42 p0 i32_1 i32_2 i32_3 s.1 s.2.1 s.2.2.1 s.2.2.2.1 s.2.2.2.2.1 s.2.2.2.2.2.1 s.2.2.2.2.2.2
noncomputable def m_impl_DecodeTones_32 (p0 : (List Int)) (x0_7 : Int × S_ztake) (b32_0 : Bool) (i32_1 : Int) (i32_2 : Int) (i32_3 : Int) : Option (Int × S_Tones) :=
  if b32_0 then
    (m_impl_DecodeTonesC1 5).bind fun x32_1 =>
    some (x32_1.1, x32_1.2)
  else
    (loopM (lp_impl_DecodeTones_42 p0 i32_1 i32_2 i32_3) ((w64 ((w64 (Int.tdiv (w64 (i32_3 + 15)) 16)) + 1)), 0, x0_7.2.b, x0_7.2.at_, x0_7.2.short, ([] : List (List Int)), ([] : List (List Int)))).bind fun e => match e with | .inl e => m_impl_DecodeTones_161 p0 i32_1 i32_2 i32_3 e.1 e.2.1 e.2.2.1 e.2.2.2.1 e.2.2.2.2 | .inr e => some e
noncomputable def m_impl_DecodeTones_0 (p0 : (List Int)) : Option (Int × S_Tones) :=
  if (decide ((p0.length : Int) > 60000)) then
    (m_impl_DecodeTonesC1 1).bind fun x0_1 =>
    some (x0_1.1, x0_1.2)
  else
    (m_impl_zmagic p0 (ByteArray.mk #[84, 79, 78, 49])).bind fun x0_1 =>
    if (x0_1 != 0) then
      (m_impl_DecodeTonesC1 x0_1).bind fun x0_3 =>
      some (x0_3.1, x0_3.2)
    else
      if (decide ((p0.length : Int) < 9)) then
        (m_impl_DecodeTonesC1 2).bind fun x0_4 =>
        some (x0_4.1, x0_4.2)
      else
        (m_impl_ztake_take (S_ztake.mk p0 32 false) 20).bind fun x0_4 =>
        (m_impl_ztake_take x0_4.2 4).bind fun x0_5 =>
        (m_impl_ztake_take x0_5.2 12).bind fun x0_6 =>
        (m_impl_ztake_take x0_6.2 4).bind fun x0_7 =>
        if (x0_7.1 != 0) then
          m_impl_DecodeTones_32 p0 x0_7 true (w64 x0_4.1) (w64 x0_5.1) (w64 x0_6.1)
        else
          if (decide ((w64 x0_4.1) < 1)) then
            m_impl_DecodeTones_32 p0 x0_7 true (w64 x0_4.1) (w64 x0_5.1) (w64 x0_6.1)
          else
            if (decide ((w64 x0_4.1) > 1000000)) then
              m_impl_DecodeTones_32 p0 x0_7 true (w64 x0_4.1) (w64 x0_5.1) (w64 x0_6.1)
            else
              m_impl_DecodeTones_32 p0 x0_7 (decide ((w64 x0_6.1) > 4000)) (w64 x0_4.1) (w64 x0_5.1) (w64 x0_6.1)
noncomputable def m_impl_DecodeTones (p0 : (List Int)) : Option (Int × S_Tones) := m_impl_DecodeTones_0 p0
noncomputable def m_laws_eqIntS_31 : Option (Bool) :=
  some true
noncomputable def m_laws_eqIntS_15 (p0 : (List Int)) (p1 : (List Int)) (i15_0 : Int) : Option ((Int) ⊕ ((Bool) ⊕ ((Unit)))) :=
  if (decide (i15_0 < (p0.length : Int))) then
    (rd p0 i15_0).bind fun x15_1 =>
    (rd p1 i15_0).bind fun x15_2 =>
    if (x15_1 != x15_2) then
      some (.inr (.inl false))
    else
      some (.inl (w64 (i15_0 + 1)))
  else
    some (.inr (.inr ()))
noncomputable def lp_laws_eqIntS_15 (p0 : (List Int)) (p1 : (List Int)) (s : Int) : Option ((Int) ⊕ ((Bool) ⊕ ((Unit)))) := m_laws_eqIntS_15 p0 p1 s
noncomputable def m_laws_eqIntS_0 (p0 : (List Int)) (p1 : (List Int)) : Option (Bool) :=
  if ((p0.length : Int) != (p1.length : Int)) then
    some false
  else
    (loopM (lp_laws_eqIntS_15 p0 p1) 0).bind fun e => match e with | .inl e => some e | .inr e => m_laws_eqIntS_31
noncomputable def m_laws_eqIntS (p0 : (List Int)) (p1 : (List Int)) : Option (Bool) := m_laws_eqIntS_0 p0 p1
noncomputable def m_laws_eqIntSS_31 : Option (Bool) :=
  some true
noncomputable def m_laws_eqIntSS_15 (p0 : (List (List Int))) (p1 : (List (List Int))) (i15_0 : Int) : Option ((Int) ⊕ ((Bool) ⊕ ((Unit)))) :=
  if (decide (i15_0 < (p0.length : Int))) then
    (rd p0 i15_0).bind fun x15_1 =>
    (rd p1 i15_0).bind fun x15_2 =>
    (m_laws_eqIntS x15_1 x15_2).bind fun x15_3 =>
    if x15_3 then
      some (.inl (w64 (i15_0 + 1)))
    else
      some (.inr (.inl false))
  else
    some (.inr (.inr ()))
noncomputable def lp_laws_eqIntSS_15 (p0 : (List (List Int))) (p1 : (List (List Int))) (s : Int) : Option ((Int) ⊕ ((Bool) ⊕ ((Unit)))) := m_laws_eqIntSS_15 p0 p1 s
noncomputable def m_laws_eqIntSS_0 (p0 : (List (List Int))) (p1 : (List (List Int))) : Option (Bool) :=
  if ((p0.length : Int) != (p1.length : Int)) then
    some false
  else
    (loopM (lp_laws_eqIntSS_15 p0 p1) 0).bind fun e => match e with | .inl e => some e | .inr e => m_laws_eqIntSS_31
noncomputable def m_laws_eqIntSS (p0 : (List (List Int))) (p1 : (List (List Int))) : Option (Bool) := m_laws_eqIntSS_0 p0 p1
noncomputable def m_laws_eqTones_0 (p0 : S_Tones) (p1 : S_Tones) : Option (Bool) :=
  if (p0.rate != p1.rate) then
    some false
  else
    if (p0.quality != p1.quality) then
      some false
    else
      if (p0.length != p1.length) then
        some false
      else
        (m_laws_eqIntSS p0.slots p1.slots).bind fun x0_3 =>
        if x0_3 then
          (m_laws_eqIntSS p0.grades p1.grades).bind fun x0_5 =>
          if x0_5 then
            some true
          else
            some false
        else
          some false
noncomputable def m_laws_eqTones (p0 : S_Tones) (p1 : S_Tones) : Option (Bool) := m_laws_eqTones_0 p0 p1
noncomputable def m_laws_eqByteS_31 : Option (Bool) :=
  some true
noncomputable def m_laws_eqByteS_15 (p0 : (List Int)) (p1 : (List Int)) (i15_0 : Int) : Option ((Int) ⊕ ((Bool) ⊕ ((Unit)))) :=
  if (decide (i15_0 < (p0.length : Int))) then
    (rd p0 i15_0).bind fun x15_1 =>
    (rd p1 i15_0).bind fun x15_2 =>
    if (x15_1 != x15_2) then
      some (.inr (.inl false))
    else
      some (.inl (w64 (i15_0 + 1)))
  else
    some (.inr (.inr ()))
noncomputable def lp_laws_eqByteS_15 (p0 : (List Int)) (p1 : (List Int)) (s : Int) : Option ((Int) ⊕ ((Bool) ⊕ ((Unit)))) := m_laws_eqByteS_15 p0 p1 s
noncomputable def m_laws_eqByteS_0 (p0 : (List Int)) (p1 : (List Int)) : Option (Bool) :=
  if ((p0.length : Int) != (p1.length : Int)) then
    some false
  else
    (loopM (lp_laws_eqByteS_15 p0 p1) 0).bind fun e => match e with | .inl e => some e | .inr e => m_laws_eqByteS_31
noncomputable def m_laws_eqByteS (p0 : (List Int)) (p1 : (List Int)) : Option (Bool) := m_laws_eqByteS_0 p0 p1
noncomputable def m_laws_markByteS_19 (i19_0 : Int) (l19_1 : (List Int)) : Option (Int × (List Int)) :=
  some (i19_0, l19_1)
noncomputable def m_laws_markByteS_7 (i7_0 : Int) (i7_1 : Int) (l7_2 : (List Int)) : Option ((Int × Int × (List Int)) ⊕ ((Int × (List Int)))) :=
  if (decide (i7_1 < (l7_2.length : Int))) then
    (rd l7_2 i7_1).bind fun _ =>
    some (.inl ((w64 (i7_0 + 1)), (w64 (i7_1 + 1)), (l7_2.set (0 + Int.toNat i7_1) (wr .u8 i7_0))))
  else
    some (.inr (i7_0, l7_2))
noncomputable def lp_laws_markByteS_7 (s : Int × Int × (List Int)) : Option ((Int × Int × (List Int)) ⊕ ((Int × (List Int)))) := m_laws_markByteS_7 s.1 s.2.1 s.2.2
noncomputable def m_laws_markByteS_0 (p1 : Int) (p0 : (List Int)) : Option (Int × (List Int)) :=
  (loopM (lp_laws_markByteS_7) (p1, 0, p0)).bind fun e => m_laws_markByteS_19 e.1 e.2
noncomputable def m_laws_markByteS (p0 : (List Int)) (p1 : Int) : Option (Int × (List Int)) := m_laws_markByteS_0 p1 p0
noncomputable def m_laws_markIntS_19 (i19_0 : Int) (l19_1 : (List Int)) : Option (Int × (List Int)) :=
  some (i19_0, l19_1)
noncomputable def m_laws_markIntS_7 (i7_0 : Int) (i7_1 : Int) (l7_2 : (List Int)) : Option ((Int × Int × (List Int)) ⊕ ((Int × (List Int)))) :=
  if (decide (i7_1 < (l7_2.length : Int))) then
    (rd l7_2 i7_1).bind fun _ =>
    some (.inl ((w64 (i7_0 + 1)), (w64 (i7_1 + 1)), (l7_2.set (0 + Int.toNat i7_1) i7_0)))
  else
    some (.inr (i7_0, l7_2))
noncomputable def lp_laws_markIntS_7 (s : Int × Int × (List Int)) : Option ((Int × Int × (List Int)) ⊕ ((Int × (List Int)))) := m_laws_markIntS_7 s.1 s.2.1 s.2.2
noncomputable def m_laws_markIntS_0 (p1 : Int) (p0 : (List Int)) : Option (Int × (List Int)) :=
  (loopM (lp_laws_markIntS_7) (p1, 0, p0)).bind fun e => m_laws_markIntS_19 e.1 e.2
noncomputable def m_laws_markIntS (p0 : (List Int)) (p1 : Int) : Option (Int × (List Int)) := m_laws_markIntS_0 p1 p0
noncomputable def m_laws_markIntSS_17 (i17_0 : Int) (l17_1 : (List (List Int))) : Option (Int × (List (List Int))) :=
  some (i17_0, l17_1)
noncomputable def m_laws_markIntSS_7 (i7_0 : Int) (i7_1 : Int) (l7_2 : (List (List Int))) : Option ((Int × Int × (List (List Int))) ⊕ ((Int × (List (List Int))))) :=
  if (decide (i7_1 < (l7_2.length : Int))) then
    (rd l7_2 i7_1).bind fun x7_1 =>
    (m_laws_markIntS x7_1 i7_0).bind fun x7_2 =>
    (ck (decide (x7_2.2.length = x7_1.length))).bind fun _ =>
    some (.inl (x7_2.1, (w64 (i7_1 + 1)), (l7_2.set (0 + Int.toNat i7_1) x7_2.2)))
  else
    some (.inr (i7_0, l7_2))
noncomputable def lp_laws_markIntSS_7 (s : Int × Int × (List (List Int))) : Option ((Int × Int × (List (List Int))) ⊕ ((Int × (List (List Int))))) := m_laws_markIntSS_7 s.1 s.2.1 s.2.2
noncomputable def m_laws_markIntSS_0 (p1 : Int) (p0 : (List (List Int))) : Option (Int × (List (List Int))) :=
  (loopM (lp_laws_markIntSS_7) (p1, 0, p0)).bind fun e => m_laws_markIntSS_17 e.1 e.2
noncomputable def m_laws_markIntSS (p0 : (List (List Int))) (p1 : Int) : Option (Int × (List (List Int))) := m_laws_markIntSS_0 p1 p0
noncomputable def m_laws_markTones_0 (p0 : S_Tones) (p1 : Int) : Option (Int × S_Tones) :=
  (m_laws_markIntSS p0.slots p1).bind fun x0_0 =>
  (ck (decide (x0_0.2.length = p0.slots.length))).bind fun _ =>
  (m_laws_markIntSS p0.grades x0_0.1).bind fun x0_2 =>
  (ck (decide (x0_2.2.length = p0.grades.length))).bind fun _ =>
  some (x0_2.1, (S_Tones.mk p0.rate p0.quality p0.length x0_0.2 x0_2.2))
noncomputable def m_laws_markTones (p0 : S_Tones) (p1 : Int) : Option (Int × S_Tones) := m_laws_markTones_0 p0 p1
noncomputable def m_laws_heldIntS_25 (i25_0 : Int) : Option (Int) :=
  some i25_0
noncomputable def m_laws_heldIntS_7 (p0 : (List Int)) (i7_0 : Int) (i7_1 : Int) : Option ((Int × Int) ⊕ ((Int) ⊕ ((Int)))) :=
  if (decide (i7_1 < (p0.length : Int))) then
    (rd p0 i7_1).bind fun x7_1 =>
    if (x7_1 != i7_0) then
      some (.inr (.inl (-1)))
    else
      some (.inl ((w64 (i7_0 + 1)), (w64 (i7_1 + 1))))
  else
    some (.inr (.inr i7_0))
noncomputable def lp_laws_heldIntS_7 (p0 : (List Int)) (s : Int × Int) : Option ((Int × Int) ⊕ ((Int) ⊕ ((Int)))) := m_laws_heldIntS_7 p0 s.1 s.2
noncomputable def m_laws_heldIntS_0 (p0 : (List Int)) (p1 : Int) : Option (Int) :=
  (loopM (lp_laws_heldIntS_7 p0) (p1, 0)).bind fun e => match e with | .inl e => some e | .inr e => m_laws_heldIntS_25 e
noncomputable def m_laws_heldIntS (p0 : (List Int)) (p1 : Int) : Option (Int) := m_laws_heldIntS_0 p0 p1
noncomputable def m_laws_heldIntSS_25 (i25_0 : Int) : Option (Int) :=
  some i25_0
noncomputable def m_laws_heldIntSS_7 (p0 : (List (List Int))) (i7_0 : Int) (i7_1 : Int) : Option ((Int × Int) ⊕ ((Int) ⊕ ((Int)))) :=
  if (decide (i7_1 < (p0.length : Int))) then
    (rd p0 i7_1).bind fun x7_1 =>
    (m_laws_heldIntS x7_1 i7_0).bind fun x7_2 =>
    if (decide (x7_2 < 0)) then
      some (.inr (.inl (-1)))
    else
      some (.inl (x7_2, (w64 (i7_1 + 1))))
  else
    some (.inr (.inr i7_0))
noncomputable def lp_laws_heldIntSS_7 (p0 : (List (List Int))) (s : Int × Int) : Option ((Int × Int) ⊕ ((Int) ⊕ ((Int)))) := m_laws_heldIntSS_7 p0 s.1 s.2
noncomputable def m_laws_heldIntSS_0 (p0 : (List (List Int))) (p1 : Int) : Option (Int) :=
  (loopM (lp_laws_heldIntSS_7 p0) (p1, 0)).bind fun e => match e with | .inl e => some e | .inr e => m_laws_heldIntSS_25 e
noncomputable def m_laws_heldIntSS (p0 : (List (List Int))) (p1 : Int) : Option (Int) := m_laws_heldIntSS_0 p0 p1
noncomputable def m_laws_heldTones_0 (p0 : S_Tones) (p1 : Int) : Option (Int) :=
  (m_laws_heldIntSS p0.slots p1).bind fun x0_0 =>
  if (decide (x0_0 < 0)) then
    some (-1)
  else
    (m_laws_heldIntSS p0.grades x0_0).bind fun x0_2 =>
    if (decide (x0_2 < 0)) then
      some (-1)
    else
      some x0_2
noncomputable def m_laws_heldTones (p0 : S_Tones) (p1 : Int) : Option (Int) := m_laws_heldTones_0 p0 p1
noncomputable def m_laws_FnExactDecodeTones_0 (p0 : (List Int)) : Option (Bool) :=
  if (decide ((p0.length : Int) > 1048576)) then
    some true
  else
    (m_laws_toByteS p0).bind fun x0_1 =>
    (m_spec_DecodeTones x0_1).bind fun x0_2 =>
    (m_impl_DecodeTones x0_1).bind fun x0_3 =>
    if (x0_3.1 != x0_2.1) then
      some false
    else
      (m_laws_eqTones x0_3.2 x0_2.2).bind fun x0_5 =>
      if x0_5 then
        (m_laws_eqByteS x0_1 x0_1).bind fun x0_7 =>
        if x0_7 then
          (m_laws_markByteS x0_1 1).bind fun x0_9 =>
          (ck (decide (x0_9.2.length = x0_1.length))).bind fun _ =>
          if (decide (x0_9.1 < 0)) then
            some false
          else
            (m_laws_markTones x0_3.2 1).bind fun x0_12 =>
            (ck (decide (x0_12.2.slots.length = x0_3.2.slots.length))).bind fun _ =>
            (ck (decide (x0_12.2.grades.length = x0_3.2.grades.length))).bind fun _ =>
            (m_laws_heldTones (S_Tones.mk x0_3.2.rate x0_3.2.quality x0_3.2.length x0_12.2.slots x0_12.2.grades) 1).bind fun x0_15 =>
            if (decide (x0_15 < 0)) then
              some false
            else
              if (x0_15 != x0_12.1) then
                some false
              else
                some true
        else
          some false
      else
        some false
noncomputable def m_laws_FnExactDecodeTones (p0 : (List Int)) : Option (Bool) := m_laws_FnExactDecodeTones_0 p0
end Go.Proofs.V

/- The tones' law of decoding: the two readers of bits read alike. -/
set_option linter.unusedVariables false
set_option linter.unusedSimpArgs false
namespace Go.Proofs.V
open Go

def bAt (b : List Int) (i : Nat) : Nat := ((b.getD (i / 8) 0).toNat / 2 ^ (7 - i % 8)) % 2
def bV (b : List Int) (p : Nat) : Nat → Nat
  | 0 => 0
  | n + 1 => 2 * bV b p n + bAt b (p + n)
def ByteL (b : List Int) : Prop := b.length ≤ 60000 ∧ ∀ x ∈ b, 0 ≤ x ∧ x ≤ 255

theorem bAt_lt (b : List Int) (i : Nat) : bAt b i < 2 := Nat.mod_lt _ (by decide)
theorem bV_lt (b : List Int) (p : Nat) : ∀ n, bV b p n < 2 ^ n
  | 0 => by simp [bV]
  | n + 1 => by have := bV_lt b p n; have := bAt_lt b (p + n); simp only [bV, Nat.pow_succ]; omega

theorem and_one8 (n : Nat) (h : n ≤ 255) : andI .u8 (n : Int) 1 = ((n % 2 : Nat) : Int) := by
  unfold andI
  have h1 : (BitVec.ofInt IntKind.u8.bits (n : Int) &&& BitVec.ofInt IntKind.u8.bits 1).toNat = n % 2 := by
    show (BitVec.ofInt 8 (n : Int) &&& BitVec.ofNat 8 1).toNat = n % 2
    rw [BitVec.ofInt_natCast, BitVec.toNat_and, BitVec.toNat_ofNat, BitVec.toNat_ofNat, Nat.mod_eq_of_lt (by omega : n < 2 ^ 8)]
    exact Nat.and_one_is_mod n
  rw [h1]
  exact wu8_id (by omega) (by omega)
theorem and_one64 (n : Nat) (h : n ≤ 255) : andI .u64 (n : Int) 1 = ((n % 2 : Nat) : Int) := by
  unfold andI
  have h1 : (BitVec.ofInt IntKind.u64.bits (n : Int) &&& BitVec.ofInt IntKind.u64.bits 1).toNat = n % 2 := by
    show (BitVec.ofInt 64 (n : Int) &&& BitVec.ofNat 64 1).toNat = n % 2
    rw [BitVec.ofInt_natCast, BitVec.toNat_and, BitVec.toNat_ofNat, BitVec.toNat_ofNat, Nat.mod_eq_of_lt (by omega : n < 2 ^ 64)]
    exact Nat.and_one_is_mod n
  rw [h1]
  exact wu64_id (by omega) (by omega)
theorem shr8 (n k : Nat) (hk : k ≤ 8) : shrI .u8 (n : Int) (k : Int) = ((n / 2 ^ k : Nat) : Int) := by
  unfold shrI
  have : min (k : Int).toNat IntKind.u8.bits = k := by simp [IntKind.bits]; omega
  rw [this, Int.fdiv_eq_ediv_of_nonneg _ (by have : (0 : Int) < 2 ^ k := Int.pow_pos (by decide); omega)]
  simp

theorem byte_get {b : List Int} (hb : ByteL b) {i : Nat} (h : i < b.length) : ∃ n : Nat, b[i] = (n : Int) ∧ b.getD i 0 = (n : Int) ∧ n ≤ 255 := by
  have h1 := hb.2 b[i] (List.getElem_mem h)
  refine ⟨b[i].toNat, by omega, ?_, by omega⟩
  rw [List.getD_eq_getElem?_getD, List.getElem?_eq_getElem h]
  simp only [Option.getD_some]
  omega
theorem div8d {n : Nat} (h : n ≤ 35184372088832) : w64 (Int.tdiv (n : Int) 8) = ((n / 8 : Nat) : Int) := by
  rw [Int.tdiv_eq_ediv_of_nonneg (by omega), w64_id (by omega) (by omega)]
  omega
theorem mod8d (n : Nat) : Int.tmod (n : Int) 8 = ((n % 8 : Nat) : Int) := by
  rw [Int.tmod_eq_emod_of_nonneg (by omega)]
  omega

theorem z_bit {b : List Int} (hb : ByteL b) (p : Nat) (sh : Bool) (hp : p ≤ 8 * b.length) : m_impl_ztake_bit ⟨b, p, sh⟩ =
    if p < 8 * b.length then some (((bAt b p : Nat) : Int), S_ztake.mk b ((p + 1 : Nat) : Int) sh) else some (0, S_ztake.mk b (p : Int) true) := by
  have hl := hb.1
  unfold m_impl_ztake_bit m_impl_ztake_bit_0
  have e8 : w64 (8 * (b.length : Int)) = ((8 * b.length : Nat) : Int) := by rw [w64_id (by omega) (by omega)]; omega
  simp only [e8, decide_eq_true_eq]
  by_cases h : p < 8 * b.length
  · rw [if_neg (by omega), if_pos h, div8d (by omega)]
    obtain ⟨n, e1, e2, e3⟩ := byte_get hb (i := p / 8) (by omega)
    rw [rd_eq (by omega : p / 8 < b.length), e1, mod8d]
    have e7 : w64 (7 - ((p % 8 : Nat) : Int)) = ((7 - p % 8 : Nat) : Int) := by rw [w64_id (by omega) (by omega)]; omega
    simp only [Option.bind_some, e7]
    rw [ck_eq (by omega)]
    simp only [Option.bind_some]
    rw [shr8 _ _ (by omega), and_one8 _ (Nat.le_trans (Nat.div_le_self _ _) e3), w64_id (by omega) (by omega), w64_id (by omega) (by omega)]
    unfold bAt
    rw [e2]
    simp
  · rw [if_pos (by omega), if_neg h]

theorem or_nat (a v k : Nat) (hv : v < 2 ^ k) : a * 2 ^ k ||| v = a * 2 ^ k + v := by
  rw [← Nat.shiftLeft_eq, Nat.shiftLeft_add_eq_or_of_lt hv]
theorem or64 (a v : Nat) (ha : a < 2 ^ 63) (hv : v < 2 ^ 63) : orI .u64 (a : Int) (v : Int) = ((a ||| v : Nat) : Int) := by
  have hor : a ||| v < 2 ^ 63 := Nat.or_lt_two_pow ha hv
  unfold orI
  have h1 : (BitVec.ofInt IntKind.u64.bits (a : Int) ||| BitVec.ofInt IntKind.u64.bits (v : Int)).toNat = a ||| v := by
    show (BitVec.ofInt 64 (a : Int) ||| BitVec.ofInt 64 (v : Int)).toNat = a ||| v
    rw [BitVec.ofInt_natCast, BitVec.ofInt_natCast, BitVec.toNat_or, BitVec.toNat_ofNat, BitVec.toNat_ofNat, Nat.mod_eq_of_lt (by omega : a < 2 ^ 64), Nat.mod_eq_of_lt (by omega : v < 2 ^ 64)]
  rw [h1]
  exact wu64_id (by omega) (by omega)
theorem or64i (a v : Nat) (ha : a < 2 ^ 63) (hv : v < 2 ^ 63) : orI .i64 (a : Int) (v : Int) = ((a ||| v : Nat) : Int) := by
  have hor : a ||| v < 2 ^ 63 := Nat.or_lt_two_pow ha hv
  unfold orI
  have h1 : (BitVec.ofInt IntKind.i64.bits (a : Int) ||| BitVec.ofInt IntKind.i64.bits (v : Int)).toNat = a ||| v := by
    show (BitVec.ofInt 64 (a : Int) ||| BitVec.ofInt 64 (v : Int)).toNat = a ||| v
    rw [BitVec.ofInt_natCast, BitVec.ofInt_natCast, BitVec.toNat_or, BitVec.toNat_ofNat, BitVec.toNat_ofNat, Nat.mod_eq_of_lt (by omega : a < 2 ^ 64), Nat.mod_eq_of_lt (by omega : v < 2 ^ 64)]
  rw [h1]
  exact w64_id (by omega) (by omega)
theorem shl64 (a k : Nat) (hk : k ≤ 64) (h : a * 2 ^ k < 2 ^ 63) : shlI .u64 (a : Int) (k : Int) = ((a * 2 ^ k : Nat) : Int) := by
  unfold shlI
  have : min (Int.toNat (k : Int)) IntKind.u64.bits = k := by simp [IntKind.bits]; omega
  rw [this]
  have e : (a : Int) * 2 ^ k = ((a * 2 ^ k : Nat) : Int) := by simp
  rw [e]
  exact wu64_id (by omega) (by omega)
theorem shl64i (a k : Nat) (hk : k ≤ 64) (h : a * 2 ^ k < 2 ^ 63) : shlI .i64 (a : Int) (k : Int) = ((a * 2 ^ k : Nat) : Int) := by
  unfold shlI
  have : min (Int.toNat (k : Int)) IntKind.i64.bits = k := by simp [IntKind.bits]; omega
  rw [this]
  have e : (a : Int) * 2 ^ k = ((a * 2 ^ k : Nat) : Int) := by simp
  rw [e]
  exact w64_id (by omega) (by omega)

theorem s_bit {b : List Int} (hb : ByteL b) (p : Nat) (hp : p < 8 * b.length) : m_spec_l1Bit b (p : Int) true = some ((bAt b p : Nat) : Int) := by
  have hl := hb.1
  unfold m_spec_l1Bit m_spec_l1Bit_0
  rw [if_pos rfl, div8d (by omega)]
  obtain ⟨n, e1, e2, e3⟩ := byte_get hb (i := p / 8) (by omega)
  unfold bAt
  rw [rd_eq (by omega : p / 8 < b.length), e1, e2, mod8d, Int.toNat_natCast]
  have e7 : w64 (7 - ((p % 8 : Nat) : Int)) = ((7 - p % 8 : Nat) : Int) := by rw [w64_id (by omega) (by omega)]; omega
  have e7' : wr .u64 ((7 - p % 8 : Nat) : Int) = ((7 - p % 8 : Nat) : Int) := wu64_id (by omega) (by omega)
  simp only [Option.bind_some, e7, e7']
  rw [ck_eq (by omega)]
  simp only [Option.bind_some]
  have hd : n / 2 ^ (7 - p % 8) ≤ 255 := Nat.le_trans (Nat.div_le_self _ _) e3
  rw [shr8 _ _ (by omega)]
  generalize n / 2 ^ (7 - p % 8) = m at hd
  rw [wu64_id (by omega) (by omega), and_one64 _ hd]

/-- what a reader takes -/
theorem z_take {b : List Int} (hb : ByteL b) (p k : Nat) (sh : Bool) (hp : p ≤ 8 * b.length) (hk : k ≤ 20) (h : p + k ≤ 8 * b.length) :
    m_impl_ztake_take ⟨b, p, sh⟩ k = some (((bV b p k : Nat) : Int), S_ztake.mk b ((p + k : Nat) : Int) sh) := by
  have hl := hb.1
  unfold m_impl_ztake_take m_impl_ztake_take_0
  have key : loopM (lp_impl_ztake_take_9 (k : Int)) (0, 0, b, (p : Int), sh) = some (((bV b p k : Nat) : Int), b, ((p + k : Nat) : Int), sh) := by
   refine loopM_fun (fun i (s : Nat) => ((s : Int), (i : Int), b, ((p + i : Nat) : Int), sh)) k (fun i => bV b p i) (e := (((bV b p k : Nat) : Int), b, ((p + k : Nat) : Int), sh)) (fun i hi => ?_) ?_
   · have h1 := bV_lt b p i
     have h2 : 2 ^ i ≤ 2 ^ 20 := Nat.pow_le_pow_right (by decide) (by omega)
     have h3 := bAt_lt b (p + i)
     simp only [lp_impl_ztake_take_9, m_impl_ztake_take_9, decide_eq_true_eq]
     rw [if_pos (by omega), z_bit hb (p + i) sh (by omega), if_pos (by omega)]
     simp only [Option.bind_some]
     have e1 := shl64 (bV b p i) 1 (by omega) (by omega)
     have e2 : wr .u64 ((bAt b (p + i) : Nat) : Int) = ((bAt b (p + i) : Nat) : Int) := wu64_id (by omega) (by omega)
     rw [show ((1 : Nat) : Int) = 1 from rfl] at e1
     rw [e1, e2, or64 _ _ (by omega) (by omega), or_nat _ _ 1 (by omega), w64_succ (by omega)]
     simp only [bV]
     congr 4
     omega
   · simp only [lp_impl_ztake_take_9, m_impl_ztake_take_9, decide_eq_true_eq]
     rw [if_neg (by omega)]
  show (loopM (lp_impl_ztake_take_9 (k : Int)) (0, 0, b, (p : Int), sh)).bind _ = _
  rw [key]
  rfl
end Go.Proofs.V

/- The tones' law of decoding: the spec's reader; readers that run short. -/
set_option linter.unusedVariables false
set_option linter.unusedSimpArgs false
namespace Go.Proofs.V
open Go

theorem s_l1 {b : List Int} (hb : ByteL b) (p k : Nat) (hp : p ≤ 8 * b.length) (hk : k ≤ 20) : m_spec_l1Take b (p : Int) (k : Int) true =
    if p + k ≤ 8 * b.length then some (S_Number.mk true ((bV b p k : Nat) : Int) ((p + k : Nat) : Int)) else some (S_Number.mk false 0 0) := by
  have hl := hb.1
  have e8 : w64 (8 * (b.length : Int)) = ((8 * b.length : Nat) : Int) := by rw [w64_id (by omega) (by omega)]; omega
  have e9 : w64 (((8 * b.length : Nat) : Int) - (p : Int)) = ((8 * b.length - p : Nat) : Int) := by rw [w64_id (by omega) (by omega)]; omega
  unfold m_spec_l1Take m_spec_l1Take_0
  simp only [decide_eq_true_eq, e8, e9]
  rw [if_neg (by omega), if_neg (by omega), if_neg (by omega), if_neg (by omega)]
  unfold m_spec_l1Take_5
  by_cases h : p + k ≤ 8 * b.length
  · rw [if_pos h, if_neg (by simp only [decide_eq_true_eq]; omega)]
    have key : loopM (lp_spec_l1Take_17 b (p : Int) (k : Int) true) (0, 0) = some ((bV b p k : Nat) : Int) := by
      refine loopM_fun (fun i (s : Nat) => ((s : Int), (i : Int))) k (fun i => bV b p i) (e := ((bV b p k : Nat) : Int)) (fun i hi => ?_) ?_
      · have h1 := bV_lt b p i
        have h2 : 2 ^ i ≤ 2 ^ 20 := Nat.pow_le_pow_right (by decide) (by omega)
        have h3 := bAt_lt b (p + i)
        simp only [lp_spec_l1Take_17, m_spec_l1Take_17, decide_eq_true_eq]
        have e0 : w64 ((p : Int) + (i : Int)) = ((p + i : Nat) : Int) := by rw [w64_id (by omega) (by omega)]; omega
        rw [if_pos (by omega), e0, s_bit hb (p + i) (by omega)]
        simp only [Option.bind_some, if_true]
        have e1 : wr .u64 (((bV b p i : Nat) : Int) * 2) = ((bV b p i * 2 : Nat) : Int) := by rw [wu64_id (by omega) (by omega)]; omega
        have e2 : wr .u64 (((bV b p i * 2 : Nat) : Int) + ((bAt b (p + i) : Nat) : Int)) = ((bV b p (i + 1) : Nat) : Int) := by
          simp only [bV]
          rw [wu64_id (by omega) (by omega)]; omega
        rw [e1, e2, w64_succ (by omega)]
      · simp only [lp_spec_l1Take_17, m_spec_l1Take_17, decide_eq_true_eq]
        rw [if_neg (by omega)]
    rw [key]
    simp only [Option.bind_some, m_spec_l1Take_33]
    rw [w64_id (by omega) (by omega)]
    congr 2
  · rw [if_neg h, if_pos (by simp only [decide_eq_true_eq]; omega)]

/-- the error that stands -/
def stand (e n : Int) : Int := if e = 0 then n else e
theorem s_fail (b : List Int) (p e n : Int) : m_spec_l10R_fail ⟨b, p, e⟩ n = some ⟨b, p, stand e n⟩ := by
  unfold m_spec_l10R_fail m_spec_l10R_fail_0 stand
  by_cases h : e = 0
  · subst h; rfl
  · simp [h]
theorem s_take {b : List Int} (hb : ByteL b) (p k : Nat) (e : Int) (hp : p ≤ 8 * b.length) (hk : k ≤ 20) : m_spec_l10R_take ⟨b, p, e⟩ k =
    if e = 0 then (if p + k ≤ 8 * b.length then some (((bV b p k : Nat) : Int), S_l10R.mk b ((p + k : Nat) : Int) 0) else some (0, S_l10R.mk b (p : Int) 2)) else some (0, S_l10R.mk b (p : Int) e) := by
  have h1 := bV_lt b p k
  have h2 : 2 ^ k ≤ 2 ^ 20 := Nat.pow_le_pow_right (by decide) (by omega)
  unfold m_spec_l10R_take m_spec_l10R_take_0
  simp only [s_l1 hb p k hp hk, s_fail]
  by_cases h : p + k ≤ 8 * b.length
  · by_cases he : e = 0
    · subst he
      simp only [if_pos h, Option.bind_some, if_true, m_spec_l10R_take_10]
      simp
      exact w64_id (by omega) (by omega)
    · simp only [if_pos h, Option.bind_some, if_true, m_spec_l10R_take_10, if_neg he]
      simp [he]
  · by_cases he : e = 0
    · subst he
      simp only [if_neg h, Option.bind_some, m_spec_l10R_take_10, stand]
      simp
    · simp only [if_neg h, Option.bind_some, m_spec_l10R_take_10, stand, if_neg he]
      simp [he]
end Go.Proofs.V

/- The tones' law of decoding: what is read short; the marks. -/
set_option linter.unusedVariables false
set_option linter.unusedSimpArgs false
namespace Go.Proofs.V
open Go

theorem z_short {b : List Int} (hb : ByteL b) (p k : Nat) (sh : Bool) (hp : p ≤ 8 * b.length) (hk : k ≤ 20) (h : ¬ p + k ≤ 8 * b.length) :
    ∃ v : Int, m_impl_ztake_take ⟨b, p, sh⟩ k = some (v, S_ztake.mk b ((8 * b.length : Nat) : Int) true) := by
  have hl := hb.1
  obtain ⟨e, key, hR⟩ : ∃ e, loopM (lp_impl_ztake_take_9 (k : Int)) (0, 0, b, (p : Int), sh) = some e ∧ e.2 = (b, ((8 * b.length : Nat) : Int), true) := by
    refine loopM_inv (fun i (s : Int × Nat × Bool) => (s.1, (i : Int), b, (s.2.1 : Int), s.2.2)) k (fun i s => s.2.1 = min (p + i) (8 * b.length) ∧ (8 * b.length < p + i → s.2.2 = true)) (fun (e : Int × List Int × Int × Bool) => e.2 = (b, ((8 * b.length : Nat) : Int), true)) (fun i s hi hI => .inl ?_) (fun s hI => ?_) (s := ((0 : Int), p, sh)) ?_
    · obtain ⟨v, q, t⟩ := s
      obtain ⟨h1, h2⟩ := hI
      simp only at h1 h2
      simp only [lp_impl_ztake_take_9, m_impl_ztake_take_9, decide_eq_true_eq]
      rw [if_pos (by omega), z_bit hb q t (by omega)]
      by_cases hq : q < 8 * b.length
      · rw [if_pos hq]
        simp only [Option.bind_some]
        rw [w64_succ (by omega)]
        exact ⟨(_, q + 1, t), rfl, by simp only; omega, fun h => by omega⟩
      · rw [if_neg hq]
        simp only [Option.bind_some]
        rw [w64_succ (by omega)]
        exact ⟨(_, q, true), rfl, by simp only; omega, fun h => rfl⟩
    · obtain ⟨v, q, t⟩ := s
      obtain ⟨h1, h2⟩ := hI
      simp only at h1 h2
      simp only [lp_impl_ztake_take_9, m_impl_ztake_take_9, decide_eq_true_eq]
      rw [if_neg (by omega)]
      refine ⟨_, rfl, ?_⟩
      have e1 : min (p + k) (8 * b.length) = 8 * b.length := by omega
      rw [h2 (by omega), h1, e1]
    · exact ⟨by simp only; omega, fun h => by omega⟩
  refine ⟨e.1, ?_⟩
  show (loopM (lp_impl_ztake_take_9 (k : Int)) (0, 0, b, (p : Int), sh)).bind _ = _
  rw [key]
  simp only [Option.bind_some, m_impl_ztake_take_19, hR]
end Go.Proofs.V

/- The tones' law of decoding: unfolding. -/
set_option linter.unusedVariables false
set_option linter.unusedSimpArgs false
namespace Go.Proofs.V
open Go
def unf (n : Nat) : Int := if n % 2 = 1 then -((n / 2 : Nat) : Int) - 1 else ((n / 2 : Nat) : Int)
theorem s_unfold (n : Nat) (h : n < 2 ^ 62) : m_spec_Unfold (n : Int) = some (unf n) := by
  unfold m_spec_Unfold m_spec_Unfold_0 unf
  have e1 : Int.tmod (n : Int) 2 = ((n % 2 : Nat) : Int) := by rw [Int.tmod_eq_emod_of_nonneg (by omega)]; omega
  have e2 : Int.tdiv (n : Int) 2 = ((n / 2 : Nat) : Int) := by rw [Int.tdiv_eq_ediv_of_nonneg (by omega)]; omega
  have e3 : w64 (wr .u64 ((n / 2 : Nat) : Int)) = ((n / 2 : Nat) : Int) := by rw [wu64_id (by omega) (by omega), w64_id (by omega) (by omega)]
  have e4 : w64 (w64 (0 - ((n / 2 : Nat) : Int)) - 1) = -((n / 2 : Nat) : Int) - 1 := by
    rw [w64_id (x := 0 - _) (by omega) (by omega), w64_id (by omega) (by omega)]; omega
  simp only [e1, e2, e3, e4, beq_iff_eq]
  by_cases h1 : n % 2 = 1
  · rw [if_pos (by omega), if_pos h1]
  · rw [if_neg (by omega), if_neg h1]

theorem xor_onesd (x : Nat) (h : x < 2 ^ 64) : (BitVec.ofNat 64 x ^^^ BitVec.allOnes 64).toNat = 2 ^ 64 - 1 - x := by
  rw [BitVec.xor_allOnes, BitVec.toNat_not, BitVec.toNat_ofNat, Nat.mod_eq_of_lt h]
theorem and_one64' (n : Nat) (h : n < 2 ^ 63) : andI .u64 (n : Int) 1 = ((n % 2 : Nat) : Int) := by
  unfold andI
  have h1 : (BitVec.ofInt IntKind.u64.bits (n : Int) &&& BitVec.ofInt IntKind.u64.bits 1).toNat = n % 2 := by
    show (BitVec.ofInt 64 (n : Int) &&& BitVec.ofNat 64 1).toNat = n % 2
    rw [BitVec.ofInt_natCast, BitVec.toNat_and, BitVec.toNat_ofNat, BitVec.toNat_ofNat, Nat.mod_eq_of_lt (by omega : n < 2 ^ 64)]
    exact Nat.and_one_is_mod n
  rw [h1]
  exact wu64_id (by omega) (by omega)
theorem z_unfold (n : Nat) (h : n < 2 ^ 62) : m_impl_Unfold (n : Int) = some (unf n) := by
  unfold m_impl_Unfold m_impl_Unfold_0 unf
  have e1 : w64 (shrI .u64 (n : Int) 1) = ((n / 2 : Nat) : Int) := by
    unfold shrI
    rw [show (2 : Int) ^ min (Int.toNat 1) IntKind.u64.bits = 2 from rfl, Int.fdiv_eq_ediv_of_nonneg _ (by omega), w64_id (by omega) (by omega)]
    omega
  rw [e1, and_one64' n (by omega), w64_id (x := ((n % 2 : Nat) : Int)) (by omega) (by omega), w64_id (x := 0 - ((n % 2 : Nat) : Int)) (by omega) (by omega)]
  by_cases h1 : n % 2 = 1
  · rw [if_pos h1, h1]
    have e3 : xorI .i64 ((n / 2 : Nat) : Int) (-1) = -((n / 2 : Nat) : Int) - 1 := by
      have e7 := xor_onesd (n / 2) (by omega)
      unfold xorI
      show IntKind.i64.wrap ((BitVec.ofInt 64 ((n / 2 : Nat) : Int) ^^^ BitVec.allOnes 64).toNat : Int) = _
      rw [BitVec.ofInt_natCast, e7]
      have e8 : ∀ x : Nat, x < 2 ^ 62 → IntKind.i64.wrap ((2 ^ 64 - 1 - x : Nat) : Int) = -(x : Int) - 1 := by
        intro x hx
        unfold IntKind.wrap
        simp [IntKind.bits, IntKind.signed]
        omega
      exact e8 _ (by omega)
    exact congrArg some e3
  · rw [if_neg h1, show n % 2 = 0 by omega]
    have e3 : xorI .i64 ((n / 2 : Nat) : Int) 0 = ((n / 2 : Nat) : Int) := by
      unfold xorI
      show IntKind.i64.wrap ((BitVec.ofInt 64 ((n / 2 : Nat) : Int) ^^^ 0#64).toNat : Int) = _
      rw [BitVec.xor_zero, BitVec.ofInt_natCast, BitVec.toNat_ofNat, Nat.mod_eq_of_lt (by omega)]
      exact w64_id (by omega) (by omega)
    exact congrArg some e3
end Go.Proofs.V

/- The tones' law of decoding: the marks. -/
set_option linter.unusedVariables false
set_option linter.unusedSimpArgs false
namespace Go.Proofs.V
open Go
theorem bAt_in {b : List Int} (i j : Nat) (hj : j < 8) : bAt b (8 * i + j) = ((b.getD i 0).toNat / 2 ^ (7 - j)) % 2 := by
  unfold bAt
  rw [show (8 * i + j) / 8 = i by omega, show (8 * i + j) % 8 = j by omega]
theorem bV_byte {b : List Int} (hb : ByteL b) (i : Nat) (hi : i < b.length) : ((bV b (8 * i) 8 : Nat) : Int) = b[i] := by
  obtain ⟨n, e1, e2, e3⟩ := byte_get hb hi
  rw [e1]
  simp only [bV]
  rw [bAt_in i 0 (by omega), bAt_in i 1 (by omega), bAt_in i 2 (by omega), bAt_in i 3 (by omega), bAt_in i 4 (by omega), bAt_in i 5 (by omega), bAt_in i 6 (by omega), bAt_in i 7 (by omega), e2]
  simp
  omega
end Go.Proofs.V

/- The tones' law of decoding: the marks, both ways. -/
set_option linter.unusedVariables false
set_option linter.unusedSimpArgs false
namespace Go.Proofs.V
open Go
def magE (b : List Int) (i : Nat) : List Int → Int
  | [] => 0
  | m :: ms => if i < b.length then (if b.getD i 0 = m then magE b (i + 1) ms else 4) else 2
def zRes (r : Int) : Int ⊕ Unit := if r = 0 then .inr () else .inl r
def zM : ByteArray := ByteArray.mk #[84, 79, 78, 49]
theorem z_mag_step (b : List Int) (i : Nat) (m : Int) (ms : List Int) (hi : i < 4) (hl : b.length ≤ 60000) (hm : sat zM (i : Int) = some m)
    (ih : loopM (lp_impl_zmagic_7 b zM) ((i + 1 : Nat) : Int) = some (zRes (magE b (i + 1) ms))) :
    loopM (lp_impl_zmagic_7 b zM) (i : Int) = some (zRes (magE b i (m :: ms))) := by
  rw [loopM_eq]
  have e4 : (zM.size : Int) = 4 := rfl
  simp only [lp_impl_zmagic_7, m_impl_zmagic_7, e4, decide_eq_true_eq]
  rw [if_pos (by omega)]
  by_cases h : i < b.length
  · rw [if_neg (by omega), rd_eq h, hm]
    simp only [Option.bind_some]
    have e1 : b.getD i 0 = b[i] := by rw [List.getD_eq_getElem?_getD, List.getElem?_eq_getElem h]; rfl
    by_cases h2 : b[i] = m
    · have eM : magE b i (m :: ms) = magE b (i + 1) ms := by simp only [magE, if_pos h, e1, if_pos h2]
      rw [if_neg (by simp [h2]), eM, w64_succ (by omega)]
      exact ih
    · have eM : magE b i (m :: ms) = 4 := by simp only [magE, if_pos h, e1, if_neg h2]
      rw [if_pos (by simp [h2]), eM]
      rfl
  · have eM : magE b i (m :: ms) = 2 := by simp only [magE, if_neg h]
    rw [if_pos (by omega), eM]
    rfl
theorem z_mag (b : List Int) (hl : b.length ≤ 60000) : m_impl_zmagic b zM = some (magE b 0 [84, 79, 78, 49]) := by
  have h4 : loopM (lp_impl_zmagic_7 b zM) ((4 : Nat) : Int) = some (zRes (magE b 4 [])) := by
    rw [loopM_eq]; rfl
  have h3 := z_mag_step b 3 49 [] (by omega) hl rfl h4
  have h2 := z_mag_step b 2 78 [49] (by omega) hl rfl h3
  have h1 := z_mag_step b 1 79 [78, 49] (by omega) hl rfl h2
  have h0 := z_mag_step b 0 84 [79, 78, 49] (by omega) hl rfl h1
  unfold m_impl_zmagic m_impl_zmagic_0
  show (loopM (lp_impl_zmagic_7 b zM) ((0 : Nat) : Int)).bind _ = _
  rw [h0]
  by_cases h : magE b 0 [84, 79, 78, 49] = 0
  · rw [h]; rfl
  · have e : zRes (magE b 0 [84, 79, 78, 49]) = .inl (magE b 0 [84, 79, 78, 49]) := if_neg h
    rw [e]
    rfl
end Go.Proofs.V

/- The tones' law of decoding: the spec's marks. -/
set_option linter.unusedVariables false
set_option linter.unusedSimpArgs false
namespace Go.Proofs.V
open Go
def MK : List Int := [84, 79, 78, 49]
def MarkAt (b : List Int) (i : Nat) (ms : List Int) : Prop := ∀ (p : Nat) (e : Int), p ≤ 8 * b.length → (e = 0 → p = 8 * i) →
  ∃ p' : Nat, loopM (lp_spec_l10R_mark_4 MK) ((i : Int), b, (p : Int), e) = some (S_l10R.mk b (p' : Int) (if e = 0 then magE b i ms else e)) ∧ p' ≤ 8 * b.length ∧ ((if e = 0 then magE b i ms else e) = 0 → p' = 32)
theorem s_mark_step {b : List Int} (hb : ByteL b) (i : Nat) (m : Int) (ms : List Int) (hi : i < 4) (hm : MK[i]? = some m) (hr : 0 ≤ m ∧ m ≤ 255) (ih : MarkAt b (i + 1) ms) : MarkAt b i (m :: ms) := by
  intro p e hp he
  have hl := hb.1
  rw [loopM_eq]
  simp only [lp_spec_l10R_mark_4, m_spec_l10R_mark_4, decide_eq_true_eq]
  have e4 : (MK.length : Int) = 4 := rfl
  rw [if_pos (by omega)]
  have hlen : i < MK.length := by simp [MK]; omega
  have hm' : MK[i] = m := by rw [List.getElem?_eq_getElem hlen] at hm; simpa using hm
  rw [rd_eq hlen, hm']
  simp only [Option.bind_some]
  have h8 := s_take hb p 8 e hp (by omega)
  rw [show ((8 : Nat) : Int) = 8 from rfl] at h8
  rw [h8]
  by_cases h0 : e = 0
  · have hp8 := he h0
    subst hp8
    subst h0
    simp only [if_true]
    by_cases h : i < b.length
    · rw [if_pos (by omega)]
      have hv := bV_byte hb i h
      have e1 : b.getD i 0 = b[i] := by rw [List.getD_eq_getElem?_getD, List.getElem?_eq_getElem h]; rfl
      by_cases h2 : b[i] = m
      · have eM : magE b i (m :: ms) = magE b (i + 1) ms := by simp only [magE, if_pos h, e1, if_pos h2]
        obtain ⟨p', k1, k2, k3⟩ := ih (8 * i + 8) 0 (by omega) (fun _ => by omega)
        simp only [if_true] at k1 k3
        refine ⟨p', ?_, k2, by rw [eM]; exact k3⟩
        rw [eM, ← k1]
        simp only [Option.bind_some, m_spec_l10R_mark_18, hv, h2, w64_id (x := m) (by omega) (by omega), w64_succ (by omega : i < 4611686018427387904)]
        simp
      · have eM : magE b i (m :: ms) = 4 := by simp only [magE, if_pos h, e1, if_neg h2]
        obtain ⟨p', k1, k2, k3⟩ := ih (8 * i + 8) 4 (by omega) (fun h => by omega)
        rw [if_neg (by decide)] at k1
        refine ⟨p', ?_, k2, by rw [eM]; exact fun h => by omega⟩
        rw [eM, ← k1]
        simp only [Option.bind_some, m_spec_l10R_mark_18, hv, w64_id (x := m) (by omega) (by omega), w64_succ (by omega : i < 4611686018427387904), s_fail, stand]
        simp [h2]
    · rw [if_neg (by omega)]
      have eM : magE b i (m :: ms) = 2 := by simp only [magE, if_neg h]
      obtain ⟨p', k1, k2, k3⟩ := ih (8 * i) 2 (by omega) (fun h => by omega)
      rw [if_neg (by decide)] at k1
      refine ⟨p', ?_, k2, by rw [eM]; exact fun h => by omega⟩
      rw [eM, ← k1]
      simp only [Option.bind_some, m_spec_l10R_mark_18, w64_succ (by omega : i < 4611686018427387904)]
      simp
  · obtain ⟨p', k1, k2, k3⟩ := ih p e (by omega) (fun h => absurd h h0)
    simp only [if_neg h0] at k1 k3 ⊢
    refine ⟨p', ?_, k2, k3⟩
    rw [← k1]
    simp only [Option.bind_some, m_spec_l10R_mark_18, w64_succ (by omega : i < 4611686018427387904)]
    simp [h0]
theorem s_mark {b : List Int} (hb : ByteL b) : ∃ p' : Nat, m_spec_l10R_mark ⟨b, 0, 0⟩ [84, 79, 78, 49] = some (S_l10R.mk b (p' : Int) (magE b 0 [84, 79, 78, 49])) ∧ p' ≤ 8 * b.length ∧ (magE b 0 [84, 79, 78, 49] = 0 → p' = 32) := by
  have h4 : MarkAt b 4 [] := by
    intro p e hp he
    refine ⟨p, ?_, hp, fun h => ?_⟩
    · rw [loopM_eq]
      have e1 : (if e = 0 then magE b 4 [] else e) = e := by split <;> simp_all [magE]
      rw [e1]
      rfl
    · have e1 : (if e = 0 then magE b 4 [] else e) = e := by split <;> simp_all [magE]
      rw [e1] at h
      exact he h
  have h3 := s_mark_step hb 3 49 [] (by omega) rfl (by omega) h4
  have h2 := s_mark_step hb 2 78 [49] (by omega) rfl (by omega) h3
  have h1 := s_mark_step hb 1 79 [78, 49] (by omega) rfl (by omega) h2
  have h0 := s_mark_step hb 0 84 [79, 78, 49] (by omega) rfl (by omega) h1
  obtain ⟨p', k1, k2, k3⟩ := h0 0 0 (by omega) (fun _ => rfl)
  simp only [if_true] at k1 k3
  refine ⟨p', ?_, k2, k3⟩
  unfold m_spec_l10R_mark m_spec_l10R_mark_0
  show (loopM (lp_spec_l10R_mark_4 MK) (((0 : Nat) : Int), b, ((0 : Nat) : Int), 0)).bind _ = _
  rw [k1]
  rfl
end Go.Proofs.V

/- The tones' law of decoding: the bits that fill the last byte. -/
set_option linter.unusedVariables false
set_option linter.unusedSimpArgs false
namespace Go.Proofs.V
open Go
def fillN (b : List Int) (p : Nat) : Nat → Bool
  | 0 => true
  | n + 1 => decide (bAt b p = 0) && fillN b (p + 1) n
theorem mod8f (n : Nat) : Int.tmod (n : Int) 8 = ((n % 8 : Nat) : Int) := mod8d n
theorem z_fill_loop {b : List Int} (hb : ByteL b) (sh : Bool) : ∀ (n p : Nat) (f : Bool), p ≤ 8 * b.length → (8 - p % 8) % 8 = n →
    loopM lp_impl_ztake_fill_7 (f, b, (p : Int), sh) = some (f && fillN b p n, b, ((p + n : Nat) : Int), sh)
  | 0, p, f, hp, hn => by
    rw [loopM_eq]
    simp only [lp_impl_ztake_fill_7, m_impl_ztake_fill_7, mod8d]
    have h : p % 8 = 0 := by omega
    simp [h, fillN]
  | n + 1, p, f, hp, hn => by
    rw [loopM_eq]
    simp only [lp_impl_ztake_fill_7, m_impl_ztake_fill_7, mod8d]
    have h : p % 8 ≠ 0 := by omega
    have h' : (((p % 8 : Nat) : Int) != 0) = true := by simp; omega
    rw [if_pos h', z_bit hb p sh hp, if_pos (by omega)]
    simp only [Option.bind_some, fillN]
    have ih := fun f => z_fill_loop hb sh n (p + 1) f (by omega) (by omega)
    by_cases h1 : bAt b p = 0
    · have h2 : (((bAt b p : Nat) : Int) == 0) = true := by simp [h1]
      rw [if_pos h2]
      simp only
      rw [ih f]
      simp [h1]
      omega
    · have h2 : ¬ (((bAt b p : Nat) : Int) == 0) = true := by simp [h1]
      rw [if_neg h2]
      simp only
      rw [ih false]
      simp [h1]
      omega
theorem z_fill {b : List Int} (hb : ByteL b) (sh : Bool) (p : Nat) (hp : p ≤ 8 * b.length) : m_impl_ztake_fill ⟨b, p, sh⟩ = some (fillN b p ((8 - p % 8) % 8), S_ztake.mk b ((p + (8 - p % 8) % 8 : Nat) : Int) sh) := by
  unfold m_impl_ztake_fill m_impl_ztake_fill_0
  show (loopM lp_impl_ztake_fill_7 (true, b, (p : Int), sh)).bind _ = _
  rw [z_fill_loop hb sh _ p true hp rfl]
  simp [m_impl_ztake_fill_15]
theorem s_fill_loop {b : List Int} (hb : ByteL b) : ∀ (n p : Nat), p ≤ 8 * b.length → (8 - p % 8) % 8 = n →
    ∃ p' : Nat, loopM lp_spec_l10R_fill_2 (b, (p : Int), 0) = some (S_l10R.mk b (p' : Int) (if fillN b p n then 0 else 4)) ∧ (fillN b p n = true → p' = p + n)
  | 0, p, hp, hn => by
    refine ⟨p, ?_, fun _ => rfl⟩
    rw [loopM_eq]
    simp only [lp_spec_l10R_fill_2, m_spec_l10R_fill_2, mod8d]
    have h : p % 8 = 0 := by omega
    simp [h, fillN]
  | n + 1, p, hp, hn => by
    have h : p % 8 ≠ 0 := by omega
    have h' : (((p % 8 : Nat) : Int) != 0) = true := by simp; omega
    have h1 := s_take hb p 1 0 hp (by omega)
    rw [if_pos rfl, if_pos (by omega), show ((1 : Nat) : Int) = 1 from rfl] at h1
    have hv : bV b p 1 = bAt b p := by simp [bV]
    rw [hv] at h1
    obtain ⟨p', k1, k2⟩ := s_fill_loop hb n (p + 1) (by omega) (by omega)
    by_cases h2 : bAt b p = 0
    · refine ⟨p', ?_, fun hf => ?_⟩
      · rw [loopM_eq]
        simp only [lp_spec_l10R_fill_2, m_spec_l10R_fill_2, mod8d]
        rw [if_pos h', if_pos (show ((0 : Int) == 0) = true from rfl), h1]
        simp only [Option.bind_some, h2]
        simp only [fillN, h2]
        simpa using k1
      · have := k2 (by simpa [fillN, h2] using hf)
        omega
    · have h3 : bAt b p = 1 := by have := bAt_lt b p; omega
      refine ⟨p + 1, ?_, fun hf => by simp [fillN, h2] at hf⟩
      rw [loopM_eq]
      simp only [lp_spec_l10R_fill_2, m_spec_l10R_fill_2, mod8d]
      rw [if_pos h', if_pos (show ((0 : Int) == 0) = true from rfl), h1]
      simp only [Option.bind_some, h3, s_fail, stand]
      have e1 : fillN b p (n + 1) = false := by simp [fillN, h3]
      rw [e1]
      simp
      rw [loopM_eq]
      simp [lp_spec_l10R_fill_2, m_spec_l10R_fill_2]
end Go.Proofs.V

/- The tones' law of decoding: the unary part of a folded number. -/
set_option linter.unusedVariables false
set_option linter.unusedSimpArgs false
namespace Go.Proofs.V
open Go
/-- error, count, place; n bits are left -/
def unR (b : List Int) (k : Nat) : Nat → Nat → Nat → Int × Nat × Nat
  | 0, p, q => (2, q, p)
  | n + 1, p, q => if bAt b p = 0 then (if 2097151 < (q + 1) * 2 ^ k then (5, q + 1, p + 1) else unR b k n (p + 1) (q + 1)) else (0, q, p + 1)
theorem unR_err (b : List Int) (k : Nat) : ∀ (n p q : Nat), (unR b k n p q).1 = 0 ∨ (unR b k n p q).1 = 2 ∨ (unR b k n p q).1 = 5
  | 0, p, q => by simp [unR]
  | n + 1, p, q => by
    simp only [unR]
    split
    · split
      · simp
      · exact unR_err b k n _ _
    · simp
theorem unR_ok (b : List Int) (k : Nat) : ∀ (n p q : Nat), q * 2 ^ k ≤ 2097151 → (unR b k n p q).1 = 0 → (unR b k n p q).2.1 * 2 ^ k ≤ 2097151 ∧ (unR b k n p q).2.2 ≤ p + n
  | 0, p, q, _, h => by simp [unR] at h
  | n + 1, p, q, hq, h => by
    simp only [unR] at h ⊢
    split at h
    · rename_i h0
      split at h
      · simp at h
      · rename_i h1
        rw [if_pos h0, if_neg h1]
        have := unR_ok b k n (p + 1) (q + 1) (by omega) h
        omega
    · rename_i h0
      rw [if_neg h0]
      simp only
      omega

theorem z_unary {b : List Int} (hb : ByteL b) (k : Nat) (hk : k ≤ 16) (a0 a1 a2 a3 a4 a5 a6 : Int) (p0 l1 l2 : List Int) (l3 l4 : List (List Int)) : ∀ (n p q : Nat), p ≤ 8 * b.length → 8 * b.length - p = n → q * 2 ^ k ≤ 2097151 →
    ∃ y, loopM (lp_impl_DecodeTones_121 p0 (k : Int) a1 a2 a3 a4 a5 a6 l1 l2 l3 l4) ((q : Int), b, (p : Int), false) = some y ∧
      (match (unR b k n p q) with
       | (0, q', p') => y = .inl ((q' : Int), b, (p' : Int), false)
       | (2, q', p') => y = .inl ((q' : Int), b, (p' : Int), true)
       | _ => y = .inr (5, S_Tones.mk 0 0 0 [] []))
  | 0, p, q, hp, hn, hq => by
    refine ⟨.inl ((q : Int), b, (p : Int), true), ?_, by simp [unR]⟩
    rw [loopM_eq]
    simp only [lp_impl_DecodeTones_121, m_impl_DecodeTones_121]
    rw [z_bit hb p false hp, if_neg (by omega)]
    simp
  | n + 1, p, q, hp, hn, hq => by
    have hlt := bAt_lt b p
    have hl := hb.1
    have hpow : 1 ≤ 2 ^ k := Nat.one_le_two_pow
    have hpow2 : 2 ^ k ≤ 2 ^ 16 := Nat.pow_le_pow_right (by decide) hk
    have hq1 : q ≤ 2097151 := Nat.le_trans (Nat.le_mul_of_pos_right q hpow) hq
    have hmul : (q + 1) * 2 ^ k = q * 2 ^ k + 2 ^ k := Nat.succ_mul _ _
    rw [loopM_eq]
    simp only [lp_impl_DecodeTones_121, m_impl_DecodeTones_121]
    rw [z_bit hb p false hp, if_pos (by omega)]
    simp only [Option.bind_some]
    by_cases h1 : bAt b p = 0
    · have h2 : (((bAt b p : Nat) : Int) == 0) = true := by simp [h1]
      rw [if_pos h2, if_neg (by simp), ck_eq (by omega)]
      have e1 : wr .u64 ((q : Int) + 1) = ((q + 1 : Nat) : Int) := by rw [wu64_id (by omega) (by omega)]; omega
      simp only [Option.bind_some, e1, shl64 (q + 1) k (by omega) (by omega), decide_eq_true_eq]
      by_cases h3 : 2097151 < (q + 1) * 2 ^ k
      · rw [if_pos (by omega)]
        refine ⟨_, rfl, ?_⟩
        simp only [unR, if_pos h1, if_pos h3]
      · rw [if_neg (by omega)]
        simp only
        obtain ⟨y, k1, k2⟩ := z_unary hb k hk a0 a1 a2 a3 a4 a5 a6 p0 l1 l2 l3 l4 n (p + 1) (q + 1) (by omega) (by omega) (by omega)
        refine ⟨y, k1, ?_⟩
        simp only [unR, if_pos h1, if_neg h3]
        exact k2
    · have h2 : ¬ (((bAt b p : Nat) : Int) == 0) = true := by simp [h1]
      rw [if_neg h2]
      refine ⟨_, rfl, ?_⟩
      simp only [unR, if_neg h1]

theorem s_unary {b : List Int} (hb : ByteL b) (k : Nat) (hk : k ≤ 16) : ∀ (n p q : Nat), p ≤ 8 * b.length → 8 * b.length - p = n → q * 2 ^ k ≤ 2097151 →
    ∃ q' p' : Nat, loopM (lp_spec_l10R_folded_7 (k : Int)) ((q : Int), b, (p : Int), 0) = some ((q' : Int), b, (p' : Int), (unR b k n p q).1) ∧ p' ≤ 8 * b.length ∧ q' ≤ 4194304 ∧
      ((unR b k n p q).1 = 0 → q' = (unR b k n p q).2.1 ∧ p' = (unR b k n p q).2.2)
  | 0, p, q, hp, hn, hq => by
    have hpow : 1 ≤ 2 ^ k := Nat.one_le_two_pow
    have hpow2 : 2 ^ k ≤ 2 ^ 16 := Nat.pow_le_pow_right (by decide) hk
    have hq1 : q ≤ 2097151 := Nat.le_trans (Nat.le_mul_of_pos_right q hpow) hq
    have hmul : (q + 1) * 2 ^ k = q * 2 ^ k + 2 ^ k := Nat.succ_mul _ _
    refine ⟨q + 1, p, ?_, hp, by omega, by simp [unR]⟩
    have h1 := s_take hb p 1 0 hp (by omega)
    rw [if_pos rfl, if_neg (by omega), show ((1 : Nat) : Int) = 1 from rfl] at h1
    have e1 : w64 ((q : Int) + 1) = ((q + 1 : Nat) : Int) := w64_succ (by omega)
    have e2 : wr .u64 (k : Int) = (k : Int) := wu64_id (by omega) (by omega)
    have e3 : (unR b k 0 p q).1 = 2 := rfl
    rw [loopM_eq, e3]
    simp only [lp_spec_l10R_folded_7, m_spec_l10R_folded_7]
    rw [if_pos (show ((0 : Int) == 0) = true from rfl), h1]
    simp only [Option.bind_some]
    rw [if_pos (show ((0 : Int) == 0) = true from rfl), e2, ck_eq (by omega)]
    simp only [Option.bind_some, e1, shl64i (q + 1) k (by omega) (by omega), decide_eq_true_eq, s_fail, stand]
    have fin : loopM (lp_spec_l10R_folded_7 (k : Int)) (((q + 1 : Nat) : Int), b, (p : Int), 2) = some (((q + 1 : Nat) : Int), b, (p : Int), 2) := by
      rw [loopM_eq]; rfl
    by_cases h3 : 2097151 < (q + 1) * 2 ^ k
    · rw [if_pos (by omega)]
      exact fin
    · rw [if_neg (by omega)]
      exact fin
  | n + 1, p, q, hp, hn, hq => by
    have hlt := bAt_lt b p
    have hl := hb.1
    have hpow : 1 ≤ 2 ^ k := Nat.one_le_two_pow
    have hpow2 : 2 ^ k ≤ 2 ^ 16 := Nat.pow_le_pow_right (by decide) hk
    have hq1 : q ≤ 2097151 := Nat.le_trans (Nat.le_mul_of_pos_right q hpow) hq
    have hmul : (q + 1) * 2 ^ k = q * 2 ^ k + 2 ^ k := Nat.succ_mul _ _
    have h1 := s_take hb p 1 0 hp (by omega)
    have hv : bV b p 1 = bAt b p := by simp [bV]
    rw [if_pos rfl, if_pos (by omega), show ((1 : Nat) : Int) = 1 from rfl, hv] at h1
    have e1 : w64 ((q : Int) + 1) = ((q + 1 : Nat) : Int) := w64_succ (by omega)
    have e2 : wr .u64 (k : Int) = (k : Int) := wu64_id (by omega) (by omega)
    rw [loopM_eq]
    simp only [lp_spec_l10R_folded_7, m_spec_l10R_folded_7]
    rw [if_pos (show ((0 : Int) == 0) = true from rfl), h1]
    simp only [Option.bind_some]
    by_cases h0 : bAt b p = 0
    · rw [if_pos (by simp [h0]), e2, ck_eq (by omega)]
      simp only [Option.bind_some, e1, shl64i (q + 1) k (by omega) (by omega), decide_eq_true_eq, s_fail, stand]
      by_cases h3 : 2097151 < (q + 1) * 2 ^ k
      · have e3 : (unR b k (n + 1) p q) = (5, q + 1, p + 1) := by simp only [unR, if_pos h0, if_pos h3]
        rw [if_pos (by omega), e3]
        refine ⟨q + 1, p + 1, ?_, by omega, by omega, by simp⟩
        simp only [if_true]
        rw [loopM_eq]; rfl
      · have e3 : (unR b k (n + 1) p q) = unR b k n (p + 1) (q + 1) := by simp only [unR, if_pos h0, if_neg h3]
        rw [if_neg (by omega), e3]
        exact s_unary hb k hk n (p + 1) (q + 1) (by omega) (by omega) (by omega)
    · have e3 : (unR b k (n + 1) p q) = (0, q, p + 1) := by simp only [unR, if_neg h0]
      rw [if_neg (by simp [h0]), e3]
      exact ⟨q, p + 1, rfl, by omega, by omega, fun _ => ⟨rfl, rfl⟩⟩
end Go.Proofs.V

/- The tones' law of decoding: a folded number, whole. -/
set_option linter.unusedVariables false
set_option linter.unusedSimpArgs false
namespace Go.Proofs.V
open Go
abbrev Rdr (α : Type) := Except Int (α × Nat)
def tkE (b : List Int) (k p : Nat) : Rdr Nat := if p + k ≤ 8 * b.length then .ok (bV b p k, p + k) else .error 2
/-- a folded number: what both read -/
def foldE (b : List Int) (k p : Nat) : Rdr Int :=
  match unR b k (8 * b.length - p) p 0 with
  | (0, q, p1) => if p1 + k ≤ 8 * b.length then (if 2097151 < q * 2 ^ k + bV b p1 k then .error 5 else .ok (unf (q * 2 ^ k + bV b p1 k), p1 + k)) else .error 2
  | (e, _, _) => .error e

theorem bV16 (b : List Int) (p k : Nat) (hk : k ≤ 16) : bV b p k < 2 ^ k ∧ 2 ^ k ≤ 65536 := ⟨bV_lt b p k, Nat.pow_le_pow_right (by decide) hk⟩

theorem s_folded {b : List Int} (hb : ByteL b) (k p : Nat) (hk : k ≤ 16) (hp : p ≤ 8 * b.length) :
    match foldE b k p with
    | .ok (v, p') => m_spec_l10R_folded ⟨b, p, 0⟩ k = some (v, ⟨b, (p' : Int), 0⟩) ∧ p' ≤ 8 * b.length
    | .error e => e ≠ 0 ∧ ∃ (v : Int) (p' : Nat), m_spec_l10R_folded ⟨b, p, 0⟩ k = some (v, ⟨b, (p' : Int), e⟩) ∧ p' ≤ 8 * b.length := by
  obtain ⟨q', p', h1, h2, h3, h4⟩ := s_unary hb k hk (8 * b.length - p) p 0 hp rfl (by omega)
  have hl := hb.1
  have he := unR_err b k (8 * b.length - p) p 0
  have hok := unR_ok b k (8 * b.length - p) p 0 (by omega)
  unfold foldE
  have e2 : wr .u64 (k : Int) = (k : Int) := wu64_id (by omega) (by omega)
  have hpow2 : 2 ^ k ≤ 2 ^ 16 := Nat.pow_le_pow_right (by decide) hk
  have hm : q' * 2 ^ k ≤ 4194304 * 2 ^ 16 := Nat.mul_le_mul h3 hpow2
  -- the part behind the unary loop
  have tail : ∀ e : Int, m_spec_l10R_folded_21 (k : Int) (q' : Int) b (p' : Int) e =
      (m_spec_l10R_take ⟨b, p', e⟩ k).bind fun x => if x.2.err = 0 then m_spec_l10R_folded_28 x (orI .i64 (shlI .i64 (q' : Int) k) x.1) (decide ((orI .i64 (shlI .i64 (q' : Int) k) x.1) > 2097151)) else m_spec_l10R_folded_28 x (orI .i64 (shlI .i64 (q' : Int) k) x.1) false := by
    intro e
    unfold m_spec_l10R_folded_21
    rw [e2, ck_eq (by omega)]
    simp only [Option.bind_some, beq_iff_eq]
  have fin : ∀ (x : Int × S_l10R) (v : Int), ∃ v', m_spec_l10R_folded_28 x v false = some (v', x.2) := by
    intro x v
    refine ⟨(m_spec_Unfold (wr .u64 v)).getD 0, ?_⟩
    unfold m_spec_l10R_folded_28 m_spec_l10R_folded_31
    have : ∃ w, m_spec_Unfold (wr .u64 v) = some w := by unfold m_spec_Unfold m_spec_Unfold_0; split <;> exact ⟨_, rfl⟩
    obtain ⟨w, hw⟩ := this
    rw [hw]; rfl
  have whole : m_spec_l10R_folded ⟨b, p, 0⟩ k = m_spec_l10R_folded_21 (k : Int) (q' : Int) b (p' : Int) (unR b k (8 * b.length - p) p 0).1 := by
    unfold m_spec_l10R_folded m_spec_l10R_folded_0
    show (loopM (lp_spec_l10R_folded_7 (k : Int)) (((0 : Nat) : Int), b, (p : Int), 0)).bind _ = _
    rw [h1]; rfl
  rw [whole, tail]
  generalize unR b k (8 * b.length - p) p 0 = u at he hok h1 h4
  obtain ⟨e, q, p1⟩ := u
  simp only at he hok h4 ⊢
  by_cases h0 : e = 0
  · subst h0
    obtain ⟨rfl, rfl⟩ := h4 rfl
    obtain ⟨k1, k2⟩ := hok rfl
    simp only
    rw [s_take hb p' k 0 h2 (by omega), if_pos rfl]
    by_cases h5 : p' + k ≤ 8 * b.length
    · have hv := bV16 b p' k hk
      rw [if_pos h5, if_pos h5]
      simp only [Option.bind_some, if_true]
      rw [shl64i q' k (by omega) (by omega), or64i _ _ (by omega) (by omega), or_nat _ _ k hv.1]
      by_cases h6 : 2097151 < q' * 2 ^ k + bV b p' k
      · rw [if_pos h6]
        have : decide (((q' * 2 ^ k + bV b p' k : Nat) : Int) > 2097151) = true := decide_eq_true (by omega)
        rw [this]
        refine ⟨by decide, ?_⟩
        unfold m_spec_l10R_folded_28 m_spec_l10R_folded_31
        simp only [if_true, s_fail, Option.bind_some, stand]
        have hex : ∃ w, m_spec_Unfold (wr .u64 ((q' * 2 ^ k + bV b p' k : Nat) : Int)) = some w := by unfold m_spec_Unfold m_spec_Unfold_0; split <;> exact ⟨_, rfl⟩
        obtain ⟨w, hw⟩ := hex
        rw [hw]
        exact ⟨w, p' + k, rfl, h5⟩
      · rw [if_neg h6]
        have : decide (((q' * 2 ^ k + bV b p' k : Nat) : Int) > 2097151) = false := decide_eq_false (by omega)
        rw [this]
        unfold m_spec_l10R_folded_28 m_spec_l10R_folded_31
        rw [wu64_id (by omega) (by omega), s_unfold _ (by omega)]
        exact ⟨rfl, h5⟩
    · rw [if_neg h5, if_neg h5]
      simp only [Option.bind_some]
      rw [if_neg (by decide)]
      obtain ⟨v', hv'⟩ := fin (0, S_l10R.mk b (p' : Int) 2) (orI .i64 (shlI .i64 (q' : Int) k) 0)
      exact ⟨by decide, v', p', hv', h2⟩
  · have : (match (e, q, p1) with
        | (0, q, p1) => if p1 + k ≤ 8 * b.length then (if 2097151 < q * 2 ^ k + bV b p1 k then Except.error 5 else .ok (unf (q * 2 ^ k + bV b p1 k), p1 + k)) else .error 2
        | (e, _, _) => .error e) = (Except.error e : Rdr Int) := by
      split
      · rename_i h; simp at h; exact absurd h.1 h0
      · rename_i h; simp at h; rw [h.1]
    rw [this]
    simp only
    rw [s_take hb p' k e h2 (by omega), if_neg h0]
    simp only [Option.bind_some, if_neg h0]
    obtain ⟨v', hv'⟩ := fin (0, S_l10R.mk b (p' : Int) e) (orI .i64 (shlI .i64 (q' : Int) k) 0)
    exact ⟨h0, v', p', hv', h2⟩
end Go.Proofs.V

/- The tones' law of decoding: the numbers of a slot. -/
set_option linter.unusedVariables false
set_option linter.unusedSimpArgs false
namespace Go.Proofs.V
open Go
def zeroT' : S_Tones := S_Tones.mk 0 0 0 [] []
def foldsE (b : List Int) (k : Nat) : Nat → Nat → Rdr (List Int)
  | 0, p => .ok ([], p)
  | n + 1, p => match foldE b k p with
    | .error e => .error e
    | .ok (v, p1) => match foldsE b k n p1 with
      | .error e => .error e
      | .ok (vs, p2) => .ok (v :: vs, p2)

theorem foldE_le {b : List Int} {k p p' : Nat} {v : Int} (h : foldE b k p = .ok (v, p')) : p' ≤ 8 * b.length := by
  unfold foldE at h
  split at h
  · split at h
    · split at h
      · simp at h
      · simp at h; omega
    · simp at h
  · simp at h
theorem foldsE_le {b : List Int} {k : Nat} : ∀ {n p p' : Nat} {v : List Int}, foldsE b k n p = .ok (v, p') → p ≤ 8 * b.length → p' ≤ 8 * b.length ∧ v.length = n
  | 0, p, p', v, h, hp => by simp [foldsE] at h; obtain ⟨rfl, rfl⟩ := h; exact ⟨hp, rfl⟩
  | n + 1, p, p', v, h, hp => by
    simp only [foldsE] at h
    split at h
    · simp at h
    · rename_i v1 p1 h1
      split at h
      · simp at h
      · rename_i vs p2 h2
        simp at h
        obtain ⟨rfl, rfl⟩ := h
        have := foldsE_le h2 (foldE_le h1)
        simp [this]
theorem unR_place (b : List Int) (k : Nat) : ∀ (n p q : Nat), (unR b k n p q).2.2 ≤ p + n
  | 0, p, q => by simp [unR]
  | n + 1, p, q => by
    simp only [unR]
    split
    · split
      · simp only; omega
      · have := unR_place b k n (p + 1) (q + 1); omega
    · simp only; omega
theorem z_still {b : List Int} (hb : ByteL b) (p k : Nat) (hp : p ≤ 8 * b.length) (hk : k ≤ 20) : ∃ v p2, m_impl_ztake_take ⟨b, (p : Int), true⟩ k = some (v, S_ztake.mk b p2 true) := by
  by_cases h : p + k ≤ 8 * b.length
  · exact ⟨_, _, z_take hb p k true hp hk h⟩
  · obtain ⟨v, hv⟩ := z_short hb p k true hp hk h
    exact ⟨v, _, hv⟩

/-- one number, impl's way -/
theorem z_folded {b : List Int} (hb : ByteL b) (k p : Nat) (hk : k ≤ 16) (hp : p ≤ 8 * b.length) (a1 a2 a3 a4 a5 : Int) (i : Nat) (hi : i < 16) (p0 l1 acc : List Int) (l3 l4 : List (List Int)) (hacc : acc.length ≤ 100) :
    lp_impl_DecodeTones_108 p0 a1 a2 a3 a4 a5 l1 l3 l4 ((k : Int), (i : Int), b, (p : Int), false, acc) =
      match foldE b k p with
      | .ok (v, p') => some (.inl ((k : Int), ((i + 1 : Nat) : Int), b, (p' : Int), false, acc ++ [v]))
      | .error e => some (.inr (.inr (e, zeroT'))) := by
  have hl := hb.1
  obtain ⟨y, k1, k2⟩ := z_unary hb k hk 0 a1 a2 (i : Int) a3 a4 a5 p0 l1 acc l3 l4 (8 * b.length - p) p 0 hp rfl (by omega)
  have he := unR_err b k (8 * b.length - p) p 0
  have hok := unR_ok b k (8 * b.length - p) p 0 (by omega)
  have hpl := unR_place b k (8 * b.length - p) p 0
  simp only [lp_impl_DecodeTones_108, m_impl_DecodeTones_108, decide_eq_true_eq]
  rw [if_pos (by omega)]
  rw [show ((0 : Nat) : Int) = 0 from rfl] at k1
  rw [k1]
  unfold foldE
  generalize unR b k (8 * b.length - p) p 0 = u at he hok k2 hpl
  obtain ⟨e, q, p1⟩ := u
  simp only at he hok k2 hpl ⊢
  rcases he with rfl | rfl | rfl
  · simp only at k2 ⊢
    subst k2
    obtain ⟨h1, h2⟩ := hok rfl
    simp only [Option.bind_some, m_impl_DecodeTones_137]
    rw [ck_eq (by omega)]
    simp only [Option.bind_some]
    have hv := bV16 b p1 k hk
    by_cases h5 : p1 + k ≤ 8 * b.length
    · rw [z_take hb p1 k false (by omega) (by omega) h5, if_pos h5]
      simp only [Option.bind_some]
      rw [if_neg (by decide), shl64 q k (by omega) (by omega), or64 _ _ (by omega) (by omega), or_nat _ _ k hv.1]
      by_cases h6 : 2097151 < q * 2 ^ k + bV b p1 k
      · rw [if_pos h6, if_pos (decide_eq_true (by omega))]
        rfl
      · rw [if_neg h6, if_neg (by rw [decide_eq_true_eq]; omega), z_unfold _ (by omega)]
        simp only [Option.bind_some]
        rw [ck_eq (by simp; omega)]
        simp only [Option.bind_some]
        rw [w64_succ (by omega)]
    · obtain ⟨v, hv2⟩ := z_short hb p1 k false (by omega) (by omega) h5
      rw [hv2, if_neg h5]
      rfl
  · simp only at k2 ⊢
    subst k2
    simp only [Option.bind_some, m_impl_DecodeTones_137]
    rw [ck_eq (by omega)]
    simp only [Option.bind_some]
    obtain ⟨v, p2, hv⟩ := z_still hb p1 k (by omega) (by omega)
    rw [hv]
    rfl
  · simp only at k2 ⊢
    subst k2
    rfl
/-- the numbers of a slot, impl's way -/
theorem z_folds {b : List Int} (hb : ByteL b) (k : Nat) (hk : k ≤ 16) (a1 a2 a3 a4 a5 : Int) (p0 l1 : List Int) (l3 l4 : List (List Int)) : ∀ (n p i : Nat) (acc : List Int), i + n = 16 → acc.length = i → p ≤ 8 * b.length →
    loopM (lp_impl_DecodeTones_108 p0 a1 a2 a3 a4 a5 l1 l3 l4) ((k : Int), (i : Int), b, (p : Int), false, acc) =
      match foldsE b k n p with
      | .ok (vs, p') => some (.inl (b, (p' : Int), false, acc ++ vs))
      | .error e => some (.inr (e, zeroT'))
  | 0, p, i, acc, hi, ha, hp => by
    rw [loopM_eq]
    simp only [lp_impl_DecodeTones_108, m_impl_DecodeTones_108, decide_eq_true_eq]
    rw [if_neg (by omega)]
    simp [foldsE]
  | n + 1, p, i, acc, hi, ha, hp => by
    rw [loopM_eq, z_folded hb k p hk hp a1 a2 a3 a4 a5 i (by omega) p0 l1 acc l3 l4 (by omega)]
    simp only [foldsE]
    cases h : foldE b k p with
    | error e => rfl
    | ok x =>
      obtain ⟨v, p1⟩ := x
      simp only
      rw [z_folds hb k hk a1 a2 a3 a4 a5 p0 l1 l3 l4 n p1 (i + 1) (acc ++ [v]) (by omega) (by simp [ha]) (foldE_le h)]
      cases foldsE b k n p1 with
      | error e => rfl
      | ok x => simp
/-- the numbers of a slot, the spec's way -/
theorem s_folds {b : List Int} (hb : ByteL b) (k : Nat) (hk : k ≤ 16) (p0 : List Int) (a1 : Int) (x0 : Int × S_l10R) (hx : x0.1 = (k : Int)) (x2 x3 x4 : Int × S_l10R) (l1 : List Int) (l3 l4 : List (List Int)) : ∀ (n p i : Nat) (acc : List Int), i + n = 16 → acc.length = i → p ≤ 8 * b.length →
    match foldsE b k n p with
    | .ok (vs, p') => loopM (lp_spec_DecodeTones_91 p0 a1 x0 x2 x3 x4 l1 l3 l4) ((i : Int), b, (p : Int), 0, acc ++ List.replicate n 0) = some (b, (p' : Int), 0, acc ++ vs)
    | .error e => e ≠ 0 ∧ ∃ (p' : Nat) (l : List Int), loopM (lp_spec_DecodeTones_91 p0 a1 x0 x2 x3 x4 l1 l3 l4) ((i : Int), b, (p : Int), 0, acc ++ List.replicate n 0) = some (b, (p' : Int), e, l) ∧ p' ≤ 8 * b.length
  | 0, p, i, acc, hi, ha, hp => by
    simp only [foldsE]
    rw [loopM_eq]
    simp only [lp_spec_DecodeTones_91, m_spec_DecodeTones_91, decide_eq_true_eq]
    rw [if_neg (by omega)]
    simp
  | n + 1, p, i, acc, hi, ha, hp => by
    have h1 := s_folded hb k p hk hp
    have hstep : ∀ (v : Int) (p1 : Nat) (e : Int), m_spec_l10R_folded ⟨b, p, 0⟩ k = some (v, ⟨b, (p1 : Int), e⟩) →
        lp_spec_DecodeTones_91 p0 a1 x0 x2 x3 x4 l1 l3 l4 ((i : Int), b, (p : Int), 0, acc ++ List.replicate (n + 1) 0) = some (.inl (((i + 1 : Nat) : Int), b, (p1 : Int), e, (acc ++ [v]) ++ List.replicate n 0)) := by
      intro v p1 e hf
      simp only [lp_spec_DecodeTones_91, m_spec_DecodeTones_91, decide_eq_true_eq]
      rw [if_pos (by omega), if_pos (by decide), hx, hf]
      simp only [Option.bind_some]
      rw [rd_eq (by simp; omega)]
      simp only [Option.bind_some]
      rw [w64_succ (by omega)]
      congr 6
      apply List.ext_getElem?
      intro j
      simp only [Nat.zero_add, Int.toNat_natCast, List.getElem?_set, List.getElem?_append, List.length_append, List.length_replicate, List.getElem?_replicate, List.length_singleton, ha]
      by_cases hj : i = j
      · subst hj
        simp
      · rw [if_neg hj]
        by_cases h3 : j < i
        · simp [h3, show j < i + 1 by omega]
        · simp only [h3, show ¬ j < i + 1 by omega, if_false]
          by_cases h5 : j - i < n + 1
          · rw [if_pos h5, if_pos (by omega)]
          · rw [if_neg h5, if_neg (by omega)]
    simp only [foldsE]
    cases h : foldE b k p with
    | error e =>
      rw [h] at h1
      obtain ⟨h2, v, p1, h3, h4⟩ := h1
      refine ⟨h2, p1, (acc ++ [v]) ++ List.replicate n 0, ?_, h4⟩
      rw [loopM_eq, hstep v p1 e h3]
      simp only
      rw [loopM_eq]
      simp only [lp_spec_DecodeTones_91, m_spec_DecodeTones_91]
      rw [if_neg (c := (e == 0) = true) (by simpa using h2), ite_self]
    | ok x =>
      obtain ⟨v, p1⟩ := x
      rw [h] at h1
      obtain ⟨h3, h4⟩ := h1
      have ih := s_folds hb k hk p0 a1 x0 hx x2 x3 x4 l1 l3 l4 n p1 (i + 1) (acc ++ [v]) (by omega) (by simp [ha]) h4
      rw [loopM_eq, hstep v p1 0 h3]
      simp only
      cases h5 : foldsE b k n p1 with
      | error e =>
        rw [h5] at ih
        exact ih
      | ok y =>
        rw [h5] at ih
        simp only at ih ⊢
        rw [ih]
        simp
end Go.Proofs.V

/- The tones' law of decoding: the grades of a slot. -/
set_option linter.unusedVariables false
set_option linter.unusedSimpArgs false
namespace Go.Proofs.V
open Go
def grE (b : List Int) : Nat → Nat → Rdr (List Int)
  | 0, p => .ok ([], p)
  | n + 1, p =>
    if p + 4 ≤ 8 * b.length then
      if 12 < bV b p 4 then .error 5 else
        match grE b n (p + 4) with
        | .error e => .error e
        | .ok (vs, p2) => .ok ((bV b p 4 : Int) :: vs, p2)
    else .error 2
theorem grE_le {b : List Int} : ∀ {n p p' : Nat} {v : List Int}, grE b n p = .ok (v, p') → p ≤ 8 * b.length → p' ≤ 8 * b.length ∧ v.length = n
  | 0, p, p', v, h, hp => by simp [grE] at h; obtain ⟨rfl, rfl⟩ := h; exact ⟨hp, rfl⟩
  | n + 1, p, p', v, h, hp => by
    simp only [grE] at h
    split at h
    · split at h
      · simp at h
      · split at h
        · simp at h
        · rename_i vs p2 h2
          simp at h
          obtain ⟨rfl, rfl⟩ := h
          have := grE_le h2 (by omega)
          simp [this]
    · simp at h
theorem z_grades {b : List Int} (hb : ByteL b) (a1 a2 a3 a4 a5 : Int) (p0 : List Int) (l3 l4 : List (List Int)) : ∀ (n p i : Nat) (acc : List Int), i + n = 8 → acc.length = i → p ≤ 8 * b.length →
    loopM (lp_impl_DecodeTones_57 p0 a1 a2 a3 a4 a5 l3 l4) ((i : Int), b, (p : Int), false, acc) =
      match grE b n p with
      | .ok (vs, p') => some (.inr (b, (p' : Int), false, acc ++ vs))
      | .error e => some (.inl (e, zeroT'))
  | 0, p, i, acc, hi, ha, hp => by
    rw [loopM_eq]
    simp only [lp_impl_DecodeTones_57, m_impl_DecodeTones_57, decide_eq_true_eq]
    rw [if_neg (by omega)]
    simp [grE]
  | n + 1, p, i, acc, hi, ha, hp => by
    have hv := bV16 b p 4 (by omega)
    rw [loopM_eq]
    simp only [lp_impl_DecodeTones_57, m_impl_DecodeTones_57, decide_eq_true_eq]
    rw [if_pos (by omega)]
    simp only [grE]
    by_cases h : p + 4 ≤ 8 * b.length
    · rw [show (4 : Int) = ((4 : Nat) : Int) from rfl, z_take hb p 4 false hp (by omega) h, if_pos h]
      simp only [Option.bind_some]
      rw [if_neg (by decide), w64_id (by omega) (by omega)]
      by_cases h2 : 12 < bV b p 4
      · rw [if_pos h2, if_pos (by omega)]
        rfl
      · rw [if_neg h2, if_neg (by omega), ck_eq (by simp; omega)]
        simp only [Option.bind_some]
        rw [w64_succ (by omega), z_grades hb a1 a2 a3 a4 a5 p0 l3 l4 n (p + 4) (i + 1) _ (by omega) (by simp [ha]) (by omega)]
        cases grE b n (p + 4) with
        | error e => rfl
        | ok x => simp
    · obtain ⟨v, hv2⟩ := z_short hb p 4 false hp (by omega) h
      rw [show (4 : Int) = ((4 : Nat) : Int) from rfl, hv2, if_neg h]
      rfl
theorem rd_d0 {l : List Int} {i : Nat} (h : i < l.length) : rd l (i : Int) = some (l.getD i 0) := by
  rw [rd_eq h, List.getD_eq_getElem?_getD, List.getElem?_eq_getElem h]; rfl
/-- the list that is filled from the left -/
theorem fill_at (acc : List Int) (n : Nat) (v : Int) : (acc ++ List.replicate (n + 1) 0).set (0 + Int.toNat (acc.length : Int)) v = (acc ++ [v]) ++ List.replicate n 0 := by
  simp [List.replicate_succ]
theorem s_grades {b : List Int} (hb : ByteL b) (a1 : Int) (p0 : List Int) (x2 x3 x4 : Int × S_l10R) (l3 l4 : List (List Int)) : ∀ (n p i : Nat) (e : Int) (acc : List Int), i + n = 8 → acc.length = i → p ≤ 8 * b.length →
    ∃ (p' : Nat) (l : List Int), p' ≤ 8 * b.length ∧ loopM (lp_spec_DecodeTones_58 p0 a1 x2 x3 x4 l3 l4) (8, (i : Int), b, (p : Int), e, acc ++ List.replicate n 0) =
      (if e = 0 then
        match grE b n p with
        | .ok (vs, p') => some (b, (p' : Int), 0, acc ++ vs)
        | .error e => some (b, (p' : Int), e, l)
      else some (b, (p' : Int), e, l)) ∧ (e = 0 → ∀ e', grE b n p = .error e' → e' ≠ 0)
  | 0, p, i, e, acc, hi, ha, hp => by
    refine ⟨p, acc, hp, ?_⟩
    rw [loopM_eq]
    simp only [lp_spec_DecodeTones_58, m_spec_DecodeTones_58, decide_eq_true_eq]
    rw [if_neg (by omega)]
    by_cases h : e = 0
    · simp [h, grE]
    · simp [h]
  | n + 1, p, i, e, acc, hi, ha, hp => by
    have hv := bV16 b p 4 (by omega)
    have ht := s_take hb p 4 e hp (by omega)
    rw [loopM_eq]
    simp only [lp_spec_DecodeTones_58, m_spec_DecodeTones_58, decide_eq_true_eq]
    rw [if_pos (by omega), show (4 : Int) = ((4 : Nat) : Int) from rfl, ht]
    have hset : ∀ v : Int, (acc ++ List.replicate (n + 1) 0).set (0 + Int.toNat (i : Int)) v = (acc ++ [v]) ++ List.replicate n 0 := by
      intro v; rw [← ha]; exact fill_at acc n v
    have hrd : rd (acc ++ List.replicate (n + 1) 0) (i : Int) = some ((acc ++ List.replicate (n + 1) 0).getD i 0) := rd_d0 (by simp; omega)
    have hrd2 : ∀ v : Int, rd ((acc ++ [v]) ++ List.replicate n 0) (i : Int) = some (((acc ++ [v]) ++ List.replicate n 0).getD i 0) := fun v => rd_d0 (by simp; omega)
    simp only [grE]
    by_cases h0 : e = 0
    · subst h0
      simp only [if_true]
      by_cases h : p + 4 ≤ 8 * b.length
      · simp only [if_pos h, Option.bind_some, hrd, hset, hrd2, w64_succ (show i < 4611686018427387904 by omega)]
        rw [if_pos (by decide)]
        unfold m_spec_DecodeTones_72
        rw [w64_succ (by omega)]
        by_cases h2 : 12 < bV b p 4
        · rw [if_pos h2, if_pos (decide_eq_true (by omega))]
          simp only [s_fail, Option.bind_some, stand, if_true]
          obtain ⟨p', l, k1, k2, _⟩ := s_grades hb a1 p0 x2 x3 x4 l3 l4 n (p + 4) (i + 1) 5 (acc ++ [((bV b p 4 : Nat) : Int)]) (by omega) (by simp [ha]) (by omega)
          rw [if_neg (by decide)] at k2
          exact ⟨p', l, k1, k2, fun _ e' he => by simp at he; omega⟩
        · rw [if_neg h2, if_neg (by rw [decide_eq_true_eq]; omega)]
          obtain ⟨p', l, k1, k2, k3⟩ := s_grades hb a1 p0 x2 x3 x4 l3 l4 n (p + 4) (i + 1) 0 (acc ++ [((bV b p 4 : Nat) : Int)]) (by omega) (by simp [ha]) (by omega)
          rw [if_pos rfl] at k2
          refine ⟨p', l, k1, ?_, ?_⟩
          · simp only
            rw [k2]
            cases grE b n (p + 4) with
            | error e => rfl
            | ok x => simp
          · intro _ e' he
            have k3 := k3 rfl
            cases h5 : grE b n (p + 4) with
            | error e => rw [h5] at he; simp at he; exact k3 e' (by rw [h5, he])
            | ok x => rw [h5] at he; simp at he
      · simp only [if_neg h, Option.bind_some, hrd, hset]
        rw [if_neg (by decide)]
        unfold m_spec_DecodeTones_72
        rw [w64_succ (by omega)]
        rw [if_neg (by decide)]
        obtain ⟨p', l, k1, k2, _⟩ := s_grades hb a1 p0 x2 x3 x4 l3 l4 n p (i + 1) 2 (acc ++ [0]) (by omega) (by simp [ha]) (by omega)
        rw [if_neg (by decide)] at k2
        exact ⟨p', l, k1, k2, fun _ e' he => by simp at he; omega⟩
    · simp only [if_neg h0, Option.bind_some, hrd, hset]
      rw [if_neg (by simpa using h0)]
      unfold m_spec_DecodeTones_72
      rw [w64_succ (by omega)]
      rw [if_neg (by decide)]
      obtain ⟨p', l, k1, k2, _⟩ := s_grades hb a1 p0 x2 x3 x4 l3 l4 n p (i + 1) e (acc ++ [0]) (by omega) (by simp [ha]) (by omega)
      rw [if_neg h0] at k2
      exact ⟨p', l, k1, k2, fun h => absurd h h0⟩
end Go.Proofs.V

/- The tones' law of decoding: slots, both ways. -/
set_option linter.unusedVariables false
set_option linter.unusedSimpArgs false
namespace Go.Proofs.V
open Go
def rowE (b : List Int) (p : Nat) : Rdr (List Int × List Int) :=
  match grE b 8 p with
  | .error e => .error e
  | .ok (g, p1) =>
    if p1 + 5 ≤ 8 * b.length then
      if 16 < bV b p1 5 then .error 5 else
        match foldsE b (bV b p1 5) 16 (p1 + 5) with
        | .error e => .error e
        | .ok (s, p2) => .ok ((s, g), p2)
    else .error 2
def rowsE (b : List Int) : Nat → Nat → Rdr (List (List Int) × List (List Int))
  | 0, p => .ok (([], []), p)
  | n + 1, p => match rowE b p with
    | .error e => .error e
    | .ok (x, p1) => match rowsE b n p1 with
      | .error e => .error e
      | .ok (xs, p2) => .ok ((x.1 :: xs.1, x.2 :: xs.2), p2)
theorem rowE_le {b : List Int} {p p' : Nat} {v : List Int × List Int} (h : rowE b p = .ok (v, p')) (hp : p ≤ 8 * b.length) : p' ≤ 8 * b.length ∧ v.1.length = 16 ∧ v.2.length = 8 := by
  unfold rowE at h
  split at h
  · simp at h
  · rename_i g p1 h1
    have h2 := grE_le h1 hp
    split at h
    · split at h
      · simp at h
      · split at h
        · simp at h
        · rename_i s p2 h3
          simp at h
          obtain ⟨rfl, rfl⟩ := h
          have h4 := foldsE_le h3 (by omega)
          exact ⟨h4.1, h4.2, h2.2⟩
    · simp at h
theorem rowsE_le {b : List Int} : ∀ {n p p' : Nat} {v : List (List Int) × List (List Int)}, rowsE b n p = .ok (v, p') → p ≤ 8 * b.length → p' ≤ 8 * b.length ∧ v.1.length = n ∧ v.2.length = n ∧ (∀ x ∈ v.1, x.length = 16) ∧ (∀ x ∈ v.2, x.length = 8)
  | 0, p, p', v, h, hp => by simp [rowsE] at h; obtain ⟨rfl, rfl⟩ := h; simp [hp]
  | n + 1, p, p', v, h, hp => by
    simp only [rowsE] at h
    split at h
    · simp at h
    · rename_i x p1 h1
      have h2 := rowE_le h1 hp
      split at h
      · simp at h
      · rename_i xs p2 h3
        have h4 := rowsE_le h3 h2.1
        simp at h
        obtain ⟨rfl, rfl⟩ := h
        simp [h4.1, h4.2.1, h4.2.2.1, h2.2.1, h2.2.2]
        exact h4.2.2.2
/-- a slot, impl's way -/
theorem z_row {b : List Int} (hb : ByteL b) (p i N : Nat) (hp : p ≤ 8 * b.length) (hi : i < N) (hN : N ≤ 1000) (a3 a4 a5 : Int) (p0 : List Int) (l3 l4 : List (List Int)) (h3 : l3.length ≤ 1000) (h4 : l4.length ≤ 1000) :
    lp_impl_DecodeTones_42 p0 a3 a4 a5 ((N : Int), (i : Int), b, (p : Int), false, l3, l4) =
      match rowE b p with
      | .ok (x, p') => some (.inl ((N : Int), ((i + 1 : Nat) : Int), b, (p' : Int), false, l3 ++ [x.1], l4 ++ [x.2]))
      | .error e => some (.inr (.inr (e, zeroT'))) := by
  simp only [lp_impl_DecodeTones_42, m_impl_DecodeTones_42, decide_eq_true_eq]
  rw [if_pos (by omega)]
  have k1 := z_grades hb N i a3 a4 a5 p0 l3 l4 8 p 0 [] rfl rfl hp
  rw [show ((0 : Nat) : Int) = 0 from rfl] at k1
  rw [k1]
  unfold rowE
  cases h : grE b 8 p with
  | error e => rfl
  | ok x =>
    obtain ⟨g, p1⟩ := x
    have hp1 := (grE_le h hp).1
    simp only [Option.bind_some, List.nil_append, m_impl_DecodeTones_85]
    have hv := bV16 b p1 5 (by omega)
    by_cases h5 : p1 + 5 ≤ 8 * b.length
    · rw [show (5 : Int) = ((5 : Nat) : Int) from rfl, z_take hb p1 5 false hp1 (by omega) h5, if_pos h5]
      simp only [Option.bind_some]
      rw [if_neg (by decide), w64_id (by omega) (by omega)]
      by_cases h6 : 16 < bV b p1 5
      · rw [if_pos h6, if_pos (decide_eq_true (by omega))]
        rfl
      · rw [if_neg h6, if_neg (by rw [decide_eq_true_eq]; omega)]
        have k2 := z_folds hb (bV b p1 5) (by omega) N i a3 a4 a5 p0 g l3 l4 16 (p1 + 5) 0 [] rfl rfl h5
        rw [show ((0 : Nat) : Int) = 0 from rfl] at k2
        rw [k2]
        cases h7 : foldsE b (bV b p1 5) 16 (p1 + 5) with
        | error e => rfl
        | ok y =>
          obtain ⟨s, p2⟩ := y
          simp only [Option.bind_some, List.nil_append, m_impl_DecodeTones_157]
          rw [ck_eq (by simp; omega), Option.bind_some, ck_eq (by simp; omega), Option.bind_some, w64_succ (by omega)]
    · obtain ⟨v, hv2⟩ := z_short hb p1 5 false hp1 (by omega) h5
      rw [show (5 : Int) = ((5 : Nat) : Int) from rfl, hv2, if_neg h5]
      rfl
theorem z_rows {b : List Int} (hb : ByteL b) (N : Nat) (hN : N ≤ 1000) (a3 a4 a5 : Int) (p0 : List Int) : ∀ (n p i : Nat) (l3 l4 : List (List Int)), i + n = N → l3.length = i → l4.length = i → p ≤ 8 * b.length →
    loopM (lp_impl_DecodeTones_42 p0 a3 a4 a5) ((N : Int), (i : Int), b, (p : Int), false, l3, l4) =
      match rowsE b n p with
      | .ok (x, p') => some (.inl (b, (p' : Int), false, l3 ++ x.1, l4 ++ x.2))
      | .error e => some (.inr (e, zeroT'))
  | 0, p, i, l3, l4, hi, h3, h4, hp => by
    rw [loopM_eq]
    simp only [lp_impl_DecodeTones_42, m_impl_DecodeTones_42, decide_eq_true_eq]
    rw [if_neg (by omega)]
    simp [rowsE]
  | n + 1, p, i, l3, l4, hi, h3, h4, hp => by
    rw [loopM_eq, z_row hb p i N hp (by omega) hN a3 a4 a5 p0 l3 l4 (by omega) (by omega)]
    simp only [rowsE]
    cases h : rowE b p with
    | error e => rfl
    | ok x =>
      obtain ⟨v, p1⟩ := x
      simp only
      rw [z_rows hb N hN a3 a4 a5 p0 n p1 (i + 1) _ _ (by omega) (by simp [h3]) (by simp [h4]) (rowE_le h hp).1]
      cases rowsE b n p1 with
      | error e => rfl
      | ok x => simp
/-- a slot, the spec's way -/
theorem s_row {b : List Int} (hb : ByteL b) (p i N : Nat) (hp : p ≤ 8 * b.length) (hi : i < N) (hN : N ≤ 1000) (p0 : List Int) (x2 x3 x4 : Int × S_l10R) (hs : m_spec_l11Slots x4.1 = some (N : Int)) (l3 l4 : List (List Int)) (h3 : l3.length ≤ 1000) (h4 : l4.length ≤ 1000) :
    match rowE b p with
    | .ok (x, p') => lp_spec_DecodeTones_43 p0 x2 x3 x4 ((i : Int), b, (p : Int), 0, l3, l4) = some (.inl (((i + 1 : Nat) : Int), b, (p' : Int), 0, l3 ++ [x.1], l4 ++ [x.2]))
    | .error e => e ≠ 0 ∧ ∃ (p' : Nat) (m3 m4 : List (List Int)), p' ≤ 8 * b.length ∧ lp_spec_DecodeTones_43 p0 x2 x3 x4 ((i : Int), b, (p : Int), 0, l3, l4) = some (.inl (((i + 1 : Nat) : Int), b, (p' : Int), e, m3, m4)) := by
  simp only [lp_spec_DecodeTones_43, m_spec_DecodeTones_43, decide_eq_true_eq, hs, Option.bind_some]
  rw [if_pos (by omega), if_pos (by decide), ck_eq (by decide)]
  simp only [Option.bind_some]
  obtain ⟨q, l, k1, k2, k3⟩ := s_grades hb i p0 x2 x3 x4 l3 l4 8 p 0 0 [] rfl rfl hp
  rw [if_pos rfl] at k2
  have k3 := k3 rfl
  -- behind the key: an error that stands
  have errs : ∀ (p1 : Nat) (e : Int) (x0 : Int × S_l10R) (g : List Int), e ≠ 0 → m_spec_DecodeTones_84 p0 (i : Int) x0 x2 x3 x4 g l3 l4 b (p1 : Int) e = some (.inl (((i + 1 : Nat) : Int), b, (p1 : Int), e, l3 ++ [List.replicate 16 0], l4 ++ [g])) := by
    intro p1 e x0 g he
    unfold m_spec_DecodeTones_84
    rw [ck_eq (by decide), Option.bind_some, loopM_eq]
    simp only [lp_spec_DecodeTones_91, m_spec_DecodeTones_91]
    rw [if_pos (c := decide ((0 : Int) < 16) = true) rfl, if_neg (by simpa using he)]
    simp only [Option.bind_some, m_spec_DecodeTones_101]
    rw [ck_eq (by simp; omega), Option.bind_some, ck_eq (by simp; omega), Option.bind_some, w64_succ (by omega)]
    rfl
  have key : ∀ (p1 : Nat) (e : Int) (g : List Int), p1 ≤ 8 * b.length → e ≠ 0 → m_spec_DecodeTones_76 p0 (i : Int) x2 x3 x4 l3 l4 b (p1 : Int) e g = some (.inl (((i + 1 : Nat) : Int), b, (p1 : Int), e, l3 ++ [List.replicate 16 0], l4 ++ [g])) := by
    intro p1 e g hp1 he
    unfold m_spec_DecodeTones_76
    have ht : m_spec_l10R_take ⟨b, p1, e⟩ 5 = _ := s_take hb p1 5 e hp1 (by omega)
    rw [ht, if_neg he]
    simp only [Option.bind_some]
    rw [if_neg (by simpa using he)]
    unfold m_spec_DecodeTones_81
    rw [if_neg (by decide)]
    exact errs p1 e _ g he
  have k2' : loopM (lp_spec_DecodeTones_58 p0 (i : Int) x2 x3 x4 l3 l4) (((Int.toNat 8 : Nat) : Int), 0, b, (p : Int), 0, List.replicate (Int.toNat 8) 0) = _ := k2
  rw [k2']
  unfold rowE
  cases h : grE b 8 p with
  | error e =>
    rw [h] at k3
    have he := k3 e rfl
    simp only [Option.bind_some]
    exact ⟨he, q, _, _, k1, key q e l k1 he⟩
  | ok x =>
    obtain ⟨g, p1⟩ := x
    have hp1 := (grE_le h hp).1
    have hv := bV16 b p1 5 (by omega)
    simp only [Option.bind_some, List.nil_append]
    unfold m_spec_DecodeTones_76
    have ht : m_spec_l10R_take ⟨b, p1, 0⟩ 5 = _ := s_take hb p1 5 0 hp1 (by omega)
    rw [ht, if_pos rfl]
    by_cases h5 : p1 + 5 ≤ 8 * b.length
    · rw [if_pos h5, if_pos h5]
      simp only [Option.bind_some]
      rw [if_pos (c := ((0 : Int) == 0) = true) rfl]
      unfold m_spec_DecodeTones_81
      by_cases h6 : 16 < bV b p1 5
      · rw [if_pos h6, if_pos (decide_eq_true (by omega))]
        simp only [s_fail, stand, if_true, Option.bind_some]
        exact ⟨by decide, p1 + 5, _, _, h5, errs (p1 + 5) 5 _ g (by decide)⟩
      · rw [if_neg h6, if_neg (by rw [decide_eq_true_eq]; omega)]
        unfold m_spec_DecodeTones_84
        rw [ck_eq (by decide), Option.bind_some]
        have kf := s_folds hb (bV b p1 5) (by omega) p0 i (((bV b p1 5 : Nat) : Int), S_l10R.mk b ((p1 + 5 : Nat) : Int) 0) rfl x2 x3 x4 g l3 l4 16 (p1 + 5) 0 [] rfl rfl h5
        cases h7 : foldsE b (bV b p1 5) 16 (p1 + 5) with
        | error e =>
          rw [h7] at kf
          obtain ⟨he, q2, l2, kf1, kf2⟩ := kf
          refine ⟨he, q2, l3 ++ [l2], l4 ++ [g], kf2, ?_⟩
          rw [show (Int.toNat 16) = 16 from rfl]
          simp only [List.nil_append, show ((0 : Nat) : Int) = 0 from rfl] at kf1 ⊢
          rw [kf1]
          simp only [Option.bind_some, m_spec_DecodeTones_101]
          rw [ck_eq (by simp; omega), Option.bind_some, ck_eq (by simp; omega), Option.bind_some, w64_succ (by omega)]
        | ok y =>
          obtain ⟨s, p2⟩ := y
          rw [h7] at kf
          simp only at kf ⊢
          rw [show (Int.toNat 16) = 16 from rfl]
          simp only [List.nil_append, show ((0 : Nat) : Int) = 0 from rfl] at kf ⊢
          rw [kf]
          simp only [Option.bind_some, m_spec_DecodeTones_101]
          rw [ck_eq (by simp; omega), Option.bind_some, ck_eq (by simp; omega), Option.bind_some, w64_succ (by omega)]
    · rw [if_neg h5, if_neg h5]
      simp only [Option.bind_some]
      rw [if_neg (c := ((2 : Int) == 0) = true) (by decide)]
      unfold m_spec_DecodeTones_81
      rw [if_neg (by decide)]
      exact ⟨by decide, p1, _, _, hp1, errs p1 2 _ g (by decide)⟩
theorem s_rows {b : List Int} (hb : ByteL b) (N : Nat) (hN : N ≤ 1000) (p0 : List Int) (x2 x3 x4 : Int × S_l10R) (hs : m_spec_l11Slots x4.1 = some (N : Int)) : ∀ (n p i : Nat) (l3 l4 : List (List Int)), i + n = N → l3.length = i → l4.length = i → p ≤ 8 * b.length →
    match rowsE b n p with
    | .ok (x, p') => loopM (lp_spec_DecodeTones_43 p0 x2 x3 x4) ((i : Int), b, (p : Int), 0, l3, l4) = some (b, (p' : Int), 0, l3 ++ x.1, l4 ++ x.2)
    | .error e => e ≠ 0 ∧ ∃ (p' : Nat) (m3 m4 : List (List Int)), p' ≤ 8 * b.length ∧ loopM (lp_spec_DecodeTones_43 p0 x2 x3 x4) ((i : Int), b, (p : Int), 0, l3, l4) = some (b, (p' : Int), e, m3, m4)
  | 0, p, i, l3, l4, hi, h3, h4, hp => by
    simp only [rowsE]
    rw [loopM_eq]
    simp only [lp_spec_DecodeTones_43, m_spec_DecodeTones_43, decide_eq_true_eq, hs, Option.bind_some]
    rw [if_neg (by omega)]
    simp
  | n + 1, p, i, l3, l4, hi, h3, h4, hp => by
    have h1 := s_row hb p i N hp (by omega) hN p0 x2 x3 x4 hs l3 l4 (by omega) (by omega)
    simp only [rowsE]
    rw [loopM_eq]
    cases h : rowE b p with
    | error e =>
      rw [h] at h1
      obtain ⟨he, p', m3, m4, h5, h6⟩ := h1
      refine ⟨he, p', m3, m4, h5, ?_⟩
      rw [h6]
      simp only
      rw [loopM_eq]
      simp only [lp_spec_DecodeTones_43, m_spec_DecodeTones_43, hs, Option.bind_some]
      rw [if_neg (c := (e == 0) = true) (by simpa using he), ite_self]
    | ok x =>
      obtain ⟨v, p1⟩ := x
      rw [h] at h1
      simp only at h1 ⊢
      rw [h1]
      have ih := s_rows hb N hN p0 x2 x3 x4 hs n p1 (i + 1) (l3 ++ [v.1]) (l4 ++ [v.2]) (by omega) (by simp [h3]) (by simp [h4]) (rowE_le h hp).1
      cases h5 : rowsE b n p1 with
      | error e => rw [h5] at ih; exact ih
      | ok y => rw [h5] at ih; simp only at ih ⊢; rw [ih]; simp
end Go.Proofs.V
