/- The tree semantics: a run of the functions is what the machine does. -/
import Derived.Test.YtfmagdeiaanmcaaFnExactEncodeTonesV1
import Derived.ChangeArms
import Derived.OpenShut
import Derived.Deep.Slices
import Derived.DataReads
import Derived.Below
import Derived.WideShapes
import Derived.Test.YtfmagdeiaanmcaaProg
import Derived.KernelRfl
set_option linter.unusedSimpArgs false
set_option linter.unusedVariables false
namespace Go.Proofs.V
open Go
variable {P : Program}

def initTm (args : Array Value) (n : Nat) : Array Value := args ++ Array.replicate (n - args.size) undef

def pinsOf : List PM → List Value → Nat → List (Nat × Value)
  | pm :: pms, v :: vs, k => (if pm.isBack then [(k, v)] else []) ++ pinsOf pms vs (k + 1)
  | _, _, _ => []

def resV : List Value → Value
  | [v] => v
  | vs => .tuple vs.toArray

def callable (P : Program) (f : FuncId) : Bool :=
  match P.funcs[f]? with
  | some fn => fn.body.isSome && fn.name != "runtime.NumGoroutine"
  | none => false

/-- what a function leaves -/
def Ret (vf : VF) (Ac : Nat → Prop) (pin0 : List (Nat × Value)) (w : World) (Fc : Nat → Prop) (res : FRes) (v : Value) (w' : World) : Prop :=
  ∃ F' O' Go' Gv' st' tm', Rel Ac pin0 w' F' O' Go' Gv' st' tm' ∧ Step Ac w w' ∧ (∀ b, Fc b → F' b) ∧ (∀ b, F' b → Fc b ∨ Ac b) ∧ leave vf st' = some res ∧ v = resV (vf.res.map fun k => tm'.getD k undef)

/-- what a function does, called -/
def Does (P : Program) (f : FuncId) (vf : VF) (st0 : St) (res : FRes) : Prop :=
  ∀ (args : Array Value) (w : World) (Fc Ac : Nat → Prop) (O : Nat → Option Ow) (Go : Nat → Gh) (Gv : Nat → Option Nat), args.size = vf.pm.length → Rel Ac (pinsOf vf.pm args.toList 0) w Fc O Go Gv st0 (initTm args vf.nslots) →
    Calls P f args w fun e w' => ∃ v, e = .returned v ∧ Ret vf Ac (pinsOf vf.pm args.toList 0) w Fc res v w'

def FSound (P : Program) (tbl : FuncId → Option VF) (run : FuncId → List Arg → Option FRes) : Prop :=
  ∀ f vf ars res, tbl f = some vf → run f ars = some res → callable P f = true ∧ ∃ st0, enter vf ars = some st0 ∧ Does P f vf st0 res

theorem Calls.mono {f : FuncId} {args : Array Value} {w : World} {R R' : Ending → World → Prop} (h : Calls P f args w R) (hr : ∀ e w', R e w' → R' e w') : Calls P f args w R' :=
  fun cs => let ⟨e, w', fr, r, s⟩ := h cs; ⟨e, w', fr, hr _ _ r, s⟩

theorem pinsOf_mem : ∀ {pms : List PM} {vs : List Value} {k j : Nat} {v : Value}, (j, v) ∈ pinsOf pms vs k → ∃ i, j = k + i ∧ vs[i]? = some v ∧ ∃ pm, pms[i]? = some pm ∧ pm.isBack = true
  | pm :: pms, u :: vs, k, j, v, h => by
    simp only [pinsOf, List.mem_append] at h
    rcases h with h | h
    · cases hb : pm.isBack with
      | false => simp [hb] at h
      | true =>
        simp [hb] at h
        obtain ⟨rfl, rfl⟩ := h
        exact ⟨0, rfl, rfl, pm, rfl, hb⟩
    · obtain ⟨i, h1, h2, pm', h3, h4⟩ := pinsOf_mem h
      exact ⟨i + 1, by omega, by simpa using h2, pm', by simpa using h3, h4⟩
  | [], _, _, _, _, h | _ :: _, [], _, _, _, h => by simp [pinsOf] at h

theorem pinsOf_in : ∀ {pms : List PM} {vs : List Value} {k i : Nat} {v : Value} {pm : PM}, pms[i]? = some pm → vs[i]? = some v → pm.isBack = true → (k + i, v) ∈ pinsOf pms vs k
  | pm :: pms, u :: vs, k, 0, v, pm', h1, h2, h3 => by
    simp at h1 h2
    subst h1; subst h2
    simp [pinsOf, h3]
  | pm :: pms, u :: vs, k, i + 1, v, pm', h1, h2, h3 => by
    simp only [pinsOf, List.mem_append]
    right
    have := pinsOf_in (k := k + 1) (by simpa using h1) (by simpa using h2) h3
    rwa [show k + 1 + i = k + (i + 1) by omega] at this
  | [], _, _, _, _, _, h1, _, _ => by simp at h1
  | _ :: _, [], _, _, _, _, _, h2, _ => by simp at h2

section
variable {A Ac : Nat → Prop} {pin : List (Nat × Value)} {w w' : World} {F Fc : Nat → Prop} {O Op : Nat → Option Ow} {Go Gop : Nat → Gh} {Gv Gvp : Nat → Option Nat} {st st' stp : St} {tm tmp : Array Value}
variable {tbl : FuncId → Option VF} {run : FuncId → List Arg → Option FRes}

theorem Rel.repin (h : Rel A pin w F O Go Gv st tm) {pin2 : List (Nat × Value)} (hp : ∀ k v, (k, v) ∈ pin2 → tm[k]? = some v) : Rel A pin2 w F O Go Gv st tm := { h with pinned := hp }

theorem Rel.pad : ∀ (n : Nat) {st : St} {tm : Array Value}, Rel A [] w F O Go Gv st tm → Rel A [] w F O Go Gv { st with slots := st.slots ++ List.replicate n undefS } (tm ++ Array.replicate n undef)
  | 0, st, tm, h => by simpa using h
  | n + 1, st, tm, h => by
    have h1 := Rel.pad n (h.pushSlot (v := undef) (s := undefS) undefRel)
    have e1 : (st.slots ++ [undefS]) ++ List.replicate n undefS = st.slots ++ List.replicate (n + 1) undefS := by simp [List.replicate_succ]
    have e2 : tm.push undef ++ Array.replicate n undef = tm ++ Array.replicate (n + 1) undef := by
      apply Array.ext'
      simp [List.replicate_succ]
    simp only [e1, e2] at h1
    exact h1

theorem getAll_rel (h : Rel A pin w F O Go Gv st tm) (ds : List Deferred) : ∀ {xs : List Opd} {ys : List Operand} {l : List SV}, getAll st xs = some l → opdsAre xs ys = true →
    ys.length = l.length ∧ ∀ (k : Nat) (y : Operand) (x : SV), ys[k]? = some y → l[k]? = some x → SRel w F Go Gv st ((Act.mk tm ds).eval y) x
  | [], [], l, hl, _ => by simp [getAll] at hl; subst hl; exact ⟨rfl, by simp⟩
  | [], _ :: _, _, _, ho | _ :: _, [], _, _, ho => by simp [opdsAre] at ho
  | x :: xs, y :: ys, l, hl, ho => by
    simp [opdsAre] at ho
    simp only [getAll] at hl
    split at hl
    · rename_i a b e1 e2
      simp at hl
      subst hl
      obtain ⟨h1, h2⟩ := getAll_rel h ds e2 ho.2
      refine ⟨by simp [h1], fun k y' x' hy hx => ?_⟩
      cases k with
      | zero => simp at hy hx; subst hy; subst hx; exact h.get ho.1 e1 ds
      | succ k => exact h2 k y' x' (by simpa using hy) (by simpa using hx)
    · simp at hl

theorem passAll_len : ∀ {pms : List PM} {xs : List SV} {ps : Pass}, passAll st pms xs = some ps → xs.length = pms.length
  | [], [], _, _ => rfl
  | [], _ :: _, _, h | _ :: _, [], _, h => by simp [passAll] at h
  | pm :: pms, x :: xs, ps, h => by
    simp only [passAll] at h
    split at h
    · rename_i a b h1 h2
      simp [passAll_len h2]
    · simp at h

theorem passAll_ids (h : Rel A pin w F O Go Gv st tm) : ∀ {pms : List PM} {xs : List SV} {ps : Pass} {vals : List Value}, passAll st pms xs = some ps → vals.length = xs.length → (∀ (j : Nat) (v : Value) (x : SV), vals[j]? = some v → xs[j]? = some x → SRel w F Go Gv st v x) →
    ∀ id, id ∈ ps.hs.map (·.1) → id < st.objs.length
  | [], [], ps, vals, hp, _, _ => by simp [passAll] at hp; subst hp; simp
  | [], _ :: _, _, _, hp, _, _ | _ :: _, [], _, _, hp, _, _ => by simp [passAll] at hp
  | pm :: pms, x :: xs, ps, vals, hp, hvl, hvr => by
    simp only [passAll] at hp
    split at hp
    · rename_i pa pb ha hb
      simp at hp
      subst hp
      cases vals with
      | nil => simp at hvl
      | cons v vals =>
        intro id hid
        simp only [List.map_append, List.mem_append] at hid
        rcases hid with hid | hid
        · have hv := hvr 0 v x rfl rfl
          unfold passOne at ha
          split at ha
          · split at ha
            · simp at ha; subst ha; simp at hid
            · simp at ha
          · rename_i ots agg cs
            split at ha
            · rename_i ts us ht
              simp at ha
              subst ha
              rw [roots_fst] at hid
              obtain ⟨_, _, _, _, _, t6⟩ := h.toTs ht (slot_cells hv (toTs_ne ht))
              obtain ⟨o, ho⟩ := t6 id hid
              exact obj_lt ho
            · simp at ha
          · rename_i ots i
            split at ha
            · rename_i cs hcs
              split at ha
              · rename_i ts us ht
                simp at ha
                subst ha
                rw [roots_fst] at hid
                obtain ⟨g, hg, _⟩ := h.vars i cs hcs
                obtain ⟨ws, w1, w2, _⟩ := h.varVals hcs hg
                obtain ⟨_, _, _, _, _, t6⟩ := h.toTs ht w2
                obtain ⟨o, ho⟩ := t6 id hid
                exact obj_lt ho
              · simp at ha
            · simp at ha
          · rename_i ot i p len
            split at ha
            · rename_i o ho
              split at ha
              · split at ha
                · simp at ha
                  subst ha
                  simp at hid
                  subst hid
                  exact obj_lt ho
                · simp at ha
              · simp at ha
            · simp at ha
          · simp at ha
        · exact passAll_ids h hb (by simpa using hvl) (fun j v' x' h1 h2 => hvr (j + 1) v' x' (by simpa using h1) (by simpa using h2)) id hid
    · simp at hp

theorem hasRos_mem : ∀ {p : List OT}, OT.hasRos p = false → ∀ q, q ∈ p → q.hasRo = false
  | [], _, q, hq => by simp at hq
  | a :: p, h, q, hq => by
    simp [OT.hasRos] at h
    rcases List.mem_cons.1 hq with rfl | hq
    · exact h.1
    · exact hasRos_mem h.2 q hq

/-- a call -/
theorem sound_vcall (hf : FSound P tbl run) (h : Rel A pin w F O Go Gv st tm) {d : Nat} (hd : ∀ x, (d, x) ∉ pin) {f : FuncId} {xs : List SV} {vals : List Value} (hvl : vals.length = xs.length) (hvr : ∀ (j : Nat) (v : Value) (x : SV), vals[j]? = some v → xs[j]? = some x → SRel w F Go Gv st v x)
    (hv : vcall tbl run st d f xs = some st') : callable P f = true ∧ Calls P f vals.toArray w fun e w' => ∃ v, e = .returned v ∧ Good A pin w F st' (tm.setIfInBounds d v) w' := by
  unfold vcall at hv
  split at hv
  · simp at hv
  · rename_i vf hvf
    split at hv
    · simp at hv
    · rename_i ps hps
      simp only at hv
      split at hv
      · rename_i hcond
        simp only [Bool.and_eq_true] at hcond
        obtain ⟨⟨⟨hdu, hdv⟩, hap⟩, hro⟩ := hcond
        split at hv
        · simp at hv
        · rename_i r hrun
          obtain ⟨hcall, st0, hent, hdoes⟩ := hf f vf _ r hvf hrun
          refine ⟨hcall, ?_⟩
          have hndo := distinct_nodup hdu
          have hndv := distinct_nodup hdv
          have hnotin : ∀ id, id ∈ ps.ls → id ∉ ps.hs.map (·.1) := by
            intro id hid hin
            simp only [apart, List.all_eq_true] at hap
            have := hap id hid
            simp only [Bool.not_eq_true', List.contains_eq_mem, decide_eq_false_iff_not] at this
            exact this hin
          have hlen := passAll_len hps
          -- what the callee may read
          have hFcO : ∀ b, Hand Go Gv ps.hs ps.vs b → ¬ (F b ∨ ∃ id, id ∈ ps.ls ∧ ∃ r bk, Go id r = some bk ∧ bk.g = b) := by
            rintro b hb (hF | ⟨id, hid, r, bk, e1, e2⟩)
            · obtain ⟨x, hx⟩ := hb.owned h
              rw [h.oF b hF] at hx
              simp at hx
            · have hO := h.oO _ _ _ e1
              rw [e2] at hO
              rcases hb with ⟨x, hx, r', bk', e3, e4⟩ | ⟨i, hi, e3⟩
              · have := h.oO _ _ _ e3
                rw [e4, hO] at this
                simp at this
                exact hnotin id hid (List.mem_map.2 ⟨x, hx, this.1.symm⟩)
              · have := h.oV _ _ e3
                rw [hO] at this
                simp at this
          generalize hFc : (fun b => F b ∨ ∃ id, id ∈ ps.ls ∧ ∃ r bk, Go id r = some bk ∧ bk.g = b) = Fc at *
          have hFcb : ∀ b, Fc b ↔ (F b ∨ ∃ id, id ∈ ps.ls ∧ ∃ r bk, Go id r = some bk ∧ bk.g = b) := fun b => by rw [← hFc]
          have hFsub : ∀ b, F b → Fc b := fun b hb => (hFcb b).2 (.inl hb)
          -- the callee's state
          unfold enter at hent
          split at hent
          · rename_i ste hste
            split at hent
            · rename_i hslots
              simp at hent
              have hinit : Rel (Give w Go Gv ps.hs ps.vs) [] w Fc (fun _ => none) (fun _ _ => none) (fun _ => none) ⟨[], [], []⟩ #[] := by
                refine ⟨rfl, by simp, ?_, by simp, ?_, by simp, by simp, by simp, by simp, by simp, ?_, fun b hb => .inl hb, by simp⟩
                · intro id o ho; simp [obj_eq] at ho
                · intro id cs hcs; simp [var_eq] at hcs
                · intro b hb
                  rcases (hFcb b).1 hb with hb | ⟨id, _, r, bk, e1, e2⟩
                  · exact h.fS b hb
                  · exact e2 ▸ (h.oA _ _ (h.oO _ _ _ e1)).2
              obtain ⟨O0, Go0, Gv0, hrel0⟩ := enter_rel h hFsub [] [] hinit hps hvl hvr (by simpa using hndo) (by simpa using hndv)
                (fun id hid r b hb => (hFcb _).2 (.inr ⟨id, hid, r, b, hb, rfl⟩)) (fun b hb => ⟨fun hc => hFcO b hb ((hFcb b).1 hc), .inr hb⟩) (fun b x hx => by simp at hx) hste
              have hsz : (#[] ++ vals.toArray : Array Value).size = ste.slots.length := hrel0.size
              have hvs : vals.toArray.size = ste.slots.length := by simpa using hsz
              have hpad := hrel0.pad (vf.nslots - ste.slots.length)
              have hargs : (#[] ++ vals.toArray) ++ Array.replicate (vf.nslots - ste.slots.length) undef = initTm vals.toArray vf.nslots := by
                unfold initTm
                rw [hvs]
                simp
              rw [hargs, hent] at hpad
              have hpin0 : Rel (Give w Go Gv ps.hs ps.vs) (pinsOf vf.pm vals.toArray.toList 0) w Fc O0 Go0 Gv0 st0 (initTm vals.toArray vf.nslots) := by
                refine hpad.repin (fun k v hk => ?_)
                obtain ⟨i, e1, e2, _⟩ := pinsOf_mem hk
                have hk' : k = i := by omega
                subst hk'
                have hkl : k < vals.length := (List.getElem?_eq_some_iff.1 (by simpa using e2)).1
                unfold initTm
                rw [Array.getElem?_append]
                have : k < vals.toArray.size := by simpa using hkl
                simp only [this, if_true]
                simpa using e2
              refine (hdoes vals.toArray w Fc (Give w Go Gv ps.hs ps.vs) O0 Go0 Gv0 (by simp [hvl, hlen]) hpin0).mono ?_
              rintro e w' ⟨v, rfl, F', O', Go', Gv', stf, tm', hr', hs', hFF, hFF', hleave, hvres⟩
              refine ⟨v, rfl, ?_⟩
              -- what comes back
              unfold leave at hleave
              split at hleave
              · rename_i rs us1 vs1 ms us2 vs2 hout1 hout2
                split at hleave
                · rename_i hdist
                  simp only [Bool.and_eq_true] at hdist
                  simp at hleave
                  subst hleave
                  have hnu := distinct_nodup hdist.1
                  have hnv := distinct_nodup hdist.2
                  have hgoal : ∀ (F3 : Nat → Prop) (K : OT → Prop), Ctx A pin (pinsOf vf.pm vals.toArray.toList 0) w w' F F' F3 O O' Go Go' Gv Gv' st stf tm tm' ps.hs ps.vs K → (∀ pm, pm ∈ vf.pm → pm.kinds K) → (∀ rm, rm ∈ vf.rm → rm.kinds K) → (∀ b, F3 b → F b ∨ A b) →
                      Good A pin w F st' (tm.setIfInBounds d v) w' := by
                    intro F3 K c hK1 hK2 hF3A
                    obtain ⟨OS, GoS, GvS, hi0⟩ := c.start
                    split at hv
                    · simp at hv
                    · rename_i st2 hback
                      obtain ⟨OS2, GoS2, GvS2, D2, Rst2, RstV2, hi2⟩ := back_all c (k := 0) hps hout2 hvl hvr
                        (fun j pm v' h1 h2 h3 => by
                          have := hr'.pinned (0 + j) v' (pinsOf_in h1 (by simpa using h2) h3)
                          exact this)
                        (fun x hx => hx) (fun x hx => hx) (by simpa using hndo) (by simpa using hndv) (by simpa using (List.nodup_append.1 hnu).2.1) (by simpa using (List.nodup_append.1 hnv).2.1) hK1 hi0 hback
                      have hrel2 := hi2.rel c
                      have htr : Tr w O O' OS2 Go Gv ps.hs ps.vs us2 vs2 := by
                        intro b x hx
                        rcases hi2.own b x hx with ⟨h1, _⟩ | h1
                        · exact .inl h1
                        · exact .inr (by simpa using h1)
                      have hnu' : (us2 ++ us1).Nodup := (List.perm_append_comm.nodup_iff).1 hnu
                      have hnv' : (vs2 ++ vs1).Nodup := (List.perm_append_comm.nodup_iff).1 hnv
                      have hstep : Step A w w' := ⟨hs'.size, fun b hb ha => hs'.heap b hb (fun hg => ha (c.giveA hg)), hs'.tape, hs'.os, hs'.output⟩
                      split at hv
                      · rename_i agg cs st3 hin
                        simp at hv
                        subst hv
                        obtain ⟨O3, Go3, Gv3, q1, q2, q3, q4⟩ := c.takeAll hrel2 htr hout1 hnu' hnv' hK2 hin
                        have hl1 : vf.res.length = 1 := by simpa using q3.symm
                        match hres : vf.res, hl1 with
                        | [k0], _ =>
                          rw [hres] at hvres q4
                          simp only [List.map_cons, List.map_nil, resV] at hvres
                          have := q4 0 v (agg, cs) (by simp [hvres]) rfl
                          exact ⟨F3, O3, Go3, Gv3, q1.put (s := .v agg cs) this hd, hstep, c.hF, hF3A⟩
                      · rename_i l st3 hne hin
                        simp at hv
                        subst hv
                        obtain ⟨O3, Go3, Gv3, q1, q2, q3, q4⟩ := c.takeAll hrel2 htr hout1 hnu' hnv' hK2 hin
                        have hvt : v = .tuple (vf.res.map fun k => tm'.getD k undef).toArray := by
                          rw [hvres]
                          unfold resV
                          split
                          · rename_i u he
                            have hl1 : vf.res.length = 1 := by
                              have := congrArg List.length he
                              simpa using this
                            rw [hl1] at q3
                            match l, q3 with
                            | [(agg, cs)], _ => exact (hne _ _ rfl).elim
                          · rfl
                        refine ⟨F3, O3, Go3, Gv3, q1.put (s := .tup l) ⟨_, hvt, by simp [q3], fun k u x hu hx => q4 k u x (by simpa using hu) hx⟩ hd, hstep, c.hF, hF3A⟩
                      · simp at hv
                  have hnotF : ∀ b, F b → ¬ Give w Go Gv ps.hs ps.vs b := by
                    rintro b hb (h1 | h1)
                    · have := h.fS b hb; omega
                    · obtain ⟨x, hx⟩ := h1.owned h
                      rw [h.oF b hb] at hx
                      simp at hx
                  have hgiveA : ∀ b, Give w Go Gv ps.hs ps.vs b → A b := by
                    rintro b (hb | hb)
                    · exact h.aN b hb
                    · obtain ⟨x, hx⟩ := hb.owned h
                      exact (h.oA b x hx).1
                  have hids := passAll_ids h hps hvl hvr
                  simp only [Bool.or_eq_true] at hro
                  rcases hro with hls | hnr
                  · have hls' : ps.ls = [] := by simpa using hls
                    have hFcF : ∀ b, Fc b → F b := by
                      intro b hb
                      rcases (hFcb b).1 hb with hb | ⟨id, hid, _⟩
                      · exact hb
                      · rw [hls'] at hid; simp at hid
                    refine hgoal F' (fun _ => True) ⟨h, hr', hs', hndo, hndv, hids, fun b hb => hFF b (hFsub b hb), hr'.fS, fun b hb hn => ?_, fun b hb _ => hr'.oF b hb, fun _ h => h⟩ ?_ ?_ ?_
                    · rcases hFF' b hb with h1 | h1
                      · exact h.oF b (hFcF b h1)
                      · exact absurd h1 hn
                    · intro pm _
                      cases pm <;> simp [PM.kinds]
                    · intro rm _
                      cases rm <;> simp [RM.kinds]
                    · intro b hb
                      rcases hFF' b hb with h1 | h1
                      · exact .inl (hFcF b h1)
                      · exact .inr (hgiveA b h1)
                  · simp only [Bool.not_eq_true', Bool.or_eq_false_iff] at hnr
                    refine hgoal F (fun q => q.hasRo = false) ⟨h, hr', hs', hndo, hndv, hids, fun b hb => hb, fun b hb => Nat.lt_of_lt_of_le (h.fS b hb) hs'.size, fun b hb _ => h.oF b hb, fun b hb hg => absurd hg (hnotF b hb), fun hq ho => ho.noRo hq⟩ ?_ ?_ (fun b hb => .inl hb)
                    · intro pm hpm
                      have := hnr.1
                      simp only [List.any_eq_false] at this
                      have := this pm hpm
                      cases pm with
                      | mb ots => intro o ho; exact hasRos_mem (by simpa [PM.hasRo] using this) o ho
                      | ms ot => simpa [PM.kinds, PM.hasRo, OT.hasRo] using this
                      | _ => trivial
                    · intro rm hrm
                      have := hnr.2
                      simp only [List.any_eq_false] at this
                      have := this rm hrm
                      cases rm with
                      | v ots => intro o ho; exact hasRos_mem (by simpa [RM.hasRo] using this) o ho
                      | p ots => intro o ho; exact hasRos_mem (by simpa [RM.hasRo] using this) o ho
                · simp at hleave
              · simp at hleave
            · simp at hent
          · simp at hent
      · simp at hv

theorem run_callFunc {f : FuncId} (h : callable P f = true) (args : Array Value) (w : World) : (callFunc f args).run P w = .ok (.enter f args) w := by
  unfold callable at h
  split at h
  · rename_i fn hfn
    simp only [Bool.and_eq_true, bne_iff_ne, ne_eq] at h
    unfold callFunc
    have h1 : ¬ (fn.name == "runtime.NumGoroutine") = true := by simpa using h.2
    have h2 : fn.body.isNone = false := by
      cases hb : fn.body <;> simp_all
    simp only [Sem.run_bind, run_program, Result.andThen_ok, hfn, h1, if_false, h2, Bool.false_eq_true]
    rfl
  · simp at h

theorem callOk (hf : FSound P tbl run) : CallOk P tbl run := by
  intro A pin w F O Go Gv st st' tm ds v o h hop hv hcall hd hdst next Q hn
  cases v with
  | call d f xs =>
    simp only [opIs] at hop
    split at hop
    · rename_i f' args ts heq
      simp only [Bool.and_eq_true, beq_iff_eq] at hop
      obtain ⟨rfl, hargs⟩ := hop
      simp only [vop, Option.bind_eq_some_iff] at hv
      obtain ⟨l, hl, hv⟩ := hv
      obtain ⟨h1, h2⟩ := getAll_rel h ds hl hargs
      obtain ⟨hc, hcalls⟩ := sound_vcall hf h (d := d) hd (vals := args.toList.map (Act.mk tm ds).eval) (by simpa using h1) (fun j v x hj hx => by
        simp only [List.getElem?_map, Option.map_eq_some_iff] at hj
        obtain ⟨y, hy, rfl⟩ := hj
        exact h2 j y x hy hx) hv
      have hrun : (execOp (Act.mk tm ds).eval o).run P w = .ok (.enter f (args.toList.map (Act.mk tm ds).eval).toArray) w := by
        have e : (args.toList.map (Act.mk tm ds).eval).toArray = args.map (Act.mk tm ds).eval := by apply Array.ext'; simp
        rw [e]
        have := run_callFunc hc (args.map (Act.mk tm ds).eval) w
        simp only [execOp, heq, resolve, Act.eval, Deferred.ofValue, Sem.run_bind, Sem.run_pure, Result.andThen_ok, invoke]
        simpa using this
      unfold Oper.wp
      rw [hrun, Oper.upon_enter]
      refine hcalls.mono ?_
      rintro e w' ⟨v, rfl, hg⟩
      simp only [hdst]
      exact hn _ _ hg
    · simp at hop
  | callc d x xs =>
    simp only [opIs] at hop
    split at hop
    · rename_i x' args ts heq
      simp only [Bool.and_eq_true] at hop
      obtain ⟨hx, hargs⟩ := hop
      simp only [vop] at hv
      split at hv
      · rename_i f caps l hcx hl
        split at hv
        · rename_i hcaps
          obtain ⟨h1, h2⟩ := getAll_rel h ds hl hargs
          obtain ⟨ws, e1, e2, e3⟩ := (h.cell hx hcx ds).1
          obtain ⟨hc, hcalls⟩ := sound_vcall hf h (d := d) hd (vals := args.toList.map (Act.mk tm ds).eval ++ ws.toList) (by simp [h1, e2]) (fun j v x hj hx' => by
          rw [List.getElem?_append] at hj hx'
          simp only [List.length_map, h1] at hj
          split at hj
          · rename_i hlt
            simp only [hlt, if_true] at hx'
            simp only [List.getElem?_map, Option.map_eq_some_iff] at hj
            obtain ⟨y, hy, rfl⟩ := hj
            exact h2 j y x hy hx'
          · rename_i hlt
            simp only [hlt, if_false] at hx'
            simp only [List.getElem?_map, Option.map_eq_some_iff] at hx'
            obtain ⟨id, hid, rfl⟩ := hx'
            have hvr := e3 _ v id (by simpa using hj) hid
            have hal : (st.var id).isSome = true := by
              simp only [List.all_eq_true] at hcaps
              exact hcaps id (List.mem_of_getElem? hid)
            obtain ⟨cs, hcs⟩ := Option.isSome_iff_exists.1 hal
            obtain ⟨g, _, e4⟩ := hvr.2 cs hcs
            exact ⟨_, rfl, .inl (by rw [e4]; rfl), hvr⟩) hv
          have hrun : (execOp (Act.mk tm ds).eval o).run P w = .ok (.enter f (args.toList.map (Act.mk tm ds).eval ++ ws.toList).toArray) w := by
            have e : (args.toList.map (Act.mk tm ds).eval ++ ws.toList).toArray = args.map (Act.mk tm ds).eval ++ ws := by apply Array.ext'; simp
            rw [e]
            have := run_callFunc hc (args.map (Act.mk tm ds).eval ++ ws) w
            simp only [execOp, heq, resolve, e1, Deferred.ofValue, Sem.run_bind, Sem.run_pure, Result.andThen_ok, invoke]
            simpa using this
          unfold Oper.wp
          rw [hrun, Oper.upon_enter]
          refine hcalls.mono ?_
          rintro e w' ⟨v, rfl, hg⟩
          simp only [hdst]
          exact hn _ _ hg
        · simp at hv
      · simp at hv
    · simp at hop
  | _ => simp [VOp.isCall] at hcall
end
end Go.Proofs.V

/- The tree semantics: the functions of a table. -/
set_option linter.unusedSimpArgs false
set_option linter.unusedVariables false
namespace Go.Proofs.V
open Go
variable {P : Program}

def resAre (P : Program) (pins : List Nat) : List Nat → List (Option (Nat × Bool)) → List ResultVar → Bool
  | [], _, [] => true
  | k :: ks, [], .tmp t :: rs => k == t && resAre P pins ks [] rs
  | k :: ks, none :: rc, .tmp t :: rs => k == t && resAre P pins ks rc rs
  | k :: ks, some (n, agg) :: rc, .cell a t :: rs => k == a && !pins.contains k && sizeIs P t n && underIs P t (fun d => isAggD d == agg) && resAre P pins ks rc rs
  | _, _, _ => false

def pinIdx : List PM → Nat → List Nat
  | [], _ => []
  | pm :: pms, k => (if pm.isBack then [k] else []) ++ pinIdx pms (k + 1)

/-- the compiled form of a function is that of the text -/
def funcIs (P : Program) (tbl : FuncId → Option VF) (f : FuncId) (vf : VF) : Bool :=
  match P.funcs[f]? with
  | some fn =>
    match fn.body with
    | some c => fn.name != "runtime.NumGoroutine" && fn.ntmps == vf.nslots && distinct vf.res && resAre P (pinIdx vf.pm 0) vf.res vf.rc fn.results.toList && chk P tbl (pinIdx vf.pm 0) vf.code c
    | none => false
  | none => false

theorem pinIdx_of : ∀ {pms : List PM} {vs : List Value} {k j : Nat} {v : Value}, (j, v) ∈ pinsOf pms vs k → j ∈ pinIdx pms k
  | pm :: pms, u :: vs, k, j, v, h => by
    simp only [pinsOf, List.mem_append] at h
    simp only [pinIdx, List.mem_append]
    rcases h with h | h
    · left
      cases hb : pm.isBack with
      | false => simp [hb] at h
      | true => simp [hb] at h; simp [h.1]
    · exact .inr (pinIdx_of h)
  | [], _, _, _, _, h | _ :: _, [], _, _, _, h => by simp [pinsOf] at h

theorem loadAt_asAddr {t : TypeId} {x v : Value} {w w' : World} (h : (Instr.loadAt t x).run P w = .ok v w') : (do loadVar t (← asAddr x) : Sem Value).run P w = .ok v w' := by
  unfold Instr.loadAt at h
  cases x with
  | pointer a =>
    cases a with
    | some a =>
      simp only [Sem.run_bind, asAddr, Instr.sureAddr, Sem.run_pure, Result.andThen_ok] at h ⊢
      exact h
    | none => cases h
  | _ => cases h

section
variable {A : Nat → Prop} {pin : List (Nat × Value)} {w : World} {F : Nat → Prop} {O : Nat → Option Ow} {Go : Nat → Gh} {Gv : Nat → Option Nat}

theorem results_list (pins : List Nat) (hpins : pinsOk pins pin) (tm0 : Array Value) : ∀ (ks : List Nat) (rc : List (Option (Nat × Bool))) (rs : List ResultVar) {st st2 : St} {tm : Array Value}, resAre P pins ks rc rs = true → ks.Nodup → Rel A pin w F O Go Gv st tm →
    (∀ k, k ∈ ks → tm[k]? = tm0[k]?) → resLoad ks rc st = some st2 →
    ∃ tm2, Rel A pin w F O Go Gv st2 tm2 ∧ (∀ k, k ∉ ks → tm2[k]? = tm[k]?) ∧ ∀ g : ResultVar → Sem Value, (∀ t, g (.tmp t) = pure (tm0.getD t undef)) → (∀ a t, g (.cell a t) = do loadVar t (← asAddr (tm0.getD a undef))) → (rs.mapM g).run P w = .ok (ks.map fun k => tm2.getD k undef) w
  | [], rc, rs, st, st2, tm, h, hnd, hr, htm, hl => by
    have e : st2 = st := by cases rc <;> simp [resLoad] at hl <;> exact hl.symm
    subst e
    cases rs with
    | nil => exact ⟨tm, hr, fun _ _ => rfl, fun g _ _ => by simp [Sem.run_pure]⟩
    | cons r rs => cases rc <;> simp [resAre] at h
  | k :: ks, rc, [], st, st2, tm, h, hnd, hr, htm, hl => by
    cases rc with
    | nil => simp [resAre] at h
    | cons o rc => cases o <;> simp [resAre] at h
  | k :: ks, rc, .tmp t :: rs, st, st2, tm, h, hnd, hr, htm, hl => by
    have hk : ∃ rc', k = t ∧ resAre P pins ks rc' rs = true ∧ resLoad ks rc' st = some st2 := by
      cases rc with
      | nil =>
        simp only [resAre, Bool.and_eq_true, beq_iff_eq] at h
        refine ⟨[], h.1, h.2, ?_⟩
        simp [resLoad] at hl
        cases ks <;> simp [resLoad, hl]
      | cons o rc =>
        cases o with
        | none =>
          simp only [resAre, Bool.and_eq_true, beq_iff_eq] at h
          exact ⟨rc, h.1, h.2, by simpa [resLoad] using hl⟩
        | some x => simp [resAre] at h
    obtain ⟨rc', rfl, h1, h2⟩ := hk
    have hnd' := List.nodup_cons.1 hnd
    obtain ⟨tm2, hr2, hs2, hg2⟩ := results_list pins hpins tm0 ks rc' rs h1 hnd'.2 hr (fun j hj => htm j (by simp [hj])) h2
    refine ⟨tm2, hr2, fun j hj => hs2 j (fun h => hj (by simp [h])), fun g hg hg' => ?_⟩
    have : tm2[k]? = tm0[k]? := (hs2 k hnd'.1).trans (htm k (by simp))
    have e : tm2.getD k undef = tm0.getD k undef := by simp only [Array.getD_eq_getD_getElem?, this]
    rw [List.mapM_cons, Sem.run_bind, hg, Sem.run_pure, Result.andThen_ok, Sem.run_bind, hg2 g hg hg', Result.andThen_ok, Sem.run_pure, List.map_cons, e]
  | k :: ks, rc, .cell a t :: rs, st, st2, tm, h, hnd, hr, htm, hl => by
    cases rc with
    | nil => simp [resAre] at h
    | cons o rc =>
      cases o with
      | none => simp [resAre] at h
      | some x =>
        obtain ⟨n, agg⟩ := x
        simp only [resAre, Bool.and_eq_true, beq_iff_eq, Bool.not_eq_true'] at h
        obtain ⟨⟨⟨⟨rfl, hp⟩, hn⟩, hag⟩, hrest⟩ := h
        simp only [resLoad] at hl
        split at hl
        · rename_i st1 h1
          split at h1
          · rename_i h4
            simp only [Bool.or_eq_true, decide_eq_true_eq] at h4
            have hd : ∀ x, (k, x) ∉ pin := fun x hx => by
              have := hpins _ _ hx
              simp at hp
              exact hp this
            obtain ⟨v, hv, hr1⟩ := sound_load (P := P) hr (x := .s k) (y := .tmp k) (by simp [opdIs]) h1 hn hag h4 hd []
            have hnd' := List.nodup_cons.1 hnd
            have hks : k < tm.size := by
              rcases Nat.lt_or_ge k tm.size with h5 | h5
              · exact h5
              · exfalso
                have : st.slots[k]? = none := by rw [List.getElem?_eq_none]; rw [← hr.size]; exact h5
                unfold vload at h1
                simp [St.cell, St.get, this] at h1
            obtain ⟨tm2, hr2, hs2, hg2⟩ := results_list pins hpins tm0 ks rc rs hrest hnd'.2 hr1 (fun j hj => by
              have : k ≠ j := fun e => hnd'.1 (e ▸ hj)
              rw [Array.getElem?_setIfInBounds_ne this]
              exact htm j (by simp [hj])) hl
            refine ⟨tm2, hr2, fun j hj => ?_, fun g hg hg' => ?_⟩
            · have h1 : j ∉ ks := fun h => hj (by simp [h])
              have h2 : k ≠ j := fun e => hj (by simp [e])
              rw [hs2 j h1, Array.getElem?_setIfInBounds_ne h2]
            · have e2 : tm2.getD k undef = v := by
                simp only [Array.getD_eq_getD_getElem?, hs2 k hnd'.1]
                simp [Array.getElem?_setIfInBounds, hks]
              have e3 : tm0.getD k undef = tm.getD k undef := by simp only [Array.getD_eq_getD_getElem?, htm k (by simp)]
              have hv' : (do loadVar t (← asAddr (tm0.getD k undef)) : Sem Value).run P w = .ok v w := by
                rw [e3]
                exact loadAt_asAddr hv
              rw [List.mapM_cons, Sem.run_bind, hg', hv', Result.andThen_ok, Sem.run_bind, hg2 g hg hg', Result.andThen_ok, Sem.run_pure, List.map_cons, e2]
          · simp at h1
        · simp at hl
end

theorem run_results {A : Nat → Prop} {pin : List (Nat × Value)} {w : World} {F : Nat → Prop} {O : Nat → Option Ow} {Go : Nat → Gh} {Gv : Nat → Option Nat} {st st2 : St} {tm : Array Value} {pins : List Nat} (hpins : pinsOk pins pin) {fn : Func} {ks : List Nat} {rc : List (Option (Nat × Bool))}
    (h : resAre P pins ks rc fn.results.toList = true) (hd : distinct ks = true) (hr : Rel A pin w F O Go Gv st tm) (hl : resLoad ks rc st = some st2) :
    ∃ tm2, Rel A pin w F O Go Gv st2 tm2 ∧ (results fn tm).run P w = .ok (resV (ks.map fun k => tm2.getD k undef)) w := by
  obtain ⟨tm2, hr2, _, hg⟩ := results_list pins hpins tm ks rc _ h (distinct_nodup hd) hr (fun _ _ => rfl) hl
  refine ⟨tm2, hr2, ?_⟩
  unfold results
  rw [Array.mapM_eq_mapM_toList]
  simp only [Sem.run_bind, map_eq_pure_bind]
  rw [hg _ (fun t => rfl) (fun a t => rfl)]
  simp only [Result.andThen_ok, Sem.run_pure]
  congr 1
  match ks with
  | [k] => rfl
  | [] => rfl
  | a :: b :: l => simp [resV]

variable {tbl : FuncId → Option VF} {ext : FuncId → List Arg → Option FRes}

theorem vrun_sound (hext : ∀ f vf ars res st0, tbl f = some vf → vf.given = true → enter vf ars = some st0 → ext f ars = some res → callable P f = true ∧ Does P f vf st0 res)
    (htbl : ∀ f vf, tbl f = some vf → vf.given = false → funcIs P tbl f vf = true) : ∀ n, FSound P tbl (vrun ext tbl n)
  | 0 => by intro f vf ars res _ h; simp [vrun] at h
  | n + 1 => by
    intro f vf ars res hvf h
    simp only [vrun, hvf] at h
    split at h
    · simp at h
    · rename_i st0 hst0
      by_cases hg : vf.given = true
      · simp only [hg, if_true] at h
        obtain ⟨h1, h2⟩ := hext f vf ars res st0 hvf hg hst0 h
        exact ⟨h1, st0, hst0, h2⟩
      · have hg' : vf.given = false := by simpa using hg
        simp only [hg', Bool.false_eq_true, if_false] at h
        have hfi := htbl f vf hvf hg'
        unfold funcIs at hfi
        split at hfi
        · rename_i fn hfn
          split at hfi
          · rename_i c hc
            simp only [Bool.and_eq_true, bne_iff_ne, ne_eq, beq_iff_eq] at hfi
            obtain ⟨⟨⟨⟨hname, hnt⟩, hdist⟩, hres⟩, hchk⟩ := hfi
            refine ⟨?_, st0, hst0, ?_⟩
            · unfold callable
              simp [hfn, hc, hname]
            · intro args w Fc Ac O Go Gv hargs hrel
              have hpins : pinsOk (pinIdx vf.pm 0) (pinsOf vf.pm args.toList 0) := fun k x hx => pinIdx_of hx
              have hcall : CallOk P tbl (vrun ext tbl n) := callOk (vrun_sound hext htbl n)
              refine calls_of_wp hfn hc ?_
              have hend : ∀ x st1, vexec tbl (vrun ext tbl n) n vf.code st0 = some (x, st1) → leave2 vf st1 = some res → (exitOf x = .normal ∨ exitOf x = .ret) →
                  c.wp P (bodyPost P fn fun e w' => ∃ v, e = .returned v ∧ Ret vf Ac (pinsOf vf.pm args.toList 0) w Fc res v w') ⟨args ++ Array.replicate (fn.ntmps - args.size) undef, []⟩ w := by
                intro x st1 hx hl he
                rw [hnt]
                refine sound_code hcall hpins [] n vf.code _ hchk hrel hx ?_
                rintro tm' w' ⟨F1, O1, Go1, Gv1, hr1, hs1, hf1, hf1'⟩
                obtain ⟨st2, hl1, hl2⟩ := Option.bind_eq_some_iff.1 hl
                obtain ⟨tm2, hr2, hrun⟩ := run_results hpins hres hdist hr1 hl1
                have hpost : ([] : List Deferred) = [] ∧ ∃ v, (results fn tm').run P w' = .ok v w' ∧ ∃ v', Ending.returned v = .returned v' ∧ Ret vf Ac (pinsOf vf.pm args.toList 0) w Fc res v' w' :=
                  ⟨rfl, _, hrun, _, rfl, F1, O1, Go1, Gv1, st2, tm2, hr2, hs1, hf1, hf1', hl2, rfl⟩
                rcases he with he | he
                · rw [he]; exact hpost
                · rw [he]; exact hpost
              split at h
              · rename_i st1 hx
                exact hend _ _ hx h (.inl rfl)
              · rename_i st1 hx
                exact hend _ _ hx h (.inr rfl)
              · simp at h
          · simp at hfi
        · simp at hfi
end Go.Proofs.V

/- The tree semantics: a law's arguments, read as trees. -/
set_option linter.unusedSimpArgs false
set_option linter.unusedVariables false
namespace Go.Proofs.V
open Go

/-- the types of cells that arguments have -/
inductive Ty where
  | int (k : IntKind)
  | bool
  | str
  | sl (p : List Ty)
  deriving Inhabited

mutual
def Ty.ot : Ty → OT
  | .int _ => .sc
  | .bool => .sc
  | .str => .sc
  | .sl p => .ro (Ty.ots p)
def Ty.ots : List Ty → List OT
  | [] => []
  | a :: x => Ty.ot a :: Ty.ots x
end

theorem Ty.ots_length : ∀ p : List Ty, (Ty.ots p).length = p.length
  | [] => rfl
  | _ :: x => by simp [Ty.ots, Ty.ots_length x]
theorem Ty.ots_get : ∀ (p : List Ty) (j : Nat) (q : OT), (Ty.ots p)[j]? = some q → ∃ y, p[j]? = some y ∧ q = y.ot
  | [], j, q, h => by simp [Ty.ots] at h
  | a :: x, 0, q, h => by simp [Ty.ots] at h; exact ⟨a, rfl, h.symm⟩
  | a :: x, j + 1, q, h => by
    simp [Ty.ots] at h
    obtain ⟨y, h1, h2⟩ := Ty.ots_get x j q h
    exact ⟨y, by simpa using h1, h2⟩
theorem Ty.ots_at : ∀ (p : List Ty) (j : Nat) (y : Ty), p[j]? = some y → (Ty.ots p)[j]? = some y.ot
  | [], j, y, h => by simp at h
  | a :: x, 0, y, h => by simp at h; subst h; rfl
  | a :: x, j + 1, y, h => by simpa [Ty.ots] using Ty.ots_at x j y (by simpa using h)

/-- a tree of a type -/
inductive Wt : Ty → T → Prop
  | int {k : IntKind} {n : Int} (h : (Lit.int k n).wf = true) : Wt (.int k) (.lit (.int k n))
  | bool {b : Bool} : Wt .bool (.lit (.bool b))
  | str {s : ByteArray} (h : s.size ≤ maxLen) : Wt .str (.lit (.string s))
  | sl {p : List Ty} {es : List (List T)} (hl : es.length ≤ maxLen) (hr : ∀ (i : Nat) (row : List T), es[i]? = some row → row.length = p.length)
      (hs : ∀ (i j : Nat) (row : List T) (x : T) (q : Ty), es[i]? = some row → row[j]? = some x → p[j]? = some q → Wt q x) : Wt (.sl p) (.sl es)

/-- a type's cells -/
def tyIs (P : Program) : Nat → TypeId → List Ty → Bool
  | 0, _, _ => false
  | n + 1, t, p =>
    match P.underlying t with
    | some .bool => (match p with | [.bool] => P.cellsOf t == 1 | _ => false)
    | some (.int k) => (match p with | [.int k'] => k == k' && P.cellsOf t == 1 | _ => false)
    | some .string => (match p with | [.str] => P.cellsOf t == 1 | _ => false)
    | some (.slice e) => (match p with | [.sl q] => P.cellsOf t == 1 && P.cellsOf e == q.length && decide (0 < q.length) && tyIs P n e q | _ => false)
    | some (.struct fs) =>
      P.cellsOf t == p.length &&
      (fs.toList.foldl (fun (x : Bool × Nat) f => (x.1 && f.offset == x.2 && tyIs P n f.type ((p.drop x.2).take (P.cellsOf f.type)) && decide (x.2 + P.cellsOf f.type ≤ p.length), x.2 + P.cellsOf f.type)) (true, 0)) == (true, p.length)
    | some (.array m e) => P.cellsOf t == p.length && p.length == m * P.cellsOf e && decide (0 < P.cellsOf e) && (List.range m).all fun i => tyIs P n e ((p.drop (i * P.cellsOf e)).take (P.cellsOf e))
    | _ => false

section
variable {P : Program} {H : Type} {enc : TypeId × Value → H} {w : World} {spare : Nat → Bool} {held : Bool}

/-- one cell as a tree -/
def CellOk (w : World) (q : Ty) (v : Value) (x : T) : Prop := v.oneCell' = true ∧ Rd w (fun b => b < w.heap.size) q.ot v x ∧ Wt q x

def CellsOk (w : World) (p : List Ty) (cs : List Value) : Prop := cs.length = p.length ∧ ∀ (j : Nat) (q : Ty) (v : Value), p[j]? = some q → cs[j]? = some v → ∃ x, CellOk w q v x

theorem fields_all (n : Nat) (p : List Ty) : ∀ (fs : List Field) (b : Bool) (off : Nat) (r : Bool × Nat),
    fs.foldl (fun (x : Bool × Nat) f => (x.1 && f.offset == x.2 && tyIs P n f.type ((p.drop x.2).take (P.cellsOf f.type)) && decide (x.2 + P.cellsOf f.type ≤ p.length), x.2 + P.cellsOf f.type)) (b, off) = r → r.1 = true →
    b = true ∧ off ≤ r.2 ∧ ∀ k, off ≤ k → k < r.2 → ∃ (i : Nat) (f : Field), fs[i]? = some f ∧ f.offset ≤ k ∧ k < f.offset + P.cellsOf f.type ∧ f.offset + P.cellsOf f.type ≤ p.length ∧ tyIs P n f.type ((p.drop f.offset).take (P.cellsOf f.type)) = true
  | [], b, off, r, h, hr => by
    simp at h
    subst h
    exact ⟨hr, Nat.le_refl _, fun k h1 h2 => by simp only at h2; omega⟩
  | f :: fs, b, off, r, h, hr => by
    simp only [List.foldl_cons] at h
    obtain ⟨h1, h2, h3⟩ := fields_all n p fs _ _ r h hr
    simp only [Bool.and_eq_true, beq_iff_eq, decide_eq_true_eq] at h1
    obtain ⟨⟨⟨h4, h5⟩, h6⟩, h7⟩ := h1
    refine ⟨h4, by omega, fun k hk1 hk2 => ?_⟩
    by_cases hk : k < off + P.cellsOf f.type
    · exact ⟨0, f, rfl, by omega, by omega, by omega, by rw [h5]; exact h6⟩
    · obtain ⟨i, f', a, c⟩ := h3 k (by omega) hk2
      exact ⟨i + 1, f', by simpa using a, c⟩

theorem trod_cells : ∀ (n : Nat) {t : TypeId} {p : List Ty} {fuel : Nat} {cs : List Value} {x : DataW H × List MemPlace}, tyIs P n t p = true → DataW.trod enc P w 0 spare held fuel t cs = some x → CellsOk w p cs
  | 0, t, p, fuel, cs, x, ht, _ => by simp [tyIs] at ht
  | n + 1, t, p, fuel, cs, x, ht, h => by
    unfold tyIs at ht
    split at ht
    · rename_i hu
      obtain ⟨b, rfl, _⟩ := DataW.trod_bool hu h
      split at ht
      · refine ⟨rfl, fun j q v hq hv => ?_⟩
        cases j with
        | zero => simp at hq hv; subst hq; subst hv; exact ⟨.lit (.bool b), rfl, .sc rfl, .bool⟩
        | succ j => simp at hq
      · simp at ht
    · rename_i k hu
      obtain ⟨m, rfl, _, hwf⟩ := DataW.trod_int hu h
      split at ht
      · simp only [Bool.and_eq_true, beq_iff_eq] at ht
        obtain ⟨rfl, _⟩ := ht
        refine ⟨rfl, fun j q v hq hv => ?_⟩
        cases j with
        | zero => simp at hq hv; subst hq; subst hv; exact ⟨.lit (.int k m), rfl, .sc rfl, .int hwf⟩
        | succ j => simp at hq
      · simp at ht
    · rename_i hu
      obtain ⟨s, rfl, _, hs⟩ := DataW.trod_string hu h
      split at ht
      · refine ⟨rfl, fun j q v hq hv => ?_⟩
        cases j with
        | zero => simp at hq hv; subst hq; subst hv; exact ⟨.lit (.string s), rfl, .sc rfl, .str hs⟩
        | succ j => simp at hq
      · simp at ht
    · rename_i e hu
      split at ht
      · rename_i q
        simp only [Bool.and_eq_true, beq_iff_eq, decide_eq_true_eq] at ht
        obtain ⟨⟨⟨_, hce⟩, hq0⟩, hte⟩ := ht
        have key : ∃ x, CellOk w (.sl q) (cs.headD undef) x := by
          rcases Deep.open_slice hu h with ⟨rfl, _⟩ | ⟨a, len, cap, m, n', D, Pl, rfl, _, hl, hm, hmm, _, hel⟩
          · exact ⟨.sl [], rfl, .emp (by simp [maxLen]), .sl (by simp [maxLen]) (by simp) (by simp)⟩
          · have hlm : len ≤ m := by subst hmm; split <;> omega
            by_cases h0 : len = 0
            · subst h0
              exact ⟨.sl [], rfl, .emp hm, .sl (by simp) (by simp) (by simp)⟩
            · have hc : ∀ i, i < len → ∃ cs' : List Value, cs'.length = q.length ∧ (∀ j, j < q.length → w.cell? ((a.add (i * q.length)).add j) = cs'[j]?) ∧ CellsOk w q cs' := by
                intro i hi
                obtain ⟨cs', h1, h2⟩ := hel i (by omega)
                obtain ⟨_, h3, h4⟩ := World.cells?_some h1
                rw [hce] at h1 h3 h4
                exact ⟨cs', h3, h4, trod_cells n hte h2⟩
              obtain ⟨g, o, spot⟩ := a
              have hspot : spot = none := by
                obtain ⟨cs', h1, h2, _⟩ := hc 0 (by omega)
                have := h2 0 hq0
                have hlt : 0 < cs'.length := by omega
                rw [List.getElem?_eq_getElem hlt] at this
                simp only [Nat.zero_mul, Addr.add, if_true] at this
                unfold World.cell? at this
                split at this
                · split at this
                  · simp at this
                  · rename_i hs
                    simpa using hs
                · simp at this
              subst hspot
              have hg : g < w.heap.size := by
                obtain ⟨cs', h1, h2, _⟩ := hc 0 (by omega)
                have := h2 0 hq0
                have hlt : 0 < cs'.length := by omega
                rw [List.getElem?_eq_getElem hlt] at this
                simp only [Nat.zero_mul, Addr.add, if_true] at this
                unfold World.cell? at this
                rcases Nat.lt_or_ge g w.heap.size with h5 | h5
                · exact h5
                · simp [Array.getElem?_eq_none h5] at this
              obtain ⟨css, hcl, hcs⟩ := list_of (Q := fun i (cs' : List Value) => cs'.length = q.length ∧ (∀ j, j < q.length → w.cell? ⟨g, o + i * q.length + j, none⟩ = cs'[j]?) ∧ CellsOk w q cs') len (fun i hi => by
                obtain ⟨cs', h1, h2, h3⟩ := hc i hi
                exact ⟨cs', h1, fun j hj => by rw [← h2 j hj, addr_add, addr_add], h3⟩)
              obtain ⟨es, hel2, hes⟩ := list_of (Q := fun i (row : List T) => row.length = q.length ∧ ∀ (j : Nat) (y : Ty) (v : Value) (x : T), q[j]? = some y → (css[i]?).bind (·[j]?) = some v → row[j]? = some x → CellOk w y v x) len (fun i hi => by
                obtain ⟨h1, h2, h3⟩ := hcs i css[i] (by simp)
                obtain ⟨row, r1, r2⟩ := list_of (Q := fun j (x : T) => ∀ (y : Ty) (v : Value), q[j]? = some y → css[i][j]? = some v → CellOk w y v x) q.length (fun j hj => by
                  obtain ⟨x, hx⟩ := h3.2 j q[j] (css[i][j]'(by omega)) (by simp [hj]) (by simp)
                  exact ⟨x, fun y v hy hv => by simp [hj] at hy; subst hy; rw [List.getElem?_eq_getElem (by omega)] at hv; simp at hv; subst hv; exact hx⟩)
                refine ⟨row, r1, fun j y v x hy hv hx => ?_⟩
                have hci : css[i]? = some css[i] := by simp
                rw [hci] at hv
                exact r2 j x hx y v hy (by simpa using hv))
              have hrow : ∀ (i : Nat) (row : List T), es[i]? = some row → row.length = q.length := fun i row hi => (hes i row hi).1
              refine ⟨.sl es, rfl, ?_, .sl (by omega) hrow ?_⟩
              · show Rd w _ (.ro (Ty.ots q)) _ _
                have := Rd.sl (w := w) (F := fun b => b < w.heap.size) (p := Ty.ots q) (g := g) (o := o) (cap := cap) (es := es) (fun i j => ((css[i]?).bind (·[j]?)).getD undef) hg (by omega) hm
                  (fun i row hi => by rw [Ty.ots_length]; exact hrow i row hi) (fun i j hi hj => by
                    rw [Ty.ots_length] at hj ⊢
                    have hi' : i < css.length := by omega
                    obtain ⟨h1, h2, h3⟩ := hcs i css[i] (by simp [hi'])
                    rw [h2 j hj]
                    have hj' : j < css[i].length := by omega
                    simp [hi', hj'])
                  (fun i j row x y hi hx hy => by
                    obtain ⟨y', hy', rfl⟩ := Ty.ots_get _ _ _ hy
                    have hi' : i < css.length := by
                      have := (List.getElem?_eq_some_iff.1 hi).1
                      omega
                    obtain ⟨h1, h2, h3⟩ := hcs i css[i] (by simp [hi'])
                    have hj' : j < css[i].length := by
                      have := (List.getElem?_eq_some_iff.1 hy').1
                      omega
                    have := ((hes i row hi).2 j y' css[i][j] x hy' (by simp [hi', hj']) hx).2.1
                    simpa [hi', hj'] using this)
                rw [hel2] at this
                exact this
              · intro i j row x y hi hx hy
                have hi' : i < css.length := by
                  have := (List.getElem?_eq_some_iff.1 hi).1
                  omega
                obtain ⟨h1, h2, h3⟩ := hcs i css[i] (by simp [hi'])
                have hj' : j < css[i].length := by
                  have := (List.getElem?_eq_some_iff.1 hy).1
                  omega
                exact ((hes i row hi).2 j y css[i][j] x hy (by simp [hi', hj']) hx).2.2
        have hlen : ∃ v, cs = [v] := by
          rcases Deep.open_slice hu h with ⟨rfl, _⟩ | ⟨a, len, cap, m, n', D, Pl, rfl, _⟩
          · exact ⟨_, rfl⟩
          · exact ⟨_, rfl⟩
        obtain ⟨v, rfl⟩ := hlen
        refine ⟨rfl, fun j y u hy hu' => ?_⟩
        cases j with
        | zero => simp at hy hu'; subst hy; subst hu'; simpa using key
        | succ j => simp at hy
      · simp at ht
    · rename_i fs hu
      simp only [Bool.and_eq_true, beq_iff_eq] at ht
      obtain ⟨hc, hf⟩ := ht
      obtain ⟨xs, m, _, _, hl, _, hx⟩ := DataW.trod_struct hu h
      obtain ⟨_, _, hall⟩ := fields_all n p fs.toList true 0 _ hf rfl
      refine ⟨by omega, fun j q v hq hv => ?_⟩
      have hj : j < p.length := (List.getElem?_eq_some_iff.1 hq).1
      obtain ⟨i, f, h1, h2, h3, h4, h5⟩ := hall j (Nat.zero_le _) hj
      have hxf := hx i f (by simpa using h1)
      have hi : i < xs.length := by
        have := (List.getElem?_eq_some_iff.1 h1).1
        simp at this
        omega
      rw [List.getElem?_eq_getElem hi] at hxf
      have := trod_cells n h5 hxf
      have hg : j - f.offset < P.cellsOf f.type := by omega
      refine this.2 (j - f.offset) q v ?_ ?_
      · rw [List.getElem?_take, if_pos hg, List.getElem?_drop, show f.offset + (j - f.offset) = j by omega]; exact hq
      · rw [List.getElem?_take, if_pos hg, List.getElem?_drop, show f.offset + (j - f.offset) = j by omega]; exact hv
    · rename_i m e hu
      simp only [Bool.and_eq_true, beq_iff_eq, decide_eq_true_eq, List.all_eq_true, List.mem_range] at ht
      obtain ⟨⟨⟨hc, hpl⟩, he0⟩, hall⟩ := ht
      obtain ⟨xs, m', _, _, hl, hxl, hx⟩ := DataW.trod_array hu h
      refine ⟨by omega, fun j q v hq hv => ?_⟩
      have hj : j < p.length := (List.getElem?_eq_some_iff.1 hq).1
      have hdm := Nat.div_add_mod j (P.cellsOf e)
      have hmod := Nat.mod_lt j he0
      have hi : j / P.cellsOf e < m := Nat.div_lt_of_lt_mul (by rw [Nat.mul_comm]; omega)
      have hxf := hx (j / P.cellsOf e) hi
      rw [List.getElem?_eq_getElem (by omega)] at hxf
      have := trod_cells n (hall _ hi) hxf
      have hjj : j / P.cellsOf e * P.cellsOf e + j % P.cellsOf e = j := by rw [Nat.mul_comm]; exact hdm
      refine this.2 (j % P.cellsOf e) q v ?_ ?_
      · rw [List.getElem?_take, if_pos hmod, List.getElem?_drop, hjj]; exact hq
      · rw [List.getElem?_take, if_pos hmod, List.getElem?_drop, hjj]; exact hv
    · simp at ht
end
end Go.Proofs.V

/- The tree semantics: a law's call. -/
set_option linter.unusedSimpArgs false
set_option linter.unusedVariables false
namespace Go.Proofs.V
open Go Go.RowKit
variable {P : Program}

theorem cells_one {v : Value} (h : v.oneCell' = true) : v.cells = #[v] := by
  cases v <;> first | rfl | simp [Value.oneCell'] at h

/-- cells of types -/
def Wts (p : List Ty) (ts : List T) : Prop := ts.length = p.length ∧ ∀ (j : Nat) (q : Ty) (x : T), p[j]? = some q → ts[j]? = some x → Wt q x

/-- a value of a parameter's type: is it a struct or an array? -/
def shapeIs (P : Program) (t : TypeId) (agg : Bool) : Bool :=
  match P.underlying t with
  | some (.struct _) => agg
  | some (.array _ _) => agg
  | some .bool => !agg
  | some (.int _) => !agg
  | some .string => !agg
  | some (.slice _) => !agg
  | _ => false

def ParOk (w : World) (p : Bool × List Ty) (v : Value) : Prop := CellsOk w p.2 v.cells.toList ∧ (p.1 = true → ∃ cs, v = .agg cs) ∧ (p.1 = false → v.oneCell' = true)

theorem par_ok {H : Type} {enc : TypeId × Value → H} {w : World} {spare : Nat → Bool} {held : Bool} {r : Reach} {base n : Nat} {t : TypeId} {p : Bool × List Ty} {v : Value} {d : DataW H} {ps : List MemPlace} (h1 : tyIs P n t p.2 = true) (h2 : shapeIs P t p.1 = true)
    (hd : DataW.Trod enc P w 0 spare held t v d ps) (hv : Value.okWide P w r base t v) : ParOk w p v := by
  obtain ⟨fuel, hd⟩ := hd
  refine ⟨trod_cells n h1 hd, fun hp => ?_, fun hp => ?_⟩
  · unfold shapeIs at h2
    unfold Value.okWide at hv
    split at h2
    · rename_i hu; rw [hu] at hv; obtain ⟨cs, e, _⟩ := hv; exact ⟨cs, e⟩
    · rename_i hu; rw [hu] at hv; obtain ⟨cs, e, _⟩ := hv; exact ⟨cs, e⟩
    all_goals simp [hp] at h2
  · unfold shapeIs at h2
    split at h2
    · simp [hp] at h2
    · simp [hp] at h2
    · rename_i hu
      simp only [Value.okWide, hu, Cell.okWide] at hv
      cases v <;> simp_all [Cell.ok, Value.oneCell']
    · rename_i hu
      simp only [Value.okWide, hu, Cell.okWide] at hv
      cases v <;> simp_all [Cell.ok, Value.oneCell']
    · rename_i hu
      simp only [Value.okWide, hu, Cell.okWide] at hv
      cases v <;> simp_all [Cell.ok, Value.oneCell']
    · rename_i hu
      obtain ⟨a, l, c, rfl⟩ := WideShapes.okWide_slice hu hv
      rfl
    · simp at h2

theorem CellsOk.trees {w : World} {p : List Ty} {cs : List Value} (h : CellsOk w p cs) : ∃ ts : List T, Wts p ts ∧ ∀ (j : Nat) (o : OT) (x : T) (v : Value), (Ty.ots p)[j]? = some o → ts[j]? = some x → cs[j]? = some v → v.oneCell' = true ∧ Rd w (fun b => b < w.heap.size) o v x := by
  obtain ⟨ts, h1, h2⟩ := list_of (Q := fun j (x : T) => ∀ (q : Ty) (v : Value), p[j]? = some q → cs[j]? = some v → CellOk w q v x) p.length (fun j hj => by
    have hj' : j < cs.length := by rw [h.1]; exact hj
    obtain ⟨x, hx⟩ := h.2 j p[j] cs[j] (by simp [hj]) (by simp [hj'])
    exact ⟨x, fun q v hq hv => by simp [hj] at hq; simp [hj'] at hv; subst hq; subst hv; exact hx⟩)
  refine ⟨ts, ⟨h1, fun j q x hq hx => ?_⟩, fun j o x v ho hx hv => ?_⟩
  · have hj' : j < cs.length := by rw [h.1]; exact (List.getElem?_eq_some_iff.1 hq).1
    exact (h2 j x hx q cs[j] hq (by simp [hj'])).2.2
  · obtain ⟨q, hq, rfl⟩ := Ty.ots_get _ _ _ ho
    have := h2 j x hx q v hq hv
    exact ⟨this.1, this.2.1⟩

def argsOf (ps : List (Bool × List Ty)) (tss : List (List T)) : List Arg := List.zipWith (fun p ts => Arg.v p.1 ts) ps tss
def parsOf (ps : List (Bool × List Ty)) : List PM := ps.map fun p => .ro (Ty.ots p.2)
def trueRes : FRes := ⟨[.v false [.lit (.bool true)]], []⟩

/-- THE PLAIN LAW: whatever the trees, the run answers true -/
def LawPure (ext : FuncId → List Arg → Option FRes) (tbl : FuncId → Option VF) (f : FuncId) (ps : List (Bool × List Ty)) : Prop :=
  ∀ tss : List (List T), tss.length = ps.length → (∀ (i : Nat) (p : Bool × List Ty) (ts : List T), ps[i]? = some p → tss[i]? = some ts → Wts p.2 ts) → ∃ n, vrun ext tbl n f (argsOf ps tss) = some trueRes

theorem pinsOf_ro : ∀ (ps : List (Bool × List Ty)) (vs : List Value) (k : Nat), pinsOf (parsOf ps) vs k = []
  | [], vs, k => by cases vs <;> rfl
  | p :: ps, [], k => rfl
  | p :: ps, v :: vs, k => by simp [parsOf, pinsOf, PM.isBack]; exact pinsOf_ro ps vs (k + 1)

theorem enter_law {w : World} {Ac : Nat → Prop} {F : Nat → Prop} {O : Nat → Option Ow} {Go : Nat → Gh} {Gv : Nat → Option Nat} : ∀ {ps : List (Bool × List Ty)} {tss : List (List T)} {vals : List Value} {st st0 : St} {tm : Array Value},
    Rel Ac [] w F O Go Gv st tm → vals.length = ps.length → tss.length = ps.length → (∀ (i : Nat) (p : Bool × List Ty) (ts : List T) (v : Value), ps[i]? = some p → tss[i]? = some ts → vals[i]? = some v →
      (p.1 = true → ∃ cs, v = .agg cs) ∧ (p.1 = false → v.oneCell' = true) ∧ v.cells.toList.length = p.2.length ∧ ts.length = p.2.length ∧ ∀ (j : Nat) (o : OT) (x : T) (u : Value), (Ty.ots p.2)[j]? = some o → ts[j]? = some x → v.cells.toList[j]? = some u → u.oneCell' = true ∧ Rd w F o u x) →
    enterAll st (parsOf ps) (argsOf ps tss) = some st0 → Rel Ac [] w F O Go Gv st0 (tm ++ vals.toArray)
  | [], tss, vals, st, st0, tm, h, hv, ht, _, he => by
    have : vals = [] := List.eq_nil_of_length_eq_zero (by simpa using hv)
    subst this
    have : tss = [] := List.eq_nil_of_length_eq_zero (by simpa using ht)
    subst this
    simp [parsOf, argsOf, enterAll] at he
    subst he
    simpa using h
  | p :: ps, [], vals, st, st0, tm, h, hv, ht, _, he => by simp at ht
  | p :: ps, ts :: tss, [], st, st0, tm, h, hv, ht, _, he => by simp at hv
  | p :: ps, ts :: tss, v :: vals, st, st0, tm, h, hv, ht, hh, he => by
    simp only [parsOf, argsOf, List.map_cons, List.zipWith_cons_cons, enterAll, enter1] at he
    split at he
    · rename_i st1 h1
      split at h1
      · simp at h1
        subst h1
        obtain ⟨a1, a2, a3, a4, a5⟩ := hh 0 p ts v rfl rfl rfl
        have hs : SRel w F Go Gv st v (.v p.1 (roCs (Ty.ots p.2) ts)) := by
          have hcs : CsRel w F Go Gv st v.cells.toList (roCs (Ty.ots p.2) ts) := roCs_rel (by rw [Ty.ots_length]; exact a4) (by rw [Ty.ots_length]; exact a3) a5
          cases hp : p.1 with
          | true =>
            obtain ⟨cs, rfl⟩ := a1 hp
            exact ⟨cs, rfl, hcs⟩
          | false =>
            have ho := a2 hp
            have hvc : v.cells = #[v] := cells_one ho
            rw [hvc] at hcs
            match hr : roCs (Ty.ots p.2) ts, hcs with
            | [c], hcs => exact ⟨c, rfl, .inl ho, (hcs.2 0 v c rfl rfl).2⟩
            | [], hcs => exact absurd hcs.1 (by simp)
            | _ :: _ :: _, hcs => exact absurd hcs.1 (by simp)
        have := enter_law (h.pushSlot hs) (by simpa using hv) (by simpa using ht) (fun i p' ts' v' x y z => hh (i + 1) p' ts' v' (by simpa using x) (by simpa using y) (by simpa using z)) he
        have e : tm ++ (v :: vals).toArray = tm.push v ++ vals.toArray := by simp
        rw [e]
        exact this
      · simp at h1
    · simp at he

variable {ext : FuncId → List Arg → Option FRes} {tbl : FuncId → Option VF}

theorem law_calls (hs : ∀ n, FSound P tbl (vrun ext tbl n)) {f : FuncId} {vf : VF} (hvf : tbl f = some vf) {ps : List (Bool × List Ty)} (hpm : vf.pm = parsOf ps) (hrm : vf.rm = [.v [.sc]]) (hp : LawPure ext tbl f ps) {w : World} {vals : List Value} (hl : vals.length = ps.length)
    (hv : ∀ (i : Nat) (p : Bool × List Ty) (v : Value), ps[i]? = some p → vals[i]? = some v → ParOk w p v) : Calls P f vals.toArray w fun e w' => e = .returned (.bool true) ∧ Below w.heap.size w w' := by
  obtain ⟨tss, t1, t2⟩ := list_of (Q := fun i (ts : List T) => ∀ (p : Bool × List Ty) (v : Value), ps[i]? = some p → vals[i]? = some v → Wts p.2 ts ∧ ∀ (j : Nat) (o : OT) (x : T) (u : Value), (Ty.ots p.2)[j]? = some o → ts[j]? = some x → v.cells.toList[j]? = some u → u.oneCell' = true ∧ Rd w (fun b => b < w.heap.size) o u x) ps.length (fun i hi => by
    have hi' : i < vals.length := by omega
    obtain ⟨ts, h1, h2⟩ := (hv i ps[i] vals[i] (by simp [hi]) (by simp [hi'])).1.trees
    exact ⟨ts, fun p v hp' hv' => by simp [hi] at hp'; simp [hi'] at hv'; subst hp'; subst hv'; exact ⟨h1, h2⟩⟩)
  obtain ⟨n, hrun⟩ := hp tss t1 (fun i p ts hp' ht' => by
    have hi : i < vals.length := by rw [hl]; exact (List.getElem?_eq_some_iff.1 hp').1
    exact (t2 i ts ht' p vals[i] hp' (by simp [hi])).1)
  obtain ⟨_, st0, hent, hdoes⟩ := hs n f vf _ _ hvf hrun
  unfold enter at hent
  split at hent
  · rename_i ste hste
    split at hent
    · simp at hent
      have hinit : Rel (fun b => w.heap.size ≤ b) [] w (fun b => b < w.heap.size) (fun _ => none) (fun _ _ => none) (fun _ => none) ⟨[], [], []⟩ #[] := by
        refine ⟨rfl, by simp, ?_, by simp, ?_, by simp, by simp, by simp, by simp, by simp, fun b hb => hb, fun b hb => hb, by simp⟩
        · intro id o ho; simp [obj_eq] at ho
        · intro id cs hcs; simp [var_eq] at hcs
      rw [hpm] at hste
      have hrel := enter_law hinit hl t1 (fun i p ts v hp' ht' hv' => by
        have h1 := hv i p v hp' hv'
        have h2 := t2 i ts ht' p v hp' hv'
        exact ⟨h1.2.1, h1.2.2, h1.1.1, h2.1.1, h2.2⟩) hste
      have hsz : (#[] ++ vals.toArray : Array Value).size = ste.slots.length := hrel.size
      have hvs : vals.toArray.size = ste.slots.length := by simpa using hsz
      have hpad := hrel.pad (vf.nslots - ste.slots.length)
      have hargs : (#[] ++ vals.toArray) ++ Array.replicate (vf.nslots - ste.slots.length) undef = initTm vals.toArray vf.nslots := by
        unfold initTm
        rw [hvs]
        simp
      rw [hargs, hent] at hpad
      have hpins : pinsOf vf.pm vals.toArray.toList 0 = [] := by rw [hpm]; exact pinsOf_ro ps _ 0
      refine (hdoes vals.toArray w _ _ _ _ _ (by simp [hpm, parsOf, hl]) (by rw [hpins]; exact hpad)).mono ?_
      rintro e w' ⟨v, rfl, F', O', Go', Gv', st', tm', hr, hstep, _, _, hleave, hvv⟩
      refine ⟨?_, hstep.os, hstep.tape, hstep.output, hstep.size, fun k hk => hstep.heap k hk (by omega)⟩
      congr 1
      unfold leave at hleave
      rw [hrm] at hleave
      split at hleave
      · rename_i rs us1 vs1 ms us2 vs2 h1 h2
        split at hleave
        · simp only [Option.some.injEq, trueRes, FRes.mk.injEq] at hleave
          obtain ⟨rfl, rfl⟩ := hleave
          match hres : vf.res, h1 with
          | [], h1 => simp [outRs] at h1
          | k :: k2 :: ks, h1 =>
            simp only [outRs] at h1
            split at h1
            · rename_i h3; simp at h3
            · simp at h1
          | [k], h1 =>
            simp only [outRs] at h1
            split at h1
            · rename_i a us vs ars us' vs' e1 e2
              simp at h1 e2
              obtain ⟨⟨rfl, rfl⟩, _, _⟩ := h1
              obtain ⟨s, hs1, hs2⟩ := Option.bind_eq_some_iff.1 e1
              have hk : k < tm'.size := by rw [hr.size]; exact (List.getElem?_eq_some_iff.1 hs1).1
              have hsr := hr.slots k tm'[k] s (by simp [hk]) hs1
              unfold outR at hs2
              split at hs2
              · rename_i ots agg cs e3
                simp at e3
                subst e3
                split at hs2
                · rename_i ts us3 ht
                  simp at hs2
                  obtain ⟨⟨rfl, rfl⟩, _⟩ := hs2
                  obtain ⟨c, hc1, _, hc2⟩ := hsr
                  simp at hc1
                  subst hc1
                  simp only [V.toTs] at ht
                  split at ht
                  · rename_i x u xs us4 h3 h4
                    simp at ht
                    obtain ⟨⟨rfl, _⟩, _⟩ := ht
                    cases c with
                    | lit y =>
                      simp only [V.toT] at h3
                      split at h3
                      · simp at h3
                        rw [hvv, hres]
                        simp only [CRel] at hc2
                        simp [resV, hk, hc2, h3.1]
                      · simp at h3
                    | _ => simp [V.toT] at h3
                  · simp at ht
                · simp at hs2
              · rename_i e3; simp at e3
              · simp at hs2
            · simp at h1
        · simp at hleave
      · simp at hleave
    · simp at hent
  · simp at hent
end Go.Proofs.V

/- Runs of code with what is not known told ahead: the answers are given, what they must fulfil is gathered. Definitions alone. -/
namespace Go.Proofs.V
open Go

/-- an answer that is given -/
inductive Orc where
  | row (r : List T)
  | rows (es : List (List T))
  | num (n : Nat)
  | int (n : Int)
  | bit (b : Bool)
  | res (r : FRes)

def X (α : Type) : Type := List Orc → Option (α × List Orc × List Prop)

def xpure {α : Type} (a : α) : X α := fun os => some (a, os, [])
def xbind {α β : Type} (x : X α) (f : α → X β) : X β := fun os =>
  match x os with
  | none => none
  | some (a, os1, p) =>
    match f a os1 with
    | none => none
    | some (b, os2, q) => some (b, os2, p ++ q)
def xfail {α : Type} : X α := fun _ => none
def xof {α : Type} : Option α → X α
  | some a => xpure a
  | none => xfail
def xask (p : Prop) : X Unit := fun os => some ((), os, [p])
def xnum : X Nat
  | .num n :: os => some (n, os, [])
  | _ => none
def xint : X Int
  | .int n :: os => some (n, os, [])
  | _ => none
def xrow : X (List T)
  | .row r :: os => some (r, os, [])
  | _ => none
def xrows : X (List (List T))
  | .rows r :: os => some (r, os, [])
  | _ => none
def xbit : X Bool
  | .bit b :: os => some (b, os, [])
  | _ => none
def xres : X FRes
  | .res r :: os => some (r, os, [])
  | _ => none
/-- the rows, told anew -/
def xtell (es : List (List T)) : X (List (List T)) := xbind xrows fun es' => xbind (xask (es = es')) fun _ => xpure es'
/-- a length, told anew -/
def xsize (n : Nat) : X Nat := xbind xnum fun m => xbind (xask (n = m)) fun _ => xpure m
/-- a xtruth value -/
def xtruth : Option Value → X Bool
  | some (.bool e) => xbind xbit fun b => xbind (xask (e = b)) fun _ => xpure b
  | _ => xfail

def binX (op : BinOp) : Value → Value → X Value
  | .int k a, .int k' b =>
    match op with
    | .shl => xbind (xask (0 ≤ b)) fun _ => xpure (.int k (k.wrap (a * 2 ^ min b.toNat k.bits)))
    | .shr => xbind (xask (0 ≤ b)) fun _ => xpure (.int k (a.fdiv (2 ^ min b.toNat k.bits)))
    | .quo => if k = k' then xbind (xask (b ≠ 0)) fun _ => xpure (.int k (k.wrap (a.tdiv b))) else xfail
    | .rem => if k = k' then xbind (xask (b ≠ 0)) fun _ => xpure (.int k (a.tmod b)) else xfail
    | op => xof (vbin op (.int k a) (.int k' b))
  | .string a, .string b =>
    match op with
    | .add => xbind (xask (a.size + b.size ≤ 9223372036854775807)) fun _ => xpure (.string (a ++ b))
    | op => xof (vbin op (.string a) (.string b))
  | _, _ => xfail

def idxX : Value → Value → X Value
  | .string s, .int _ i => xbind xint fun b => xbind (xask (0 ≤ i)) fun _ => xbind (xask ((s[i.toNat]?).map (fun c => (c.toNat : Int)) = some b)) fun _ => xpure (.int .u8 b)
  | _, _ => xfail

def loX (st : St) (h : Nat) : Option Opd → X (Nat × Nat)
  | none => xpure (0, h)
  | some o => xbind (xof (st.num o)) fun k => xbind (xask (0 ≤ k ∧ k ≤ h)) fun _ => xpure (k.toNat, h)
def boundsX (st : St) (n : Nat) (lo : Option Opd) : Option Opd → X (Nat × Nat)
  | none => loX st n lo
  | some o => xbind (xof (st.num o)) fun k => xbind (xask (0 ≤ k ∧ k ≤ n)) fun _ => loX st k.toNat lo

/-- the rows at a place xof an object -/
def subX : List OT → List (List T) → Pth → X (List OT × List (List T))
  | ot, es, [] => xpure (ot, es)
  | ot, es, (i, j) :: r =>
    xbind xrow fun rw => xbind (xask (es[i]? = some rw)) fun _ =>
    match ot[j]?, rw[j]? with
    | some (.own ot'), some (.sl es') => subX ot' es' r
    | _, _ => xfail

/-- the object with other rows at a place; each level is told anew -/
def updX : List OT → List (List T) → Pth → List (List T) → X (List (List T))
  | _, _, [], new => xpure new
  | ot, es, (i, j) :: r, new =>
    xbind xrow fun rw => xbind (xask (es[i]? = some rw)) fun _ =>
    match ot[j]?, rw[j]? with
    | some (.own ot'), some (.sl es') => xbind (updX ot' es' r new) fun es'' => xtell (es.set i (rw.set j (.sl es'')))
    | _, _ => xfail

/-- what is read xof a cell xof an object xof its own -/
def rdCX (id : Nat) (p : Pth) (i j : Nat) : OT → T → X C
  | .own _, .sl es => xbind (xsize es.length) fun n => xpure (.ref id (p ++ [(i, j)]) 0 n)
  | o, t => xpure (rdC id p i j o t)
def rdCsX (id : Nat) (p : Pth) (i : Nat) : Nat → List OT → List T → X (List C)
  | j, o :: ot, x :: row => xbind (rdCX id p i j o x) fun c => xbind (rdCsX id p i (j + 1) ot row) fun cs => xpure (c :: cs)
  | _, _, _ => xpure []

def toTX (st : St) : OT → C → X (T × List Nat)
  | .own ot, .ref id [] 0 len =>
    xbind (xof (st.obj id)) fun o =>
    if OT.beqs ot o.ot then xbind (xask (len ≤ o.es.length)) fun _ => xbind (xtell (o.es.take len)) fun es => xpure (.sl es, [id]) else xfail
  | o, c => xof (toT st o c)
def toTsX (st : St) : List OT → List C → X (List T × List Nat)
  | [], [] => xpure ([], [])
  | o :: ot, c :: cs => xbind (toTX st o c) fun x => xbind (toTsX st ot cs) fun y => xpure (x.1 :: y.1, x.2 ++ y.2)
  | _, _ => xfail

def lendTX (st : St) : OT → C → X (T × List Nat)
  | .ro q, .ref id p off len =>
    xbind (xof (st.obj id)) fun o => xbind (subX o.ot o.es p) fun x =>
    if OT.beqs q (OT.lends x.1) then xbind (xask (off + len ≤ x.2.length)) fun _ => xbind (xtell ((x.2.drop off).take len)) fun es => xpure (.sl es, [id]) else xfail
  | o, c => xof (lendT st o c)
def lendTsX (st : St) : List OT → List C → X (List T × List Nat)
  | [], [] => xpure ([], [])
  | o :: ot, c :: cs => xbind (lendTX st o c) fun x => xbind (lendTsX st ot cs) fun y => xpure (x.1 :: y.1, x.2 ++ y.2)
  | _, _ => xfail

def inCX (objs : List (Option Ob)) : OT → T → X (C × List (Option Ob))
  | .own ot, .sl es => xbind (xsize es.length) fun n => xpure (.ref objs.length [] 0 n, objs ++ [some ⟨ot, es⟩])
  | o, t => xof (inC objs o t)
def inCsX (objs : List (Option Ob)) : List OT → List T → X (List C × List (Option Ob))
  | [], [] => xpure ([], objs)
  | o :: ot, x :: xs => xbind (inCX objs o x) fun c => xbind (inCsX c.2 ot xs) fun cs => xpure (c.1 :: cs.1, cs.2)
  | _, _ => xfail

-- ---------------------------------------------------------------- freezing
def frzCX (i : Nat) (o : Ob) : C → X C
  | .ref id p off len =>
    if id = i then xbind (subX o.ot o.es p) fun x => xbind (xask (off + len ≤ x.2.length)) fun _ => xbind (xtell ((x.2.drop off).take len)) fun es => xpure (.ro (OT.lends x.1) es)
    else xpure (.ref id p off len)
  | c => xpure c
def mapX {α β : Type} (f : α → X β) : List α → X (List β)
  | [] => xpure []
  | a :: l => xbind (f a) fun b => xbind (mapX f l) fun bs => xpure (b :: bs)
def SV.mapX (f : C → X C) : SV → X SV
  | .v a cs => xbind (V.mapX f cs) fun cs => xpure (.v a cs)
  | .tup ss => xbind (V.mapX (fun x => xbind (V.mapX f x.2) fun cs => xpure (x.1, cs)) ss) fun ss => xpure (.tup ss)
  | .any => xpure .any
def optX {α β : Type} (f : α → X β) : Option α → X (Option β)
  | none => xpure none
  | some a => xbind (f a) fun b => xpure (some b)
def St.mapX (st : St) (f : C → X C) : X St := xbind (V.mapX (SV.mapX f) st.slots) fun sl => xbind (V.mapX (optX (V.mapX f)) st.vars) fun vs => xpure { st with slots := sl, vars := vs }
def freezeX (st : St) (k j : Nat) : X St :=
  match (st.slots[k]?).bind SV.cells with
  | some (_, cs) =>
    match cs[j]? with
    | some (.ref id _ _ _) => xbind (xof (st.obj id)) fun o => xbind (St.mapX st (frzCX id o)) fun st1 => xpure { st1 with objs := st.objs.set id none }
    | _ => xfail
  | none => xfail
def frzAllX (st : St) : List (Nat × Nat) → X St
  | [] => xpure st
  | (k, j) :: r => xbind (freezeX st k j) fun st1 => frzAllX st1 r

-- ---------------------------------------------------------------- memory operations
def pushX (st : St) (d : Nat) (ot : List OT) (es : List (List T)) : X St :=
  xbind (xtell es) fun es => xbind (xsize es.length) fun n => xpure { st with slots := st.slots.set d (.v false [.ref st.objs.length [] 0 n]), objs := st.objs ++ [some ⟨ot, es⟩] }

def loadX (st : St) (d : Nat) (x : Opd) (n : Nat) (agg : Bool) : X St :=
  let put (cs : List C) : X St := if cs.length = n then xpure (st.set d (.v agg cs)) else xfail
  match st.cell x with
  | some (.rptr p cs) => put ((roCs p cs).take n)
  | some (.ptr id p i j) =>
    xbind (xof (st.obj id)) fun o => xbind (subX o.ot o.es p) fun y => xbind xrow fun rw => xbind (xask (y.2[i]? = some rw)) fun _ =>
    xbind (rdCsX id p i j ((y.1.drop j).take n) ((rw.drop j).take n)) put
  | some (.vptr id j) => xbind (xof (st.var id)) fun cs => put ((cs.drop j).take n)
  | _ => xfail

def putOX (st : St) (id : Nat) (p : Pth) (i j : Nat) (c : C) : X St :=
  xbind (xof (st.obj id)) fun o => xbind (subX o.ot o.es p) fun y =>
  xbind (xof (y.1[j]?)) fun oc => xbind (toTX st oc c) fun x =>
  if x.2.contains id then xfail else
  xbind xrows fun es1 => xbind (xask (∃ row, y.2[i]? = some row ∧ j < row.length ∧ y.2.set i (row.set j x.1) = es1)) fun _ =>
  xbind (updX o.ot o.es p es1) fun es' =>
  let st1 := match oc with | .sc | .ro _ => st | _ => st.mapC (staleC id p.length)
  xpure { st1 with objs := (killO st1.objs x.2).set id (some ⟨o.ot, es'⟩) }

def putOsX (st : St) (id : Nat) (p : Pth) (i : Nat) : Nat → List C → X St
  | _, [] => xpure st
  | j, c :: cs => xbind (putOX st id p i j c) fun st1 => putOsX st1 id p i (j + 1) cs

def storeX (st : St) (x : Opd) (n : Nat) (y : SV) : X St :=
  match st.cell x, y.cells with
  | some (.ptr id p i j), some (_, cs) => if cs.length = n then putOsX st id p i j cs else xfail
  | _, _ => xof (vstore st x n y)

def srcX (st : St) (p : List OT) : C → X (List (List T) × List Nat)
  | .ref id q off len =>
    xbind (xof (st.obj id)) fun o => xbind (subX o.ot o.es q) fun y =>
    if OT.beqs p y.1 && OT.beqs p (OT.lends p) then xbind (xask (off + len ≤ y.2.length)) fun _ => xpure ((y.2.drop off).take len, [])
    else if OT.beqs p y.1 && q.isEmpty && decide (off = 0) then xbind (xask (len = y.2.length)) fun _ => xbind (xask (off + len ≤ y.2.length)) fun _ => xpure (y.2, [id])
    else xfail
  | c => xof (srcRows st p c)

def appX (st : St) (d : Nat) (x y : Opd) (p : List OT) (lim : Nat) : X St :=
  xbind (xof (st.cell x)) fun cx => xbind (xof (st.cell y)) fun cy => xbind (srcX st p cy) fun s =>
  match cx with
  | .lit (.slice none 0 0) => xbind (xask (s.1.length ≤ lim)) fun _ => pushX (st.kill s.2) d p s.1
  | .ref id [] 0 len =>
    xbind (xof (st.obj id)) fun o =>
    if OT.beqs p o.ot && !s.2.contains id then xbind (xask (len ≤ o.es.length ∧ len + s.1.length ≤ lim)) fun _ => pushX (st.kill (id :: s.2)) d p (o.es.take len ++ s.1) else xfail
  | _ => xfail

def appSX (st : St) (d : Nat) (x y : Opd) (lim : Nat) : X St :=
  xbind (xof (st.cell x)) fun cx =>
  match st.val y with
  | some (.string s) =>
    match cx with
    | .lit (.slice none 0 0) => xbind (xask (s.size ≤ lim)) fun _ => pushX st d [.sc] (bytesT s)
    | .ref id [] 0 len =>
      xbind (xof (st.obj id)) fun o =>
      if OT.beqs [.sc] o.ot then xbind (xask (len ≤ o.es.length ∧ len + s.size ≤ lim)) fun _ => pushX (st.kill [id]) d [.sc] (o.es.take len ++ bytesT s) else xfail
    | _ => xfail
  | _ => xfail

def iadrX (st : St) (k : Int) (n : Nat) : C → X C
  | .ro p es => if p.length = n then xbind xrow fun rw => xbind (xask (0 ≤ k)) fun _ => xbind (xask (es[k.toNat]? = some rw)) fun _ => xpure (.rptr p rw) else xfail
  | .ref id q off len =>
    xbind (xask (0 ≤ k ∧ k < len)) fun _ =>
    match (st.obj id).bind fun o => subOT o.ot q with
    | some ot => if ot.length = n then xpure (.ptr id q (off + k.toNat) 0) else xfail
    | none => xfail
  | _ => xfail

def slcX (st : St) (lo hi : Option Opd) (n : Nat) : C → X SV
  | .ro p es => if p.length = n then xbind (boundsX st es.length lo hi) fun b => xbind (xtell ((es.take b.2).drop b.1)) fun es => xpure (.v false [.ro p es]) else xfail
  | .ref id q off len =>
    match (st.obj id).bind fun o => subOT o.ot q with
    | some ot => if ot.length = n then xbind (boundsX st len lo hi) fun b => xpure (.v false [.ref id q (off + b.1) (b.2 - b.1)]) else xfail
    | none => xfail
  | .lit (.slice none 0 0) => xbind (boundsX st 0 lo hi) fun _ => xpure (litS (.slice none 0 0))
  | _ => xfail

def lenX (st : St) : C → X Nat
  | .lit (.slice none 0 0) => xpure 0
  | .ro _ es => xsize es.length
  | .ref id _ _ len => xbind (xof (st.obj id)) fun _ => xpure len
  | _ => xfail

def nilX (st : St) : C → X Bool
  | .lit (.slice none 0 0) => xpure true
  | .ro _ es => xbind (xask (es.length ≠ 0)) fun _ => xpure false
  | .ref id _ _ len => xbind (xask (len ≠ 0)) fun _ => xbind (xof (st.obj id)) fun _ => xpure false
  | _ => xfail

def rowsAllX (st : St) (p : List OT) : List Opd → X (List (List T) × List Nat)
  | [] => xpure ([], [])
  | x :: xs => xbind (xof ((st.get x).bind SV.cells)) fun c => xbind (rowsAllX st p xs) fun r => xbind (toTsX st p c.2) fun t => xpure (t.1 :: r.1, t.2 ++ r.2)

-- ---------------------------------------------------------------- calls
def passOneX (st : St) (pm : PM) (x : SV) : X Pass :=
  match pm, x with
  | .ro ots, .v agg cs => xbind (lendTsX st ots cs) fun t => xpure { args := [.v agg t.1], ls := t.2, bs := [.no] }
  | .mv ots, .v agg cs => xbind (toTsX st ots cs) fun t => xpure { args := [.v agg t.1], hs := roots t.2, bs := [.no] }
  | .mb ots, .v false [.vptr id 0] => xbind (xof (st.var id)) fun cs => xbind (toTsX st ots cs) fun t => xpure { args := [.m (.pt t.1)], hs := roots t.2, vs := [id], bs := [.var id ots] }
  | .ms ot, .v false [.ref id p 0 len] =>
    xbind (xof (st.obj id)) fun o => xbind (subX o.ot o.es p) fun y =>
    if OT.beqs ot y.1 then xbind (xask (len = y.2.length)) fun _ => xpure { args := [.m (.sl y.2)], hs := [(id, p)], bs := [.obj id p ot] } else xfail
  | _, _ => xfail

def passAllX (st : St) : List PM → List SV → X Pass
  | [], [] => xpure {}
  | pm :: pms, x :: xs => xbind (passOneX st pm x) fun a => xbind (passAllX st pms xs) fun b => xpure { args := a.args ++ b.args, hs := a.hs ++ b.hs, vs := a.vs ++ b.vs, ls := a.ls ++ b.ls, bs := a.bs ++ b.bs }
  | _, _ => xfail

def giveBackX (os : List (Option Ob)) : List Back → List T → St → X St
  | [], [], st => xpure st
  | .no :: bs, ms, st => giveBackX os bs ms st
  | .var id ots :: bs, .pt ts :: ms, st => xbind (inCsX st.objs ots ts) fun c => giveBackX os bs ms { st with vars := st.vars.set id (some c.1), objs := c.2 }
  | .obj id p _ :: bs, .sl es :: ms, st =>
    xbind (xof ((os[id]?).bind fun x => x)) fun o => xbind (subX o.ot o.es p) fun y => xbind (xask (es.length = y.2.length)) fun _ => xbind (updX o.ot o.es p es) fun es' =>
    giveBackX os bs ms { st.mapC (staleC id p.length) with objs := st.objs.set id (some ⟨o.ot, es'⟩) }
  | _, _, _ => xfail

def inRX (st : St) : RM → Arg → X ((Bool × List C) × St)
  | .v ots, .v agg ts => xbind (inCsX st.objs ots ts) fun c => xpure ((agg, c.1), { st with objs := c.2 })
  | .p ots, .m (.pt ts) => xbind (inCsX st.objs ots ts) fun c => xpure ((false, [.vptr st.vars.length 0]), { st with objs := c.2, vars := st.vars ++ [some c.1] })
  | _, _ => xfail
def inRsX (st : St) : List RM → List Arg → X (List (Bool × List C) × St)
  | [], [] => xpure ([], st)
  | m :: ms, a :: ars => xbind (inRX st m a) fun x => xbind (inRsX x.2 ms ars) fun y => xpure (x.1 :: y.1, y.2)
  | _, _ => xfail

section
variable (ext : FuncId → List Arg → Option FRes) (tbl : FuncId → Option VF)

def callX (st : St) (d : Nat) (f : FuncId) (xs : List SV) : X St :=
  match tbl f with
  | none => xfail
  | some vf =>
    xbind (passAllX st vf.pm xs) fun ps =>
    let us := ps.hs.map (·.1)
    if distinct us && distinct ps.vs && apart ps.ls us && (ps.ls.isEmpty || !(vf.pm.any PM.hasRo || vf.rm.any RM.hasRo)) then
      xbind xres fun r => xbind (xask (Runs ext tbl f ps.args r)) fun _ =>
      xbind (giveBackX st.objs ps.bs r.ms { st with objs := killO st.objs us, vars := ps.vs.foldl (fun vs i => vs.set i none) st.vars }) fun st2 =>
      xbind (inRsX st2 vf.rm r.rs) fun y =>
      match y with
      | ([(agg, cs)], st3) => xpure (st3.set d (.v agg cs))
      | (l, st3) => xpure (st3.set d (.tup l))
    else xfail

def opX (st : St) : VOp → X St
  | .pick d c a b => xbind (xtruth (st.val c)) fun t => xof ((st.get (if t then a else b)).map (st.set d))
  | .bin d op x y => xbind (xof (st.val x)) fun a => xbind (xof (st.val y)) fun b => xbind (binX op a b) fun r => xpure (st.set d (litS r))
  | .len d x => xbind (xof (st.cell x)) fun c => xbind (lenX st c) fun n => xpure (st.set d (litS (.int .i64 n)))
  | .idx d x i => xbind (xof (st.val x)) fun a => xbind (xof (st.val i)) fun b => xbind (idxX a b) fun r => xpure (st.set d (litS r))
  | .sstr d x lo hi =>
    match st.val x with
    | some (.string s) => xbind (boundsX st s.size lo hi) fun b => xpure (st.set d (litS (.string (s.extract b.1 b.2))))
    | _ => xfail
  | .iadr d x i n => xbind (xof (st.cell x)) fun c => xbind (xof (st.num i)) fun k => xbind (iadrX st k n c) fun c => xpure (st.set d (.v false [c]))
  | .ld d x n agg => if agg || decide (n = 1) then loadX st d x n agg else xfail
  | .st x y n => xbind (xof (st.get y)) fun s => storeX st x n s
  | .lits d p rs => xbind (rowsAllX st p rs) fun r => if distinct r.2 then pushX (st.kill r.2) d p r.1 else xfail
  | .mk d n p zero lim => xbind (xof (st.num n)) fun k => xbind (xask (0 ≤ k ∧ k ≤ lim)) fun _ => pushX st d p (List.replicate k.toNat (zero.map zeroT))
  | .app d x y p lim => appX st d x y p lim
  | .apps d x y lim => appSX st d x y lim
  | .slc d x lo hi n => xbind (xof (st.cell x)) fun c => xbind (slcX st lo hi n c) fun s => xpure (st.set d s)
  | .eqn d neg x => xbind (xof (st.cell x)) fun c => xbind (nilX st c) fun b => xpure (st.set d (litS (.bool (b != neg))))
  | .s2b d x =>
    match st.val x with
    | some (.string s) => xbind (xask (s.size ≤ 140737488355328)) fun _ => pushX st d [.sc] (bytesT s)
    | _ => xfail
  | .b2s _ _ => xfail
  | .call d f xs => xbind (xof (getAll st xs)) fun l => callX ext tbl st d f l
  | .callc d x xs =>
    match st.cell x, getAll st xs with
    | some (.clo f caps), some l => if caps.all (fun i => (st.var i).isSome) then callX ext tbl st d f (l ++ caps.map fun i => .v false [.vptr i 0]) else xfail
    | _, _ => xfail
  | o => xof (vop tbl (fun _ _ => none) st o)

def roX (st0 : St) (o : ROp) : X St :=
  let st := kept st0 o.kp
  match o.g with
  | none => xbind (frzAllX st o.fz) fun st1 => opX ext tbl st1 o.op
  | some (s, want) =>
    match st.slots[s]? with
    | some (.v false [.lit v]) =>
      match v with
      | .bool e => xbind xbit fun b => xbind (xask (e = b)) fun _ => if b = want then xbind (frzAllX st o.fz) fun st1 => opX ext tbl st1 o.op else xpure (o.op.skipS st)
      | _ => xpure (o.op.skipS st)
    | _ => xfail

def opsX (st : St) : List ROp → X St
  | [] => xpure st
  | o :: os => xbind (roX ext tbl st o) fun st1 => opsX st1 os
end
end Go.Proofs.V

/- Runs with answers told ahead are runs. -/
set_option linter.unusedSimpArgs false
set_option linter.unusedVariables false
namespace Go.Proofs.V
open Go

def All : List Prop → Prop
  | [] => True
  | p :: ps => p ∧ All ps
theorem All.app : ∀ {ps qs : List Prop}, All (ps ++ qs) → All ps ∧ All qs
  | [], qs, h => ⟨trivial, h⟩
  | p :: ps, qs, h => ⟨⟨h.1, (All.app h.2).1⟩, (All.app h.2).2⟩

def Ok {α : Type} (x : X α) (r : α → Prop) : Prop := ∀ os a os' ps, x os = some (a, os', ps) → All ps → r a

section
variable {α β : Type} {r : α → Prop} {q : β → Prop}
theorem Ok.mono {x : X α} {r' : α → Prop} (h : Ok x r) (hr : ∀ a, r a → r' a) : Ok x r' := fun os a os' ps h1 h2 => hr a (h os a os' ps h1 h2)
theorem Ok.pure {a : α} (h : r a) : Ok (xpure a) r := fun os b os' ps h1 _ => by simp [xpure] at h1; rw [← h1.1]; exact h
theorem Ok.bind {x : X α} {f : α → X β} (h1 : Ok x r) (h2 : ∀ a, r a → Ok (f a) q) : Ok (xbind x f) q := by
  intro os b os' ps h hp
  unfold xbind at h
  split at h
  · simp at h
  · rename_i a os1 p hx
    split at h
    · simp at h
    · rename_i b' os2 p2 hf
      simp at h
      obtain ⟨rfl, rfl, rfl⟩ := h
      obtain ⟨hp1, hp2⟩ := hp.app
      exact h2 a (h1 _ _ _ _ hx hp1) _ _ _ _ hf hp2
theorem Ok.fail : Ok (xfail : X α) r := fun os a os' ps h _ => by simp [xfail] at h
theorem Ok.of {o : Option α} (h : ∀ a, o = some a → r a) : Ok (xof o) r := by
  cases o with
  | none => exact Ok.fail
  | some a => exact Ok.pure (h a rfl)
theorem Ok.ask {p : Prop} {r : Unit → Prop} (h : p → r ()) : Ok (xask p) r := fun os a os' ps h1 h2 => by
  simp [xask] at h1; obtain ⟨_, rfl⟩ := h1; exact h h2.1
theorem Ok.any {x : X α} (h : ∀ a, r a) : Ok x r := fun os a os' ps _ _ => h a
theorem Ok.true {x : X α} : Ok x fun _ => True := fun _ _ _ _ _ _ => trivial
theorem Ok.ite {c : Prop} [Decidable c] {x y : X α} (h1 : c → Ok x r) (h2 : ¬c → Ok y r) : Ok (if c then x else y) r := by
  split
  · exact h1 ‹_›
  · exact h2 ‹_›
theorem Ok.iteF {c : Prop} [Decidable c] {x : X α} (h1 : c → Ok x r) : Ok (if c then x else xfail) r := Ok.ite h1 fun _ => Ok.fail
end

theorem Ok.asked {β : Type} {p : Prop} {f : Unit → X β} {q : β → Prop} (h : p → Ok (f ()) q) : Ok (xbind (xask p) f) q := Ok.bind (r := fun _ => p) (Ok.ask fun h => h) fun _ hp => h hp
theorem Ok.took {α β : Type} {x : X α} {f : α → X β} {q : β → Prop} (h : ∀ a, Ok (f a) q) : Ok (xbind x f) q := Ok.bind Ok.true fun a _ => h a
theorem Ok.ofb {α β : Type} {o : Option α} {f : α → X β} {q : β → Prop} (h : ∀ a, o = some a → Ok (f a) q) : Ok (xbind (xof o) f) q := Ok.bind (r := fun a => o = some a) (Ok.of fun _ h => h) h

theorem tell_ok (es : List (List T)) : Ok (xtell es) fun x => x = es := Ok.took fun x => Ok.asked fun h => Ok.pure h.symm
theorem size_ok (n : Nat) : Ok (xsize n) fun x => x = n := Ok.took fun x => Ok.asked fun h => Ok.pure h.symm
theorem truth_ok (v : Option Value) : Ok (xtruth v) fun b => v = some (.bool b) := by
  unfold xtruth
  split
  · exact Ok.took fun b => Ok.asked fun h => Ok.pure (by rw [h])
  · exact Ok.fail

theorem binX_ok (op : BinOp) (a b : Value) : Ok (binX op a b) fun v => vbin op a b = some v := by
  unfold binX
  split
  · split
    · exact Ok.asked fun h => Ok.pure (by simp [vbin]; omega)
    · exact Ok.asked fun h => Ok.pure (by simp [vbin]; omega)
    · exact Ok.iteF fun hk => Ok.asked fun h => Ok.pure (by simp [vbin, hk, h])
    · exact Ok.iteF fun hk => Ok.asked fun h => Ok.pure (by simp [vbin, hk, h])
    · exact Ok.of fun a h => h
  · split
    · exact Ok.asked fun h => Ok.pure (by simp [vbin, h])
    · exact Ok.of fun a h => h
  · exact Ok.fail

theorem idxX_ok (a b : Value) : Ok (idxX a b) fun v => vidx a b = some v := by
  unfold idxX
  split
  · refine Ok.took fun x => Ok.asked fun h => Ok.asked fun h2 => Ok.pure ?_
    simp only [vidx, if_pos h]
    rw [Option.map_eq_some_iff] at h2 ⊢
    obtain ⟨c, h3, h4⟩ := h2
    exact ⟨c, h3, by rw [← h4]⟩
  · exact Ok.fail

theorem loX_ok (st : St) (h : Nat) (lo : Option Opd) : Ok (loX st h lo) fun x => vlo st h lo = some x := by
  cases lo with
  | none => exact Ok.pure rfl
  | some o =>
    unfold loX
    refine Ok.ofb fun k hk => Ok.asked fun h2 => Ok.pure ?_
    simp [vlo, hk, h2]
theorem boundsX_ok (st : St) (n : Nat) (lo hi : Option Opd) : Ok (boundsX st n lo hi) fun x => vbounds st n lo hi = some x := by
  cases hi with
  | none => exact loX_ok st n lo
  | some o => exact Ok.ofb fun k hk => Ok.asked fun h2 => (loX_ok st k.toNat lo).mono fun x hx => by simp [vbounds, hk, h2, hx]

theorem subX_ok : ∀ (p : Pth) (ot : List OT) (es : List (List T)), Ok (subX ot es p) fun x => subEs ot es p = some x
  | [], ot, es => Ok.pure rfl
  | (i, j) :: r, ot, es => by
    refine Ok.took fun rw => Ok.asked fun h => ?_
    split
    · rename_i ot' es' h1 h2
      exact (subX_ok r ot' es').mono fun x hx => by simp [subEs, h1, h, h2, hx]
    · exact Ok.fail

theorem updX_ok : ∀ (p : Pth) (ot : List OT) (es new : List (List T)), Ok (updX ot es p new) fun x => updEs ot es p new = some x
  | [], ot, es, new => Ok.pure rfl
  | (i, j) :: r, ot, es, new => by
    refine Ok.took fun rw => Ok.asked fun h => ?_
    split
    · rename_i ot' es' h1 h2
      refine Ok.bind (updX_ok r ot' es' new) fun x hx => (tell_ok _).mono fun y hy => ?_
      simp [updEs, h1, h, h2, hx, hy]
    · exact Ok.fail

theorem rdCX_ok (id : Nat) (p : Pth) (i j : Nat) (o : OT) (t : T) : Ok (rdCX id p i j o t) fun c => c = rdC id p i j o t := by
  unfold rdCX
  split
  · exact Ok.bind (size_ok _) fun n hn => Ok.pure (by simp [rdC, hn])
  · exact Ok.pure rfl
theorem rdCsX_ok (id : Nat) (p : Pth) (i : Nat) : ∀ (j : Nat) (ot : List OT) (row : List T), Ok (rdCsX id p i j ot row) fun cs => cs = rdCs id p i j ot row
  | j, o :: ot, x :: row => Ok.bind (rdCX_ok id p i j o x) fun c hc => Ok.bind (rdCsX_ok id p i (j + 1) ot row) fun cs hcs => Ok.pure (by simp [rdCs, hc, hcs])
  | j, [], _ => Ok.pure (by simp [rdCs])
  | j, _ :: _, [] => Ok.pure (by simp [rdCs])

theorem toTX_ok (st : St) (o : OT) (c : C) : Ok (toTX st o c) fun x => toT st o c = some x := by
  unfold toTX
  split
  · refine Ok.ofb fun ob hob => Ok.iteF fun hb => Ok.asked fun hl => Ok.bind (tell_ok _) fun es hes => Ok.pure ?_
    simp [toT, hob, hb, hl, hes]
  · exact Ok.of fun x h => h
theorem toTsX_ok (st : St) : ∀ (o : List OT) (c : List C), Ok (toTsX st o c) fun x => toTs st o c = some x
  | [], [] => Ok.pure rfl
  | [], _ :: _ => Ok.fail
  | _ :: _, [] => Ok.fail
  | o :: ot, c :: cs => Ok.bind (toTX_ok st o c) fun x hx => Ok.bind (toTsX_ok st ot cs) fun y hy => Ok.pure (by simp [toTs, hx, hy])

theorem lendTX_ok (st : St) (o : OT) (c : C) : Ok (lendTX st o c) fun x => lendT st o c = some x := by
  unfold lendTX
  split
  · refine Ok.ofb fun ob hob => Ok.bind (subX_ok _ _ _) fun x hx => Ok.iteF fun hb => Ok.asked fun hl => Ok.bind (tell_ok _) fun es hes => Ok.pure ?_
    simp [lendT, hob, hb, hl, hes, hx]
  · exact Ok.of fun x h => h
theorem lendTsX_ok (st : St) : ∀ (o : List OT) (c : List C), Ok (lendTsX st o c) fun x => lendTs st o c = some x
  | [], [] => Ok.pure rfl
  | [], _ :: _ => Ok.fail
  | _ :: _, [] => Ok.fail
  | o :: ot, c :: cs => Ok.bind (lendTX_ok st o c) fun x hx => Ok.bind (lendTsX_ok st ot cs) fun y hy => Ok.pure (by simp [lendTs, hx, hy])

theorem inCX_ok (objs : List (Option Ob)) (o : OT) (t : T) : Ok (inCX objs o t) fun x => inC objs o t = some x := by
  unfold inCX
  split
  · exact Ok.bind (size_ok _) fun n hn => Ok.pure (by simp [inC, hn])
  · exact Ok.of fun x h => h
theorem inCsX_ok : ∀ (o : List OT) (t : List T) (objs : List (Option Ob)), Ok (inCsX objs o t) fun x => inCs objs o t = some x
  | [], [], objs => Ok.pure rfl
  | [], _ :: _, objs => Ok.fail
  | _ :: _, [], objs => Ok.fail
  | o :: ot, c :: cs, objs => Ok.bind (inCX_ok objs o c) fun x hx => Ok.bind (inCsX_ok ot cs x.2) fun y hy => Ok.pure (by simp [inCs, hx, hy])

-- ---------------------------------------------------------------- freezing
theorem frzCX_ok (i : Nat) (o : Ob) (c : C) : Ok (frzCX i o c) fun x => x = frzC i o c := by
  unfold frzCX
  split
  · refine Ok.ite (fun hi => ?_) fun hi => Ok.pure (by simp [frzC, hi])
    refine Ok.bind (subX_ok _ _ _) fun x hx => Ok.asked fun hl => Ok.bind (tell_ok _) fun es hes => Ok.pure ?_
    simp [frzC, hi, hx, hl, hes]
  · exact Ok.pure (by cases c <;> first | rfl | (rename_i hne; exact absurd rfl (hne _ _ _ _)))
theorem mapX_ok {α β : Type} {f : α → X β} {g : α → β} (h : ∀ a, Ok (f a) fun b => b = g a) : ∀ l : List α, Ok (mapX f l) fun l' => l' = l.map g
  | [] => Ok.pure rfl
  | a :: l => Ok.bind (h a) fun b hb => Ok.bind (mapX_ok h l) fun l' hl => Ok.pure (by simp [hb, hl])
theorem svmapX_ok {f : C → X C} {g : C → C} (h : ∀ a, Ok (f a) fun b => b = g a) (s : SV) : Ok (SV.mapX f s) fun x => x = s.map g := by
  cases s with
  | v a cs => exact Ok.bind (mapX_ok h cs) fun x hx => Ok.pure (by simp [SV.map, hx])
  | tup ss =>
    have h1 : ∀ x : Bool × List C, Ok (xbind (V.mapX f x.2) fun cs => xpure (x.1, cs)) fun y => y = (x.1, x.2.map g) := by
      intro x
      refine Ok.bind (mapX_ok h x.2) fun y hy => Ok.pure ?_
      rw [hy]
    unfold SV.mapX
    refine Ok.bind (mapX_ok h1 ss) fun x hx => Ok.pure ?_
    rw [hx]
    rfl
  | any => exact Ok.pure rfl
theorem optX_ok {α β : Type} {f : α → X β} {g : α → β} (h : ∀ a, Ok (f a) fun b => b = g a) (o : Option α) : Ok (optX f o) fun x => x = o.map g := by
  cases o with
  | none => exact Ok.pure rfl
  | some a => exact Ok.bind (h a) fun b hb => Ok.pure (by simp [hb])
theorem stmapX_ok {f : C → X C} {g : C → C} (h : ∀ a, Ok (f a) fun b => b = g a) (st : St) : Ok (St.mapX st f) fun x => x = st.mapC g :=
  Ok.bind (mapX_ok (svmapX_ok h) st.slots) fun sl hsl => Ok.bind (mapX_ok (optX_ok (mapX_ok h)) st.vars) fun vs hvs => Ok.pure (by simp [St.mapC, hsl, hvs])
theorem freezeX_ok (st : St) (k j : Nat) : Ok (freezeX st k j) fun x => st.freeze k j = some x := by
  unfold freezeX
  split
  · rename_i a cs h1
    split
    · rename_i id p off len h2
      exact Ok.ofb fun o ho => Ok.bind (stmapX_ok (frzCX_ok id o) st) fun x hx => Ok.pure (by simp [St.freeze, h1, h2, ho, hx])
    · exact Ok.fail
  · exact Ok.fail
theorem frzAllX_ok : ∀ (l : List (Nat × Nat)) (st : St), Ok (frzAllX st l) fun x => frzAll st l = some x
  | [], st => Ok.pure rfl
  | (k, j) :: l, st => Ok.bind (freezeX_ok st k j) fun x hx => (frzAllX_ok l x).mono fun y hy => by simp [frzAll, hx, hy]

-- ---------------------------------------------------------------- memory operations
theorem pushX_ok (st : St) (d : Nat) (ot : List OT) (es : List (List T)) : Ok (pushX st d ot es) fun x => x = st.push d ⟨ot, es⟩ :=
  Ok.bind (tell_ok es) fun es' he => Ok.bind (size_ok _) fun n hn => Ok.pure (by subst he; subst hn; rfl)

theorem rdCs_take (id : Nat) (p : Pth) (i : Nat) : ∀ (n j : Nat) (ot : List OT) (row : List T), rdCs id p i j (ot.take n) (row.take n) = (rdCs id p i j ot row).take n
  | 0, j, ot, row => by simp [rdCs]
  | n + 1, j, [], row => by simp [rdCs]
  | n + 1, j, o :: ot, [] => by simp [rdCs]
  | n + 1, j, o :: ot, x :: row => by simp [rdCs, rdCs_take id p i n]

theorem loadX_ok (st : St) (d : Nat) (x : Opd) (n : Nat) (agg : Bool) : Ok (loadX st d x n agg) fun y => vload st d x n agg = some y := by
  unfold loadX
  simp only
  split
  · rename_i p cs h1
    exact Ok.iteF fun h => Ok.pure (by unfold vload; simp only [h1]; rw [if_pos h])
  · rename_i id p i j h1
    refine Ok.ofb fun o ho => Ok.bind (subX_ok _ _ _) fun y hy => Ok.took fun rw' => Ok.asked fun hrw => Ok.bind (rdCsX_ok _ _ _ _ _ _) fun cs hcs => Ok.iteF fun hl => Ok.pure ?_
    rw [rdCs_take] at hcs
    subst hcs
    unfold vload
    simp only [h1, ho, hy, hrw]
    rw [if_pos hl]
  · rename_i id j h1
    exact Ok.ofb fun cs hcs => Ok.iteF fun h => Ok.pure (by unfold vload; simp only [h1, hcs]; rw [if_pos h])
  · exact Ok.fail

theorem putOX_ok (st : St) (id : Nat) (p : Pth) (i j : Nat) (c : C) : Ok (putOX st id p i j c) fun x => st.putO id p i j c = some x := by
  unfold putOX
  refine Ok.ofb fun o ho => Ok.bind (subX_ok _ _ _) fun y hy => Ok.ofb fun oc hoc => Ok.bind (toTX_ok _ _ _) fun x hx => Ok.ite (fun _ => Ok.fail) fun hu => Ok.took fun es1 => Ok.asked fun h1 => Ok.bind (updX_ok _ _ _ _) fun es' he => Ok.pure ?_
  obtain ⟨row, h2, h3, h4⟩ := h1
  unfold St.putO
  have hn : ¬ row.length ≤ j := by omega
  simp only [ho, hy, hoc, h2, hx]
  rw [if_neg (by simp [hn]; simpa using hu), h4, he]
  rfl
theorem putOsX_ok (id : Nat) (p : Pth) (i : Nat) : ∀ (cs : List C) (j : Nat) (st : St), Ok (putOsX st id p i j cs) fun x => st.putOs id p i j cs = some x
  | [], j, st => Ok.pure rfl
  | c :: cs, j, st => Ok.bind (putOX_ok st id p i j c) fun x hx => (putOsX_ok id p i cs (j + 1) x).mono fun y hy => by simp [St.putOs, hx, hy]

theorem storeX_ok (st : St) (x : Opd) (n : Nat) (y : SV) : Ok (storeX st x n y) fun z => vstore st x n y = some z := by
  unfold storeX
  split
  · rename_i id p i j a cs h1 h2
    exact Ok.iteF fun h => (putOsX_ok id p i cs j st).mono fun z hz => by unfold vstore; simp only [h1, h2, if_pos h]; exact hz
  · exact Ok.of fun z h => h

theorem srcX_ok (st : St) (p : List OT) (c : C) : Ok (srcX st p c) fun x => srcRows st p c = some x := by
  unfold srcX
  split
  · refine Ok.ofb fun o ho => Ok.bind (subX_ok _ _ _) fun y hy => Ok.ite (fun hb => ?_) fun hb => Ok.iteF fun hb2 => ?_
    · exact Ok.asked fun hl => Ok.pure (by simp only [srcRows, ho, hy, if_pos hl, if_pos hb])
    · refine Ok.asked fun h1 => Ok.asked fun hl => Ok.pure ?_
      simp only [srcRows, ho, hy, if_pos hl]
      rw [if_neg hb, if_pos]
      simp only [Bool.and_eq_true, decide_eq_true_eq] at hb2 ⊢
      exact ⟨hb2.1, hb2.2, h1⟩
  · exact Ok.of fun x h => h

theorem appX_ok (st : St) (d : Nat) (x y : Opd) (p : List OT) (lim : Nat) : Ok (appX st d x y p lim) fun z => vappend st d x y p lim = some z := by
  unfold appX
  refine Ok.ofb fun cx hx => Ok.ofb fun cy hy => Ok.bind (srcX_ok st p cy) fun s hs => ?_
  split
  · exact Ok.asked fun h => (pushX_ok _ _ _ _).mono fun z hz => by simp only [vappend, hx, hy, hs, if_pos h, hz]
  · refine Ok.ofb fun o ho => Ok.iteF fun hb => Ok.asked fun h => (pushX_ok _ _ _ _).mono fun z hz => ?_
    simp only [vappend, hx, hy, hs, ho]
    simp only [Bool.and_eq_true] at hb
    rw [if_pos (by simp only [hb.1, hb.2, Bool.true_and, Bool.and_true, decide_eq_true_eq]; exact h), hz]
  · exact Ok.fail

theorem appSX_ok (st : St) (d : Nat) (x y : Opd) (lim : Nat) : Ok (appSX st d x y lim) fun z => vappendS st d x y lim = some z := by
  unfold appSX
  refine Ok.ofb fun cx hx => ?_
  split
  · rename_i s hs
    split
    · exact Ok.asked fun h => (pushX_ok _ _ _ _).mono fun z hz => by simp only [vappendS, hx, hs, if_pos h, hz]
    · refine Ok.ofb fun o ho => Ok.iteF fun hb => Ok.asked fun h => (pushX_ok _ _ _ _).mono fun z hz => ?_
      simp only [vappendS, hx, hs, ho]
      rw [if_pos (by simp only [hb, Bool.true_and, decide_eq_true_eq]; exact h), hz]
    · exact Ok.fail
  · exact Ok.fail

theorem iadrX_ok (st : St) (k : Int) (n : Nat) (c : C) : Ok (iadrX st k n c) fun x => iadrC st k n c = some x := by
  unfold iadrX
  split
  · exact Ok.iteF fun hp => Ok.took fun rw' => Ok.asked fun h1 => Ok.asked fun h2 => Ok.pure (by simp only [iadrC, if_pos h1, h2, if_pos hp])
  · refine Ok.asked fun h1 => ?_
    split
    · rename_i ot ho
      exact Ok.iteF fun hn => Ok.pure (by simp only [iadrC, if_pos h1, ho, if_pos hn])
    · exact Ok.fail
  · exact Ok.fail

theorem slcX_ok (st : St) (lo hi : Option Opd) (n : Nat) (c : C) : Ok (slcX st lo hi n c) fun x => slcR st lo hi n c = some x := by
  unfold slcX
  split
  · exact Ok.iteF fun hp => Ok.bind (boundsX_ok _ _ _ _) fun b hb => Ok.bind (tell_ok _) fun es he => Ok.pure (by simp only [slcR, if_pos hp, hb, Option.map_some, he])
  · split
    · rename_i ot ho
      exact Ok.iteF fun hn => Ok.bind (boundsX_ok _ _ _ _) fun b hb => Ok.pure (by simp only [slcR, ho, if_pos hn, hb, Option.map_some])
    · exact Ok.fail
  · exact Ok.bind (boundsX_ok _ _ _ _) fun b hb => Ok.pure (by simp only [slcR, hb, Option.map_some])
  · exact Ok.fail

theorem nilX_ok (st : St) (c : C) : Ok (nilX st c) fun x => nilC st c = some x := by
  unfold nilX
  split
  · exact Ok.pure rfl
  · exact Ok.asked fun h => Ok.pure (by simp [nilC, h])
  · exact Ok.asked fun h => Ok.ofb fun o ho => Ok.pure (by simp [nilC, h, ho])
  · exact Ok.fail

theorem rowsAllX_ok (st : St) (p : List OT) : ∀ xs : List Opd, Ok (rowsAllX st p xs) fun r => rowsAll st p xs = some r
  | [] => Ok.pure rfl
  | x :: xs => Ok.ofb fun c hc => Ok.bind (rowsAllX_ok st p xs) fun r hr => Ok.bind (toTsX_ok st p c.2) fun t ht => Ok.pure (by simp [rowsAll, hc, hr, ht])

-- ---------------------------------------------------------------- calls
theorem passOneX_ok (st : St) (pm : PM) (x : SV) : Ok (passOneX st pm x) fun a => passOne st pm x = some a := by
  unfold passOneX
  split
  · exact Ok.bind (lendTsX_ok _ _ _) fun t ht => Ok.pure (by simp [passOne, ht])
  · exact Ok.bind (toTsX_ok _ _ _) fun t ht => Ok.pure (by simp [passOne, ht])
  · exact Ok.ofb fun cs hcs => Ok.bind (toTsX_ok _ _ _) fun t ht => Ok.pure (by simp [passOne, ht, hcs])
  · exact Ok.ofb fun o ho => Ok.bind (subX_ok _ _ _) fun y hy => Ok.iteF fun hb => Ok.asked fun hl => Ok.pure (by simp [passOne, ho, hy, hb, hl])
  · exact Ok.fail
theorem passAllX_ok (st : St) : ∀ (pms : List PM) (xs : List SV), Ok (passAllX st pms xs) fun a => passAll st pms xs = some a
  | [], [] => Ok.pure rfl
  | [], _ :: _ => Ok.fail
  | _ :: _, [] => Ok.fail
  | pm :: pms, x :: xs => Ok.bind (passOneX_ok st pm x) fun a ha => Ok.bind (passAllX_ok st pms xs) fun b hb => Ok.pure (by simp [passAll, ha, hb])

theorem giveBackX_ok (os : List (Option Ob)) : ∀ (bs : List Back) (ms : List T) (st : St), Ok (giveBackX os bs ms st) fun x => giveBack os bs ms st = some x
  | [], [], st => Ok.pure rfl
  | [], _ :: _, st => Ok.fail
  | .no :: bs, ms, st => (giveBackX_ok os bs ms st).mono fun x hx => by simpa [giveBack] using hx
  | .var id ots :: bs, [], st => Ok.fail
  | .var id ots :: bs, .lit _ :: ms, st => Ok.fail
  | .var id ots :: bs, .sl _ :: ms, st => Ok.fail
  | .var id ots :: bs, .pt ts :: ms, st => Ok.bind (inCsX_ok _ _ _) fun c hc => (giveBackX_ok os bs ms _).mono fun x hx => by simp [giveBack, hc, hx]
  | .obj id p ot :: bs, [], st => Ok.fail
  | .obj id p ot :: bs, .lit _ :: ms, st => Ok.fail
  | .obj id p ot :: bs, .pt _ :: ms, st => Ok.fail
  | .obj id p ot :: bs, .sl es :: ms, st => Ok.ofb fun o ho => Ok.bind (subX_ok _ _ _) fun y hy => Ok.asked fun hl => Ok.bind (updX_ok _ _ _ _) fun es' he => (giveBackX_ok os bs ms _).mono fun x hx => by
      simp only [giveBack, ho, hy, he, if_pos hl]
      exact hx

theorem inRX_ok (st : St) (m : RM) (a : Arg) : Ok (inRX st m a) fun x => inR st m a = some x := by
  unfold inRX
  split
  · exact Ok.bind (inCsX_ok _ _ _) fun c hc => Ok.pure (by simp [inR, hc])
  · exact Ok.bind (inCsX_ok _ _ _) fun c hc => Ok.pure (by simp [inR, hc])
  · exact Ok.fail
theorem inRsX_ok : ∀ (ms : List RM) (ars : List Arg) (st : St), Ok (inRsX st ms ars) fun x => inRs st ms ars = some x
  | [], [], st => Ok.pure rfl
  | [], _ :: _, st => Ok.fail
  | _ :: _, [], st => Ok.fail
  | m :: ms, a :: ars, st => Ok.bind (inRX_ok st m a) fun x hx => Ok.bind (inRsX_ok ms ars x.2) fun y hy => Ok.pure (by simp [inRs, hx, hy])

section
variable {ext : FuncId → List Arg → Option FRes} {tbl : FuncId → Option VF}

theorem callX_ok (st : St) (d : Nat) (f : FuncId) (xs : List SV) : Ok (callX ext tbl st d f xs) fun x => ∃ n, vcall tbl (vrun ext tbl n) st d f xs = some x := by
  unfold callX
  split
  · exact Ok.fail
  · rename_i vf hvf
    refine Ok.bind (passAllX_ok _ _ _) fun ps hps => Ok.iteF fun hc => Ok.took fun r => Ok.asked fun hr => Ok.bind (giveBackX_ok _ _ _ _) fun st2 hst2 => Ok.bind (inRsX_ok _ _ _) fun y hy => ?_
    obtain ⟨n, hr⟩ := hr
    split
    · exact Ok.pure ⟨n, by simp only [vcall, hvf, hps]; rw [if_pos hc]; simp only [hr, hst2, hy]⟩
    · rename_i l st3 hne
      refine Ok.pure ⟨n, ?_⟩
      simp only [vcall, hvf, hps]
      rw [if_pos hc]
      simp only [hr, hst2, hy]

theorem opX_ok (st : St) (o : VOp) : Ok (opX ext tbl st o) fun x => ∃ n, vop tbl (vrun ext tbl n) st o = some x := by
  have base : ∀ o : VOp, (∀ x, vop tbl (fun _ _ => none) st o = some x → ∃ n, vop tbl (vrun ext tbl n) st o = some x) := fun o x h => ⟨0, vop_mono (fun _ _ _ h => by simp at h) h⟩
  cases o with
  | pick d c a b =>
    refine Ok.bind (truth_ok _) fun t ht => Ok.of fun x hx => ⟨0, ?_⟩
    simp only [vop, ht]
    cases t <;> exact hx
  | bin d op x y => exact Ok.ofb fun a ha => Ok.ofb fun b hb => Ok.bind (binX_ok op a b) fun r hr => Ok.pure ⟨0, by simp [vop, ha, hb, hr]⟩
  | len d x =>
    refine Ok.ofb fun c hc => ?_
    unfold lenX
    split
    · exact Ok.bind (r := fun n => n = 0) (Ok.pure rfl) fun n hn => Ok.pure ⟨0, by subst hn; simp [vop, hc]⟩
    · exact Ok.bind (size_ok _) fun n hn => Ok.pure ⟨0, by subst hn; simp [vop, hc]⟩
    · rename_i id p off len
      refine Ok.bind (r := fun n => n = len ∧ ∃ o, st.obj id = some o) (Ok.ofb fun o ho => Ok.pure ⟨rfl, o, ho⟩) fun n hn => Ok.pure ⟨0, ?_⟩
      obtain ⟨rfl, o, ho⟩ := hn
      simp [vop, hc, ho]
    · exact Ok.bind (r := fun _ => False) Ok.fail fun _ h => h.elim
  | idx d x i => exact Ok.ofb fun a ha => Ok.ofb fun b hb => Ok.bind (idxX_ok a b) fun r hr => Ok.pure ⟨0, by simp [vop, ha, hb, hr]⟩
  | sstr d x lo hi =>
    simp only [opX]
    split
    · rename_i s hs
      exact Ok.bind (boundsX_ok _ _ _ _) fun b hb => Ok.pure ⟨0, by simp [vop, hs, hb]⟩
    · exact Ok.fail
  | iadr d x i n => exact Ok.ofb fun c hc => Ok.ofb fun k hk => Ok.bind (iadrX_ok st k n c) fun r hr => Ok.pure ⟨0, by simp [vop, hc, hk, hr]⟩
  | ld d x n agg =>
    simp only [opX]
    exact Ok.iteF fun h => (loadX_ok st d x n agg).mono fun y hy => ⟨0, by simp only [vop, if_pos h, hy]⟩
  | st x y n => exact Ok.ofb fun s hs => (storeX_ok st x n s).mono fun z hz => ⟨0, by simp [vop, hs, hz]⟩
  | lits d p rs => exact Ok.bind (rowsAllX_ok st p rs) fun r hr => Ok.iteF fun hd => (pushX_ok _ _ _ _).mono fun z hz => ⟨0, by simp [vop, hr, hd, hz]⟩
  | mk d n p zero lim => exact Ok.ofb fun k hk => Ok.asked fun h => (pushX_ok _ _ _ _).mono fun z hz => ⟨0, by simp only [vop, hk, if_pos h, hz]⟩
  | app d x y p lim => exact (appX_ok st d x y p lim).mono fun z hz => ⟨0, hz⟩
  | apps d x y lim => exact (appSX_ok st d x y lim).mono fun z hz => ⟨0, hz⟩
  | slc d x lo hi n => exact Ok.ofb fun c hc => Ok.bind (slcX_ok st lo hi n c) fun s hs => Ok.pure ⟨0, by simp [vop, hc, hs]⟩
  | eqn d neg x => exact Ok.ofb fun c hc => Ok.bind (nilX_ok st c) fun b hb => Ok.pure ⟨0, by simp [vop, hc, hb]⟩
  | s2b d x =>
    simp only [opX]
    split
    · rename_i s hs
      exact Ok.asked fun h => (pushX_ok _ _ _ _).mono fun z hz => ⟨0, by simp only [vop, hs, if_pos h, hz]⟩
    · exact Ok.fail
  | b2s d x => exact Ok.fail
  | call d f xs => exact Ok.ofb fun l hl => (callX_ok st d f l).mono fun z ⟨n, hz⟩ => ⟨n, by simp [vop, hl, hz]⟩
  | callc d x xs =>
    simp only [opX]
    split
    · rename_i f caps l h1 h2
      exact Ok.iteF fun h => (callX_ok st d f _).mono fun z ⟨n, hz⟩ => ⟨n, by simp only [vop, h1, h2, if_pos h, hz]⟩
    · exact Ok.fail
  | nil d p => exact (show Ok (xof (vop tbl (fun _ _ => none) st (.nil d p))) _ from Ok.of fun x hx => base _ x hx)
  | cpy d x y => exact (show Ok (xof (vop tbl (fun _ _ => none) st (.cpy d x y))) _ from Ok.of fun x hx => base _ x hx)
  | _ => exact Ok.of fun x hx => base _ x hx

theorem roX_ok (st : St) (o : ROp) : Ok (roX ext tbl st o) fun x => ∃ n, vro tbl (vrun ext tbl n) st o = some x := by
  have hdo : Ok (xbind (frzAllX (kept st o.kp) o.fz) fun st1 => opX ext tbl st1 o.op) fun x => ∃ n, (frzAll (kept st o.kp) o.fz).bind (fun st1 => vop tbl (vrun ext tbl n) st1 o.op) = some x :=
    Ok.bind (frzAllX_ok _ _) fun st1 h1 => (opX_ok st1 o.op).mono fun x ⟨n, hx⟩ => ⟨n, by simp [h1, hx]⟩
  unfold roX vro vro1
  simp only
  split
  · rename_i hg
    simp only [hg]
    exact hdo
  · rename_i s want hg
    simp only [hg]
    split
    · rename_i v hs
      split
      · rename_i e
        refine Ok.took fun b => Ok.asked fun he => Ok.ite (fun hb => ?_) fun hb => ?_
        · refine hdo.mono fun x ⟨n, hx⟩ => ⟨n, ?_⟩
          simp only [hs]
          rw [if_pos (he.trans hb)]
          exact hx
        · exact Ok.pure ⟨0, by simp only [hs]; rw [if_neg (by rw [he]; exact hb)]⟩
      · rename_i hne
        refine Ok.pure ⟨0, ?_⟩
        simp only [hs]
    · exact Ok.fail

theorem opsX_ok : ∀ (l : List ROp) (st : St), Ok (opsX ext tbl st l) fun x => ∃ n, vops tbl (vrun ext tbl n) st l = some x
  | [], st => Ok.pure ⟨0, rfl⟩
  | o :: l, st => Ok.bind (roX_ok st o) fun st1 ⟨n, h1⟩ => (opsX_ok l st1).mono fun x ⟨m, hx⟩ => ⟨max n m, by
      simp only [vops, vro_mono (runs_le (Nat.le_max_left n m)) h1]
      exact vops_mono (runs_le (Nat.le_max_right n m)) hx⟩
end
end Go.Proofs.V

/- Runs with answers told ahead: control flow, labels, loops. -/
set_option linter.unusedSimpArgs false
set_option linter.unusedVariables false
namespace Go.Proofs.V
open Go

/-- what is still to be done -/
inductive Fr where
  | sq (b : VC)
  | bk (id : Nat)
  | lp (keep : List Nat) (c : VC)
inductive Cu where
  | c (c : VC)
  | x (x : VX)

section
variable {ext : FuncId → List Arg → Option FRes} {tbl : FuncId → Option VF}

def EvK (ext : FuncId → List Arg → Option FRes) (tbl : FuncId → Option VF) : VX → List Fr → St → (VX → St → Prop) → Prop
  | x, [], st, Q => Q x st
  | .n, .sq b :: K, st, Q => Ev ext tbl b st fun x st => EvK ext tbl x K st Q
  | .e i, .sq _ :: K, st, Q => EvK ext tbl (.e i) K st Q
  | .r, .sq _ :: K, st, Q => EvK ext tbl .r K st Q
  | .n, .bk _ :: K, st, Q => EvK ext tbl .n K st Q
  | .e i, .bk id :: K, st, Q => if i = id then EvK ext tbl .n K st Q else EvK ext tbl (.e i) K st Q
  | .r, .bk _ :: K, st, Q => EvK ext tbl .r K st Q
  | .n, .lp keep c :: K, st, Q => Ev ext tbl (.loop keep c) st fun x st => EvK ext tbl x K st Q
  | .e i, .lp _ _ :: K, st, Q => EvK ext tbl (.e i) K st Q
  | .r, .lp _ _ :: K, st, Q => EvK ext tbl .r K st Q

def EvU (ext : FuncId → List Arg → Option FRes) (tbl : FuncId → Option VF) (u : Cu) (K : List Fr) (st : St) (Q : VX → St → Prop) : Prop :=
  match u with
  | .c c => Ev ext tbl c st fun x st => EvK ext tbl x K st Q
  | .x x => EvK ext tbl x K st Q

theorem Ev.loop1 {keep : List Nat} {a : VC} {st : St} {Q : VX → St → Prop} (h : Ev ext tbl a (st.sweep keep) (VX.then (fun st1 => Ev ext tbl (.loop keep a) st1 Q) Q)) : Ev ext tbl (.loop keep a) st Q := by
  obtain ⟨n, x, st1, h1, h2⟩ := h
  cases x with
  | n =>
    obtain ⟨m, y, st2, h3, h4⟩ := h2
    refine ⟨max n m + 1, y, st2, ?_, h4⟩
    simp only [vexec] at h3 ⊢
    have hb : vexec tbl (vrun ext tbl (max n m + 1)) (max n m + 1) a (st.sweep keep) = some (.n, st1) := ex_le (by omega) h1
    simp only [vloop, hb]
    exact vloop_mono (fun st r hr => ex_le (by omega) hr) (by omega) h3
  | e i =>
    refine ⟨n + 1, .e i, st1, ?_, h2⟩
    have hb := ex_le (Nat.le_succ n) h1
    simp only [vexec, vloop, hb]
  | r =>
    refine ⟨n + 1, .r, st1, ?_, h2⟩
    have hb := ex_le (Nat.le_succ n) h1
    simp only [vexec, vloop, hb]

variable (ext) (tbl) in
def runX : Nat → Cu → List Fr → St → X (Cu × List Fr × St)
  | 0, _, _, _ => xfail
  | n + 1, .c c, K, st =>
    match c with
    | .skip => runX n (.x .n) K st
    | .r _ ops => xbind (opsX ext tbl st ops) fun st1 => runX n (.x .n) K st1
    | .d _ ops => xbind (opsX ext tbl st (ops.map (·.2))) fun st1 => runX n (.x .n) K st1
    | .kp keep c => xpure (.c c, K, st.sweep keep)
    | .seq a b => runX n (.c a) (.sq b :: K) st
    | .ite o a b => xbind (xtruth (st.val o)) fun t => runX n (.c (match t with | true => a | false => b)) K st
    | .blk id a => runX n (.c a) (.bk id :: K) st
    | .loop keep a => xpure (.c a, .lp keep a :: K, st.sweep keep)
    | .exit id => runX n (.x (.e id)) K st
    | .ret => runX n (.x .r) K st
  | n + 1, .x x, K, st =>
    match K with
    | [] => xpure (.x x, [], st)
    | .sq b :: K =>
      match x with
      | .n => runX n (.c b) K st
      | x => runX n (.x x) K st
    | .bk id :: K =>
      match x with
      | .e i => if i = id then runX n (.x .n) K st else runX n (.x (.e i)) K st
      | x => runX n (.x x) K st
    | .lp keep a :: K =>
      match x with
      | .n => xpure (.c a, .lp keep a :: K, st.sweep keep)
      | x => runX n (.x x) K st

theorem runX_ok {Q : VX → St → Prop} : ∀ (n : Nat) (u : Cu) (K : List Fr) (st : St), Ok (runX ext tbl n u K st) fun y => EvU ext tbl y.1 y.2.1 y.2.2 Q → EvU ext tbl u K st Q
  | 0, u, K, st => Ok.fail
  | n + 1, .c c, K, st => by
    cases c with
    | skip => exact (runX_ok n (.x .n) K st).mono fun y h hy => Ev.skip (h hy)
    | r id ops =>
      refine Ok.bind (opsX_ok ops st) fun st1 ⟨m, h1⟩ => (runX_ok (Q := Q) n (.x .n) K st1).mono fun y h hy => ?_
      exact Ev.r ⟨m, st1, h1, h hy⟩
    | d id ops =>
      refine Ok.bind (opsX_ok (ops.map (·.2)) st) fun st1 ⟨m, h1⟩ => (runX_ok (Q := Q) n (.x .n) K st1).mono fun y h hy => ?_
      exact ⟨m, .n, st1, by simp [vexec, h1], h hy⟩
    | kp keep c =>
      refine Ok.pure fun hy => ?_
      obtain ⟨m, x, st1, h1, h2⟩ := hy
      exact ⟨m, x, st1, h1, h2⟩
    | seq a b =>
      refine (runX_ok n (.c a) (.sq b :: K) st).mono fun y h hy => Ev.seq ((h hy).mono fun x st1 hx => ?_)
      cases x <;> exact hx
    | ite o a b =>
      refine Ok.bind (truth_ok _) fun t ht => (runX_ok (Q := Q) n _ K st).mono fun y h hy => ?_
      refine Ev.ite ht (fun e => ?_) fun e => ?_
      · subst e; exact h hy
      · subst e; exact h hy
    | blk id a =>
      refine (runX_ok n (.c a) (.bk id :: K) st).mono fun y h hy => Ev.blk ((h hy).mono fun x st1 hx => ?_)
      cases x <;> exact hx
    | loop keep a =>
      refine Ok.pure fun hy => Ev.loop1 (Ev.mono hy fun x st1 hx => ?_)
      cases x <;> exact hx
    | exit id => exact (runX_ok n (.x (.e id)) K st).mono fun y h hy => Ev.exit (h hy)
    | ret => exact (runX_ok n (.x .r) K st).mono fun y h hy => Ev.ret (h hy)
  | n + 1, .x x, K, st => by
    cases K with
    | nil => exact Ok.pure fun hy => hy
    | cons fr K =>
      cases fr with
      | sq b =>
        cases x with
        | n => exact (runX_ok n (.c b) K st).mono fun y h hy => h hy
        | e i => exact (runX_ok n (.x (.e i)) K st).mono fun y h hy => h hy
        | r => exact (runX_ok n (.x .r) K st).mono fun y h hy => h hy
      | bk id =>
        cases x with
        | n => exact (runX_ok n (.x .n) K st).mono fun y h hy => h hy
        | e i =>
          simp only [runX]
          refine Ok.ite (fun hi => (runX_ok (Q := Q) n (.x .n) K st).mono fun y h hy => ?_) fun hi => (runX_ok (Q := Q) n (.x (.e i)) K st).mono fun y h hy => ?_
          · simp only [EvU, EvK]; rw [if_pos hi]; exact h hy
          · simp only [EvU, EvK]; rw [if_neg hi]; exact h hy
        | r => exact (runX_ok n (.x .r) K st).mono fun y h hy => h hy
      | lp keep a =>
        cases x with
        | n =>
          refine Ok.pure fun hy => Ev.loop1 (Ev.mono hy fun x st1 hx => ?_)
          cases x <;> exact hx
        | e i => exact (runX_ok n (.x (.e i)) K st).mono fun y h hy => h hy
        | r => exact (runX_ok n (.x .r) K st).mono fun y h hy => h hy

-- ---------------------------------------------------------------- lengths told anew
def lenCX : C → X C
  | .ref id p off len => xbind (xsize len) fun n => xpure (.ref id p off n)
  | c => xpure c
theorem lenCX_ok (c : C) : Ok (lenCX c) fun x => x = id c := by
  cases c with
  | ref id p off len => exact Ok.bind (size_ok len) fun n hn => Ok.pure (by rw [hn]; rfl)
  | _ => exact Ok.pure rfl
theorem SV.map_id : ∀ s : SV, s.map id = s
  | .v a cs => by simp [SV.map]
  | .tup ss => by simp [SV.map]
  | .any => rfl
theorem mapC_id (st : St) : st.mapC id = st := by
  have h1 : SV.map (id : C → C) = id := funext SV.map_id
  have h2 : (Option.map (List.map (id : C → C))) = id := by funext o; cases o <;> simp
  simp [St.mapC, h1, h2]
def relenX (st : St) : X St := St.mapX st lenCX
theorem relenX_ok (st : St) : Ok (relenX st) fun x => x = st := (stmapX_ok lenCX_ok st).mono fun x hx => by rw [hx, mapC_id]

variable (ext) (tbl) in
def stepX (n : Nat) (u : Cu) (K : List Fr) (st : St) : X (Cu × List Fr × St) :=
  xbind (runX ext tbl n u K st) fun y => xbind (relenX y.2.2) fun st1 => xpure (y.1, y.2.1, st1)
theorem stepX_ok {Q : VX → St → Prop} (n : Nat) (u : Cu) (K : List Fr) (st : St) : Ok (stepX ext tbl n u K st) fun y => EvU ext tbl y.1 y.2.1 y.2.2 Q → EvU ext tbl u K st Q :=
  Ok.bind (runX_ok n u K st) fun y h => Ok.bind (relenX_ok _) fun st1 h1 => Ok.pure fun hy => h (by subst h1; exact hy)

-- ---------------------------------------------------------------- the end of a function
def outRX (st : St) : RM → SV → X (Arg × List Nat × List Nat)
  | .v ots, .v agg cs => xbind (toTsX st ots cs) fun t => xpure (.v agg t.1, t.2, [])
  | .p ots, .v false [.vptr id 0] => xbind (xof (st.var id)) fun cs => xbind (toTsX st ots cs) fun t => xpure (.m (.pt t.1), t.2, [id])
  | _, _ => xfail
def outRsX (st : St) : List RM → List Nat → X (List Arg × List Nat × List Nat)
  | [], [] => xpure ([], [], [])
  | m :: ms, k :: ks => xbind (xof (st.slots[k]?)) fun s => xbind (outRX st m s) fun a => xbind (outRsX st ms ks) fun b => xpure (a.1 :: b.1, a.2.1 ++ b.2.1, a.2.2 ++ b.2.2)
  | _, _ => xfail
def outMX (st : St) : List PM → Nat → X (List T × List Nat × List Nat)
  | [], _ => xpure ([], [], [])
  | .ro _ :: ms, k => outMX st ms (k + 1)
  | .mv _ :: ms, k => outMX st ms (k + 1)
  | .mb ots :: ms, k =>
    xbind (xof (st.slots[k]?)) fun s => xbind (outMX st ms (k + 1)) fun r =>
    match s with
    | .v false [.vptr id 0] => xbind (xof (st.var id)) fun cs => xbind (toTsX st ots cs) fun t => xpure (.pt t.1 :: r.1, t.2 ++ r.2.1, id :: r.2.2)
    | _ => xfail
  | .ms ot :: ms, k =>
    xbind (xof (st.slots[k]?)) fun s => xbind (outMX st ms (k + 1)) fun r =>
    match s with
    | .v false [.ref id [] 0 _] => xbind (xof (st.obj id)) fun o => if OT.beqs ot o.ot then xpure (.sl o.es :: r.1, id :: r.2.1, r.2.2) else xfail
    | _ => xfail
def leaveX (vf : VF) (st : St) : X FRes :=
  xbind (outRsX st vf.rm vf.res) fun a => xbind (outMX st vf.pm 0) fun b => if distinct (a.2.1 ++ b.2.1) && distinct (a.2.2 ++ b.2.2) then xpure ⟨a.1, b.1⟩ else xfail

theorem outRX_ok (st : St) (m : RM) (s : SV) : Ok (outRX st m s) fun x => outR st m s = some x := by
  unfold outRX
  split
  · exact Ok.bind (toTsX_ok _ _ _) fun t ht => Ok.pure (by simp [outR, ht])
  · exact Ok.ofb fun cs hcs => Ok.bind (toTsX_ok _ _ _) fun t ht => Ok.pure (by simp [outR, ht, hcs])
  · exact Ok.fail
theorem outRsX_ok (st : St) : ∀ (ms : List RM) (ks : List Nat), Ok (outRsX st ms ks) fun x => outRs st ms ks = some x
  | [], [] => Ok.pure rfl
  | [], _ :: _ => Ok.fail
  | _ :: _, [] => Ok.fail
  | m :: ms, k :: ks => Ok.ofb fun s hs => Ok.bind (outRX_ok st m s) fun a ha => Ok.bind (outRsX_ok st ms ks) fun b hb => Ok.pure (by simp [outRs, hs, ha, hb])
theorem outMX_ok (st : St) : ∀ (ms : List PM) (k : Nat), Ok (outMX st ms k) fun x => outM st ms k = some x
  | [], k => Ok.pure rfl
  | .ro _ :: ms, k => (outMX_ok st ms (k + 1)).mono fun x hx => by simpa [outM] using hx
  | .mv _ :: ms, k => (outMX_ok st ms (k + 1)).mono fun x hx => by simpa [outM] using hx
  | .mb ots :: ms, k => by
    refine Ok.ofb fun s hs => Ok.bind (outMX_ok st ms (k + 1)) fun r hr => ?_
    split
    · refine Ok.ofb fun cs hcs => Ok.bind (toTsX_ok _ _ _) fun t ht => Ok.pure ?_
      simp [outM, hs, hr, hcs, ht]
    · exact Ok.fail
  | .ms ot :: ms, k => by
    refine Ok.ofb fun s hs => Ok.bind (outMX_ok st ms (k + 1)) fun r hr => ?_
    split
    · refine Ok.ofb fun o ho => Ok.iteF fun hb => Ok.pure ?_
      simp [outM, hs, hr, ho, hb]
    · exact Ok.fail
theorem leaveX_ok (vf : VF) (st : St) : Ok (leaveX vf st) fun x => leave vf st = some x := by
  unfold leaveX
  refine Ok.bind (outRsX_ok _ _ _) fun a ha => Ok.bind (outMX_ok _ _ _) fun b hb => Ok.iteF fun hd => Ok.pure ?_
  simp only [leave, ha, hb, if_pos hd]

def resX : List Nat → List (Option (Nat × Bool)) → St → X St
  | k :: ks, some (n, agg) :: rc, st => xbind (if agg || decide (n = 1) then loadX st k (.s k) n agg else xfail) fun st1 => resX ks rc st1
  | _ :: ks, none :: rc, st => resX ks rc st
  | [], _, st => xpure st
  | _ :: _, [], st => xpure st
theorem resX_ok : ∀ (ks : List Nat) (rc : List (Option (Nat × Bool))) (st : St), Ok (resX ks rc st) fun x => resLoad ks rc st = some x
  | k :: ks, some (n, agg) :: rc, st => Ok.bind (r := fun st1 => (if agg || decide (n = 1) then vload st k (.s k) n agg else none) = some st1) (Ok.iteF fun h => (loadX_ok st k (.s k) n agg).mono fun y hy => by rw [if_pos h, hy]) fun st1 h1 => (resX_ok ks rc st1).mono fun x hx => by simp only [resLoad, h1, hx]
  | _ :: ks, none :: rc, st => resX_ok ks rc st
  | [], _, st => Ok.pure (by simp [resLoad])
  | _ :: _, [], st => Ok.pure (by simp [resLoad])
def leave2X (vf : VF) (st : St) : X FRes := xbind (resX vf.res vf.rc st) fun st1 => leaveX vf st1
theorem leave2X_ok (vf : VF) (st : St) : Ok (leave2X vf st) fun x => leave2 vf st = some x := Ok.bind (resX_ok _ _ st) fun st1 h1 => (leaveX_ok vf st1).mono fun x hx => by simp [leave2, h1, hx]

/-- how a function ends that answers so -/
def Post (vf : VF) (r : FRes) (x : VX) (st : St) : Prop := (x = .n ∨ x = .r) ∧ leave2 vf st = some r

variable (ext) (tbl) in
def finX (vf : VF) (n : Nat) (u : Cu) (K : List Fr) (st : St) : X FRes :=
  xbind (runX ext tbl n u K st) fun y =>
  match y with
  | (.x .n, [], st1) => leave2X vf st1
  | (.x .r, [], st1) => leave2X vf st1
  | _ => xfail
theorem finX_ok (vf : VF) (n : Nat) (u : Cu) (K : List Fr) (st : St) : Ok (finX ext tbl vf n u K st) fun r => EvU ext tbl u K st (Post vf r) := by
  intro os r os' ps h hp
  have key : Ok (finX ext tbl vf n u K st) fun r => ∀ r', r = r' → EvU ext tbl u K st (Post vf r') := by
    intro os r os' ps h hp r' e
    subst e
    have : Ok (finX ext tbl vf n u K st) fun r1 => r1 = r → EvU ext tbl u K st (Post vf r) := by
      refine Ok.bind (runX_ok (Q := Post vf r) n u K st) fun y hy => ?_
      split
      · exact (leave2X_ok vf _).mono fun x hx e => hy ⟨.inl rfl, by rw [← e]; exact hx⟩
      · exact (leave2X_ok vf _).mono fun x hx e => hy ⟨.inr rfl, by rw [← e]; exact hx⟩
      · exact Ok.fail
    exact this _ _ _ _ h hp rfl
  exact key _ _ _ _ h hp r rfl

-- ---------------------------------------------------------------- the steps of a proof
/-- what comes of a run, and what it asks -/
def outX {α : Type} (x : X α) (os : List Orc) : Option (α × Prop) :=
  match x os with
  | some (a, [], ps) => some (a, All ps)
  | _ => none

theorem outX_ok {α : Type} {x : X α} {os : List Orc} {a : α} {p : Prop} {r : α → Prop} (h : Ok x r) (hx : outX x os = some (a, p)) (hp : p) : r a := by
  unfold outX at hx
  split at hx
  · rename_i b ps h1
    simp only [Option.some.injEq, Prod.mk.injEq] at hx
    obtain ⟨rfl, rfl⟩ := hx
    exact h _ _ _ _ h1 hp
  · simp at hx

/-- on to the next label -/
theorem go_on {u u' : Cu} {K K' : List Fr} {st st' : St} {Q : VX → St → Prop} (os : List Orc) (n : Nat) {p : Prop} (hp : p) (hn : EvU ext tbl u' K' st' Q) (h : outX (stepX ext tbl n u K st) os = some ((u', K', st'), p)) : EvU ext tbl u K st Q :=
  outX_ok (stepX_ok n u K st) h hp hn

/-- to the function's end -/
theorem go_end {u : Cu} {K : List Fr} {st : St} {vf : VF} {r r' : FRes} (os : List Orc) (n : Nat) {p : Prop} (hp : p) (hr : r' = r) (h : outX (finX ext tbl vf n u K st) os = some (r', p)) : EvU ext tbl u K st (Post vf r) := by
  subst hr
  exact outX_ok (r := fun r => EvU ext tbl u K st (Post vf r)) (finX_ok vf n u K st) h hp

/-- a function by its first label -/
theorem runs_of {f : FuncId} {vf : VF} {ars : List Arg} {r : FRes} {st : St} (hvf : tbl f = some vf) (hg : vf.given = false) (he : enter vf ars = some st) (h : EvU ext tbl (.c vf.code) [] st (Post vf r)) : Runs ext tbl f ars r :=
  Runs.intro hvf hg he h

-- ---------------------------------------------------------------- loops as functions
section
variable {σ ε : Type}
def iterM (b : σ → Option (σ ⊕ ε)) : Nat → σ → Option ε
  | 0, _ => none
  | n + 1, s =>
    match b s with
    | none => none
    | some (.inl s') => iterM b n s'
    | some (.inr e) => some e
theorem iterM_mono {b : σ → Option (σ ⊕ ε)} : ∀ {n m : Nat} {s : σ} {e : ε}, n ≤ m → iterM b n s = some e → iterM b m s = some e
  | 0, m, s, e, _, h => by simp [iterM] at h
  | n + 1, 0, s, e, hm, _ => by omega
  | n + 1, m + 1, s, e, hm, h => by
    simp only [iterM] at h ⊢
    split at h
    · simp at h
    · exact iterM_mono (Nat.le_of_succ_le_succ hm) h
    · exact h

open Classical in
/-- a loop: rounds till one ends it -/
noncomputable def loopM (b : σ → Option (σ ⊕ ε)) (s : σ) : Option ε := if h : ∃ e n, iterM b n s = some e then some h.choose else none

theorem loopM_some {b : σ → Option (σ ⊕ ε)} {s : σ} {e : ε} : loopM b s = some e ↔ ∃ n, iterM b n s = some e := by
  unfold loopM
  constructor
  · intro h
    split at h
    · rename_i hx
      simp at h
      subst h
      exact hx.choose_spec
    · simp at h
  · rintro ⟨n, h⟩
    have hx : ∃ e n, iterM b n s = some e := ⟨e, n, h⟩
    rw [dif_pos hx]
    obtain ⟨m, h2⟩ := hx.choose_spec
    have h3 := iterM_mono (Nat.le_max_left n m) h
    have h4 := iterM_mono (Nat.le_max_right n m) h2
    rw [h3] at h4
    exact h4.symm

theorem loopM_eq (b : σ → Option (σ ⊕ ε)) (s : σ) : loopM b s = match b s with
    | none => none
    | some (.inl s') => loopM b s'
    | some (.inr e) => some e := by
  have key : ∀ e, loopM b s = some e ↔ (match b s with
    | none => none
    | some (.inl s') => loopM b s'
    | some (.inr e) => some e) = some e := by
    intro e
    rw [loopM_some]
    constructor
    · rintro ⟨n, h⟩
      cases n with
      | zero => simp [iterM] at h
      | succ n =>
        simp only [iterM] at h
        split at h
        · simp at h
        · rename_i s' hb
          exact loopM_some.2 ⟨n, h⟩
        · rename_i e' hb
          exact h
    · intro h
      split at h
      · simp at h
      · rename_i s' hb
        obtain ⟨n, h⟩ := loopM_some.1 h
        exact ⟨n + 1, by simp only [iterM, hb]; exact h⟩
      · rename_i e' hb
        exact ⟨1, by simp only [iterM, hb]; exact h⟩
  cases h1 : loopM b s with
  | some e => rw [(key e).1 h1]
  | none =>
    cases h2 : (match b s with
    | none => none
    | some (.inl s') => loopM b s'
    | some (.inr e) => some e) with
    | none => rfl
    | some e => rw [(key e).2 h2] at h1; simp at h1

theorem loop_rule {b : σ → Option (σ ⊕ ε)} {stJ : σ → St} {u : Cu} {K : List Fr} {Q : VX → St → Prop} {We : ε → Prop}
    (H : ∀ s y, b s = some y → (∀ s', y = .inl s' → EvU ext tbl u K (stJ s') Q) → (∀ e, y = .inr e → We e) → EvU ext tbl u K (stJ s) Q) {s : σ} {e : ε} (h : loopM b s = some e) (he : We e) : EvU ext tbl u K (stJ s) Q := by
  replace h := loopM_some.1 h
  obtain ⟨n, h⟩ := h
  induction n generalizing s with
  | zero => simp [iterM] at h
  | succ n ih =>
    simp only [iterM] at h
    split at h
    · simp at h
    · rename_i s' hb
      exact H s _ hb (fun s'' e => by simp at e; subst e; exact ih h) (fun e h => by simp at h)
    · rename_i e' hb
      simp at h
      subst h
      exact H s _ hb (fun s'' e => by simp at e) (fun e h => by simp at h; subst h; exact he)

/-- the rule for the plain law: rounds that go down -/
theorem loopM_total {b : σ → Option (σ ⊕ ε)} {I : σ → Prop} {R : σ → ε → Prop} (m : σ → Nat) (H : ∀ s, I s → ∃ y, b s = some y ∧ (∀ s', y = .inl s' → I s' ∧ m s' < m s ∧ ∀ e, R s' e → R s e) ∧ (∀ e, y = .inr e → R s e)) (s : σ) (h : I s) : ∃ e, loopM b s = some e ∧ R s e := by
  have key : ∀ n s, m s < n → I s → ∃ e, loopM b s = some e ∧ R s e := by
    intro n
    induction n with
    | zero => intro s h; omega
    | succ n ih =>
      intro s hm hi
      obtain ⟨y, h1, h2, h3⟩ := H s hi
      rw [loopM_eq, h1]
      cases y with
      | inl s' =>
        obtain ⟨h4, h5, h6⟩ := h2 s' rfl
        obtain ⟨e, h7, h8⟩ := ih s' (by omega) h4
        exact ⟨e, h7, h6 e h8⟩
      | inr e => exact ⟨e, rfl, h3 e rfl⟩
  exact key (m s + 1) s (by omega) h
end
end
end Go.Proofs.V

/- Words of the plain functions, and what they answer for. -/
set_option linter.unusedSimpArgs false
set_option linter.unusedVariables false
namespace Go.Proofs.V
open Go

section
variable {α β : Type}
def w64 (x : Int) : Int := IntKind.wrap .i64 x
def wr (k : IntKind) (x : Int) : Int := IntKind.wrap k x
def shlI (k : IntKind) (a b : Int) : Int := k.wrap (a * 2 ^ min b.toNat k.bits)
def shrI (k : IntKind) (a b : Int) : Int := a.fdiv (2 ^ min b.toNat k.bits)
def andI (k : IntKind) (x y : Int) : Int := k.wrap (BitVec.ofInt k.bits x &&& BitVec.ofInt k.bits y).toNat
def orI (k : IntKind) (x y : Int) : Int := k.wrap (BitVec.ofInt k.bits x ||| BitVec.ofInt k.bits y).toNat
def xorI (k : IntKind) (x y : Int) : Int := k.wrap (BitVec.ofInt k.bits x ^^^ BitVec.ofInt k.bits y).toNat
def andNotI (k : IntKind) (x y : Int) : Int := k.wrap (BitVec.ofInt k.bits x &&& ~~~ BitVec.ofInt k.bits y).toNat
def notI (k : IntKind) (n : Int) : Int := k.wrap (BitVec.ofInt k.bits (if k.signed then -1 else k.max) ^^^ BitVec.ofInt k.bits n).toNat
def mxI (x y : Int) : Int := if y > x then y else x
def mnI (x y : Int) : Int := if y < x then y else x

def rd (l : List α) (k : Int) : Option α := if 0 ≤ k then l[k.toNat]? else none
def rds (l : List α) (off len : Nat) (k : Int) : Option α := if 0 ≤ k ∧ k < len then l[off + k.toNat]? else none
def ck (b : Bool) : Option Unit := if b then some () else none
def sat (s : ByteArray) (k : Int) : Option Int := if 0 ≤ k then (s[k.toNat]?).map (fun c => (c.toNat : Int)) else none

def rI (k : IntKind) (n : Int) : List T := [.lit (.int k n)]
def rB (b : Bool) : List T := [.lit (.bool b)]
def rS (s : ByteArray) : List T := [.lit (.string s)]
def rL (f : α → List T) (l : List α) : List T := [.sl (l.map f)]

/-- slots by their numbers -/
def mkSl (n : Nat) (l : List (Nat × SV)) : List SV := (List.range n).map fun k => (l.lookup k).getD .any

theorem split_ite {c : Bool} {A B : Option α} {r : α} (h : (if c then A else B) = some r) : (c = true ∧ A = some r) ∨ (c = false ∧ B = some r) := by
  cases c with
  | true => exact .inl ⟨rfl, h⟩
  | false => exact .inr ⟨rfl, h⟩
theorem bind_some {x : Option α} {f : α → Option β} {r : β} (h : x.bind f = some r) : ∃ a, x = some a ∧ f a = some r := Option.bind_eq_some_iff.1 h

theorem ck_p {p : Prop} [Decidable p] {u : Unit} (h : ck (decide p) = some u) : p := by
  unfold ck at h
  split at h
  · rename_i h1; exact of_decide_eq_true h1
  · simp at h

section
variable {l : List α} {k : Int} {x : α}
theorem rd_nn (h : rd l k = some x) : 0 ≤ k := by
  unfold rd at h
  split at h
  · assumption
  · simp at h
theorem rd_get (h : rd l k = some x) : l[k.toNat]? = some x := by
  unfold rd at h
  split at h
  · exact h
  · simp at h
theorem rd_get0 (h : rd l k = some x) : l[0 + k.toNat]? = some x := by rw [Nat.zero_add]; exact rd_get h
theorem rd_lt (h : rd l k = some x) : k < l.length := by
  have h1 := rd_get h
  have h2 := rd_nn h
  have := (List.getElem?_eq_some_iff.1 h1).1
  omega
theorem rd_in {n : Nat} (hn : n = l.length) (h : rd l k = some x) : 0 ≤ k ∧ k < (n : Int) := ⟨rd_nn h, by rw [hn]; exact rd_lt h⟩
theorem rds_in {off n : Nat} (h : rds l off n k = some x) : 0 ≤ k ∧ k < (n : Int) := by
  unfold rds at h
  split at h
  · assumption
  · simp at h
theorem rds_get {off n : Nat} (h : rds l off n k = some x) : l[off + k.toNat]? = some x := by
  unfold rds at h
  split at h
  · exact h
  · simp at h
end

theorem at_row (f : α → List T) {l : List α} {i : Nat} {x : α} (h : l[i]? = some x) : (l.map f)[i]? = some (f x) := by rw [List.getElem?_map, h]; rfl
theorem set_at {l : List α} {i : Nat} {x : α} (v : α) (h : l[i]? = some x) : (l.set i v)[i]? = some v := by
  have := (List.getElem?_eq_some_iff.1 h).1
  simp [List.getElem?_set, this]
theorem set_len {l : List α} {n i : Nat} {v : α} (h : n = l.length) : n = (l.set i v).length := by rw [List.length_set]; exact h

theorem put_ob (f : α → List T) {l : List α} {i : Nat} {x : α} (v : α) (j : Nat) (c : T) (h : l[i]? = some x) (h2 : decide (j < (f x).length) = true) (h3 : (f x).set j c = f v) :
    ∃ row, (l.map f)[i]? = some row ∧ j < row.length ∧ (l.map f).set i (row.set j c) = (l.set i v).map f :=
  ⟨f x, at_row f h, of_decide_eq_true h2, by rw [h3, List.map_set]⟩
theorem upd_ob (f : α → List T) (l : List α) (i : Nat) (x v : α) (j : Nat) (c : T) (h3 : (f x).set j c = f v) : (l.map f).set i ((f x).set j c) = (l.set i v).map f := by rw [h3, List.map_set]

theorem len_map (f : α → β) {l : List α} {n : Nat} (h : n = l.length) : (l.map f).length = n := by rw [List.length_map, h]
theorem lens (m n : Nat) (h : m = n) : m = n := h
theorem take_len {l : List α} {n : Nat} (h : n ≤ l.length) : n = (l.take n).length := by simp; omega
theorem take_le (f : α → List T) (l : List α) {n : Nat} (h : n ≤ l.length) : n ≤ (l.map f).length := by simpa using h
theorem take_t (f : α → List T) (l : List α) (n : Nat) : (l.map f).take n = (l.take n).map f := by rw [List.map_take]
theorem dt_len {l : List α} {off n : Nat} (h : off + n ≤ l.length) : n = ((l.drop off).take n).length := by simp; omega

-- appending: the source is of its own (t), or only read (r)
section
variable {lim n1 n2 : Nat} (f : α → List T) (l1 l2 : List α)
theorem app_ck {u : Unit} (h1 : n1 = l1.length) (h2 : n2 = l2.length) (h : ck (decide (l1.length + l2.length ≤ lim)) = some u) : n1 ≤ (l1.map f).length ∧ n1 + (((l2.map f).drop 0).take n2).length ≤ lim := by
  have := ck_p h
  subst h1; subst h2
  simp
  omega
theorem app_ck_ro {u : Unit} (h1 : n1 = l1.length) (h : ck (decide (l1.length + l2.length ≤ lim)) = some u) : n1 ≤ (l1.map f).length ∧ n1 + (l2.map f).length ≤ lim := by
  have := ck_p h
  subst h1
  simp
  omega
theorem app_ck_mv {u : Unit} (h1 : n1 = l1.length) (h : ck (decide (l1.length + l2.length ≤ lim)) = some u) : n1 ≤ (l1.map f).length ∧ n1 + (l2.map f).length ≤ lim := app_ck_ro f l1 l2 h1 h
theorem app_tell (h1 : n1 = l1.length) (h2 : n2 = l2.length) : (l1.map f).take n1 ++ ((l2.map f).drop 0).take n2 = (l1 ++ l2).map f := by
  subst h1; subst h2
  rw [List.take_of_length_le (by simp), List.drop_zero, List.take_of_length_le (by simp), List.map_append]
theorem app_tell_ro (h1 : n1 = l1.length) : (l1.map f).take n1 ++ l2.map f = (l1 ++ l2).map f := by
  subst h1
  rw [List.take_of_length_le (by simp), List.map_append]
theorem app_ckP {u : Unit} (h0 : n1 ≤ l1.length) (h2 : n2 = l2.length) (h : ck (decide ((l1.take n1).length + l2.length ≤ lim)) = some u) : n1 ≤ (l1.map f).length ∧ n1 + (((l2.map f).drop 0).take n2).length ≤ lim := by
  have := ck_p h
  subst h2
  simp at this ⊢
  omega
theorem app_tellP (n1 : Nat) (h2 : n2 = l2.length) : (l1.map f).take n1 ++ ((l2.map f).drop 0).take n2 = (l1.take n1 ++ l2).map f := by
  subst h2
  rw [List.drop_zero, List.take_of_length_le (l := l2.map f) (by simp), List.map_append, List.map_take]
theorem app_ck_part (off n2 : Nat) {u : Unit} (h1 : n1 = l1.length) (h : ck (decide (l1.length + ((l2.drop off).take n2).length ≤ lim)) = some u) : n1 ≤ (l1.map f).length ∧ n1 + (((l2.map f).drop off).take n2).length ≤ lim := by
  have := ck_p h
  subst h1
  simp at this ⊢
  omega
theorem app_tell_part (off n2 : Nat) (h1 : n1 = l1.length) : (l1.map f).take n1 ++ ((l2.map f).drop off).take n2 = (l1 ++ (l2.drop off).take n2).map f := by
  subst h1
  rw [List.take_of_length_le (by simp), List.map_append, List.map_take, List.map_drop]
theorem nil_ck {u : Unit} (h2 : n2 = l2.length) (h : ck (decide (l2.length ≤ lim)) = some u) : (((l2.map f).drop 0).take n2).length ≤ lim := by
  have := ck_p h
  subst h2
  simpa using this
theorem nil_ck_ro {u : Unit} (h : ck (decide (l2.length ≤ lim)) = some u) : (l2.map f).length ≤ lim := by
  have := ck_p h
  simpa using this
theorem all_le {n : Nat} (h : n = l1.length) : 0 + n ≤ (l1.map f).length := by subst h; simp
theorem all_le0 {n : Nat} (h : n = l1.length) : n ≤ (l1.map f).length := by subst h; simp
theorem all_eq {n : Nat} (h : n = l1.length) : n = (l1.map f).length := by subst h; simp
theorem all_dt {n : Nat} (h : n = l1.length) : ((l1.map f).drop 0).take n = l1.map f := by subst h; rw [List.drop_zero, List.take_of_length_le (by simp)]
theorem all_t {n : Nat} (h : n = l1.length) : (l1.map f).take n = l1.map f := by subst h; rw [List.take_of_length_le (by simp)]
theorem len2 (h : l1.length = l2.length) : (l1.map f).length = (l2.map f).length := by simpa using h
end

-- a part of a slice of its own
theorem part_le (f : α → List T) (l : List α) {off n : Nat} (h : off + n ≤ l.length) : off + n ≤ (l.map f).length := by simpa using h
theorem part_dt (f : α → List T) (l : List α) (off n : Nat) : ((l.map f).drop off).take n = ((l.drop off).take n).map f := by rw [List.map_take, List.map_drop]
theorem slc_tell (f : α → List T) (l : List α) (lo hi : Nat) : ((l.map f).take hi).drop lo = ((l.take hi).drop lo).map f := by rw [List.map_drop, List.map_take]
theorem slc_tell2 (f : α → List T) (l : List α) (lo : Nat) : ((l.map f).take (l.map f).length).drop lo = (l.drop lo).map f := by rw [List.take_length, List.map_drop]
theorem slc_hi (f : α → List T) (l : List α) {k : Int} (h : 0 ≤ k ∧ k ≤ (l.length : Int)) : 0 ≤ k ∧ k ≤ ((l.map f).length : Int) := by simpa using h
theorem slc_ne (f : α → List T) (l : List α) (h : l.length ≠ 0) : (l.map f).length ≠ 0 := by simpa using h
theorem slc_len (l : List α) {lo hi : Nat} (h : hi ≤ l.length) : hi - lo = ((l.take hi).drop lo).length := by simp; omega

theorem rep_ob (f : α → List T) (n : Nat) (z : α) (row : List T) (h : row = f z) : List.replicate n row = (List.replicate n z).map f := by rw [h, List.map_replicate]
theorem rep_len (n : Nat) (z : α) : n = (List.replicate n z).length := by simp

theorem sat_nn {s : ByteArray} {k b : Int} (h : sat s k = some b) : 0 ≤ k := by
  unfold sat at h
  split at h
  · assumption
  · simp at h
theorem sat_at {s : ByteArray} {k b : Int} (h : sat s k = some b) : (s[k.toNat]?).map (fun c => (c.toNat : Int)) = some b := by
  unfold sat at h
  split at h
  · exact h
  · simp at h
theorem not_t {e : Bool} (h : e = false) : (!e) = true := by rw [h]; rfl
theorem not_f {e : Bool} (h : e = true) : (!e) = false := by rw [h]; rfl
end
end Go.Proofs.V

/- A law's arguments as values of plain types. -/
set_option linter.unusedSimpArgs false
set_option linter.unusedVariables false
namespace Go.Proofs.V
open Go

/-- trees of types are the rows of a value -/
def Dec {α : Type} (p : List Ty) (enc : α → List T) (wf : α → Prop) : Prop := ∀ ts, Wts p ts → ∃ x, ts = enc x ∧ wf x

theorem wts_one {q : Ty} {ts : List T} (h : Wts [q] ts) : ∃ x, ts = [x] ∧ Wt q x := by
  obtain ⟨h1, h2⟩ := h
  match ts, h1 with
  | [x], _ => exact ⟨x, rfl, h2 0 q x rfl rfl⟩

def inK (k : IntKind) (n : Int) : Prop := k.min ≤ n ∧ n ≤ k.max
theorem dec_int (k : IntKind) : Dec [.int k] (rI k) (inK k) := by
  intro ts h
  obtain ⟨x, rfl, hx⟩ := wts_one h
  cases hx with
  | @int _ n hn =>
    refine ⟨n, rfl, ?_⟩
    simp only [Lit.wf, Bool.and_eq_true, decide_eq_true_eq] at hn
    exact hn
theorem dec_bool : Dec [.bool] rB (fun _ => True) := by
  intro ts h
  obtain ⟨x, rfl, hx⟩ := wts_one h
  cases hx with
  | @bool b => exact ⟨b, rfl, trivial⟩
theorem dec_str : Dec [.str] rS (fun s => s.size ≤ maxLen) := by
  intro ts h
  obtain ⟨x, rfl, hx⟩ := wts_one h
  cases hx with
  | @str s hs => exact ⟨s, rfl, hs⟩
theorem dec_sl {α : Type} {p : List Ty} {enc : α → List T} {wf : α → Prop} (h : Dec p enc wf) : Dec [.sl p] (rL enc) (fun l => l.length ≤ maxLen ∧ ∀ x ∈ l, wf x) := by
  intro ts ht
  obtain ⟨x, rfl, hx⟩ := wts_one ht
  cases hx with
  | @sl _ es hl hr hs =>
    have key : ∀ es : List (List T), (∀ row ∈ es, Wts p row) → ∃ l : List α, es = l.map enc ∧ ∀ x ∈ l, wf x := by
      intro es
      induction es with
      | nil => intro _; exact ⟨[], rfl, by simp⟩
      | cons row es ih =>
        intro hrow
        obtain ⟨x, hx, hw⟩ := h row (hrow row (by simp))
        obtain ⟨l, hl, hwl⟩ := ih fun r hr => hrow r (by simp [hr])
        exact ⟨x :: l, by rw [hx, hl]; rfl, by simpa using ⟨hw, hwl⟩⟩
    obtain ⟨l, rfl, hw⟩ := key es (by
      intro row hrow
      obtain ⟨i, hi, rfl⟩ := List.getElem_of_mem hrow
      have he : es[i]? = some es[i] := List.getElem?_eq_getElem hi
      exact ⟨hr i _ he, fun j q x hq hx => hs i j _ x q he hx hq⟩)
    exact ⟨l, rfl, by simpa using hl, hw⟩
theorem dec_app {α β : Type} {p q : List Ty} {e : α → List T} {f : β → List T} {w : α → Prop} {v : β → Prop} (h1 : Dec p e w) (h2 : Dec q f v) : Dec (p ++ q) (fun x : α × β => e x.1 ++ f x.2) (fun x => w x.1 ∧ v x.2) := by
  intro ts ⟨hl, ht⟩
  have e1 : ts = ts.take p.length ++ ts.drop p.length := (List.take_append_drop _ _).symm
  have hlen : p.length ≤ ts.length := by rw [hl]; simp
  obtain ⟨x, hx, hw⟩ := h1 (ts.take p.length) ⟨by simp; omega, fun j r y hr hy => by
    have hj : j < p.length := (List.getElem?_eq_some_iff.1 hr).1
    rw [List.getElem?_take, if_pos hj] at hy
    exact ht j r y (by rw [List.getElem?_append_left hj]; exact hr) hy⟩
  obtain ⟨y, hy, hv⟩ := h2 (ts.drop p.length) ⟨by simp [hl], fun j r z hr hz => by
    rw [List.getElem?_drop] at hz
    exact ht (p.length + j) r z (by rw [List.getElem?_append_right (by omega)]; simpa using hr) hz⟩
  exact ⟨(x, y), by rw [e1, hx, hy], hw, hv⟩
theorem dec_nil : Dec [] (fun _ : Unit => []) (fun _ => True) := by
  intro ts h
  exact ⟨(), List.eq_nil_of_length_eq_zero h.1, trivial⟩

theorem lookup_mem {α : Type} {f : FuncId} {v : α} : ∀ {l : List (FuncId × α)}, l.lookup f = some v → (f, v) ∈ l
  | [], h => by simp at h
  | (g, u) :: l, h => by
    simp only [List.lookup] at h
    split at h
    · rename_i e
      simp at e h
      subst e; subst h
      simp
    · exact List.mem_cons_of_mem _ (lookup_mem h)

/-- the table's functions do as the runs say -/
theorem table_sound {P : Program} {l : List (FuncId × VF)} {tbl : FuncId → Option VF} (ht : ∀ f, tbl f = l.lookup f) (hg : ∀ x ∈ l, x.2.given = false) (hf : ∀ x ∈ l, funcIs P tbl x.1 x.2 = true) (ext : FuncId → List Arg → Option FRes) : ∀ n, FSound P tbl (vrun ext tbl n) :=
  vrun_sound (fun f vf ars res st0 h h2 => by
    rw [ht] at h
    have := hg _ (lookup_mem h)
    simp only at this
    rw [this] at h2
    simp at h2) (fun f vf h _ => by rw [ht] at h; exact hf _ (lookup_mem h))
end Go.Proofs.V

/- printed by a program: the plain functions, the code and the proofs of one law -/
set_option linter.unusedVariables false
set_option maxRecDepth 100000
namespace Go.Proofs.V
open Go
structure S_Tones where
  rate : Int
  quality : Int
  length : Int
  slots : (List (List Int))
  grades : (List (List Int))
  deriving DecidableEq, Inhabited, Repr
structure S_l1Sink where
  high : Bool
  out : (List Int)
  n : Int
  deriving DecidableEq, Inhabited, Repr
structure S_zbits where
  b : (List Int)
  n : Int
  deriving DecidableEq, Inhabited, Repr
noncomputable def m_laws_szIntS_0 (p0 : (List Int)) (p1 : Int) : Option (Int) :=
  if (decide ((w64 (p1 - (p0.length : Int))) < 0)) then
    some (-1)
  else
    some (w64 (p1 - (p0.length : Int)))
noncomputable def m_laws_szIntS (p0 : (List Int)) (p1 : Int) : Option (Int) := m_laws_szIntS_0 p0 p1
noncomputable def m_laws_szIntSS_35 (i35_0 : Int) : Option (Int) :=
  some i35_0
noncomputable def m_laws_szIntSS_17 (p0 : (List (List Int))) (i17_0 : Int) (i17_1 : Int) : Option ((Int × Int) ⊕ ((Int) ⊕ ((Int)))) :=
  if (decide (i17_1 < (p0.length : Int))) then
    (rd p0 i17_1).bind fun x17_1 =>
    (m_laws_szIntS x17_1 i17_0).bind fun x17_2 =>
    if (decide (x17_2 < 0)) then
      some (.inr (.inl (-1)))
    else
      some (.inl (x17_2, (w64 (i17_1 + 1))))
  else
    some (.inr (.inr i17_0))
noncomputable def lp_laws_szIntSS_17 (p0 : (List (List Int))) (s : Int × Int) : Option ((Int × Int) ⊕ ((Int) ⊕ ((Int)))) := m_laws_szIntSS_17 p0 s.1 s.2
noncomputable def m_laws_szIntSS_0 (p0 : (List (List Int))) (p1 : Int) : Option (Int) :=
  if (decide ((w64 (p1 - (p0.length : Int))) < 0)) then
    some (-1)
  else
    (loopM (lp_laws_szIntSS_17 p0) ((w64 (p1 - (p0.length : Int))), 0)).bind fun e => match e with | .inl e => some e | .inr e => m_laws_szIntSS_35 e
noncomputable def m_laws_szIntSS (p0 : (List (List Int))) (p1 : Int) : Option (Int) := m_laws_szIntSS_0 p0 p1
noncomputable def m_laws_szTones_0 (p0 : S_Tones) (p1 : Int) : Option (Int) :=
  (m_laws_szIntSS p0.slots p1).bind fun x0_0 =>
  if (decide (x0_0 < 0)) then
    some (-1)
  else
    (m_laws_szIntSS p0.grades x0_0).bind fun x0_2 =>
    if (decide (x0_2 < 0)) then
      some (-1)
    else
      some x0_2
noncomputable def m_laws_szTones (p0 : S_Tones) (p1 : Int) : Option (Int) := m_laws_szTones_0 p0 p1
noncomputable def m_laws_toIntS_19 (l19_0 : (List Int)) : Option ((List Int)) :=
  some l19_0
noncomputable def m_laws_toIntS_9 (p0 : (List Int)) (i9_0 : Int) (l9_1 : (List Int)) : Option ((Int × (List Int)) ⊕ (((List Int)))) :=
  if (decide (i9_0 < (p0.length : Int))) then
    (rd p0 i9_0).bind fun x9_1 =>
    (rd l9_1 i9_0).bind fun _ =>
    some (.inl ((w64 (i9_0 + 1)), (l9_1.set (0 + Int.toNat i9_0) x9_1)))
  else
    some (.inr l9_1)
noncomputable def lp_laws_toIntS_9 (p0 : (List Int)) (s : Int × (List Int)) : Option ((Int × (List Int)) ⊕ (((List Int)))) := m_laws_toIntS_9 p0 s.1 s.2
noncomputable def m_laws_toIntS_0 (p0 : (List Int)) : Option ((List Int)) :=
  (ck (decide (0 ≤ (p0.length : Int) ∧ (p0.length : Int) ≤ (17592186044416 : Int)))).bind fun _ =>
  (loopM (lp_laws_toIntS_9 p0) (0, (List.replicate (Int.toNat (p0.length : Int)) (0 : Int)))).bind fun e => m_laws_toIntS_19 e
noncomputable def m_laws_toIntS (p0 : (List Int)) : Option ((List Int)) := m_laws_toIntS_0 p0
noncomputable def m_laws_toIntSS_19 (l19_0 : (List (List Int))) : Option ((List (List Int))) :=
  some l19_0
noncomputable def m_laws_toIntSS_9 (p0 : (List (List Int))) (i9_0 : Int) (l9_1 : (List (List Int))) : Option ((Int × (List (List Int))) ⊕ (((List (List Int))))) :=
  if (decide (i9_0 < (p0.length : Int))) then
    (rd p0 i9_0).bind fun x9_1 =>
    (m_laws_toIntS x9_1).bind fun x9_2 =>
    (rd l9_1 i9_0).bind fun _ =>
    some (.inl ((w64 (i9_0 + 1)), (l9_1.set (0 + Int.toNat i9_0) x9_2)))
  else
    some (.inr l9_1)
noncomputable def lp_laws_toIntSS_9 (p0 : (List (List Int))) (s : Int × (List (List Int))) : Option ((Int × (List (List Int))) ⊕ (((List (List Int))))) := m_laws_toIntSS_9 p0 s.1 s.2
noncomputable def m_laws_toIntSS_0 (p0 : (List (List Int))) : Option ((List (List Int))) :=
  (ck (decide (0 ≤ (p0.length : Int) ∧ (p0.length : Int) ≤ (5864062014805 : Int)))).bind fun _ =>
  (loopM (lp_laws_toIntSS_9 p0) (0, (List.replicate (Int.toNat (p0.length : Int)) ([] : (List Int))))).bind fun e => m_laws_toIntSS_19 e
noncomputable def m_laws_toIntSS (p0 : (List (List Int))) : Option ((List (List Int))) := m_laws_toIntSS_0 p0
noncomputable def m_laws_toTones_0 (p0 : S_Tones) : Option (S_Tones) :=
  (m_laws_toIntSS p0.slots).bind fun x0_0 =>
  (m_laws_toIntSS p0.grades).bind fun x0_1 =>
  some (S_Tones.mk p0.rate p0.quality p0.length x0_0 x0_1)
noncomputable def m_laws_toTones (p0 : S_Tones) : Option (S_Tones) := m_laws_toTones_0 p0
noncomputable def m_spec_l11Head_0 (p0 : Int) (p1 : Int) (p2 : Int) : Option (Bool) :=
  if (decide (p0 ≥ 1)) then
    if (decide (p0 ≤ 1000000)) then
      if (decide (p1 ≥ 0)) then
        if (decide (p1 ≤ 15)) then
          if (decide (p2 ≥ 0)) then
            some (decide (p2 ≤ 4000))
          else
            some false
        else
          some false
      else
        some false
    else
      some false
  else
    some false
noncomputable def m_spec_l11Head (p0 : Int) (p1 : Int) (p2 : Int) : Option (Bool) := m_spec_l11Head_0 p0 p1 p2
noncomputable def m_spec_l11Slots_0 (p0 : Int) : Option (Int) :=
  some (w64 ((w64 (Int.tdiv (w64 (p0 + 15)) 16)) + 1))
noncomputable def m_spec_l11Slots (p0 : Int) : Option (Int) := m_spec_l11Slots_0 p0
noncomputable def m_spec_l11All_25 (p0 : (List Int)) (p1 : Int) : Option (Bool) :=
  some ((p0.length : Int) == p1)
noncomputable def m_spec_l11All_7 (p0 : (List Int)) (p1 : Int) (p2 : Int) (p3 : Int) (i7_0 : Int) : Option ((Int) ⊕ ((Bool) ⊕ ((Unit)))) :=
  if (decide (i7_0 < (p0.length : Int))) then
    (rd p0 i7_0).bind fun x7_1 =>
    if (decide (x7_1 < p2)) then
      some (.inr (.inl false))
    else
      if (decide (x7_1 > p3)) then
        some (.inr (.inl false))
      else
        some (.inl (w64 (i7_0 + 1)))
  else
    some (.inr (.inr ()))
noncomputable def lp_spec_l11All_7 (p0 : (List Int)) (p1 : Int) (p2 : Int) (p3 : Int) (s : Int) : Option ((Int) ⊕ ((Bool) ⊕ ((Unit)))) := m_spec_l11All_7 p0 p1 p2 p3 s
noncomputable def m_spec_l11All_0 (p0 : (List Int)) (p1 : Int) (p2 : Int) (p3 : Int) : Option (Bool) :=
  (loopM (lp_spec_l11All_7 p0 p1 p2 p3) 0).bind fun e => match e with | .inl e => some e | .inr e => m_spec_l11All_25 p0 p1
noncomputable def m_spec_l11All (p0 : (List Int)) (p1 : Int) (p2 : Int) (p3 : Int) : Option (Bool) := m_spec_l11All_0 p0 p1 p2 p3
noncomputable def m_spec_GoodTones_33 : Option (Bool) :=
  some true
noncomputable def m_spec_GoodTones_15 (p0 : S_Tones) (i15_0 : Int) : Option ((Int) ⊕ ((Bool) ⊕ ((Unit)))) :=
  if (decide (i15_0 < (p0.slots.length : Int))) then
    (rd p0.slots i15_0).bind fun x15_1 =>
    (m_spec_l11All x15_1 16 (-1048576) 1048575).bind fun x15_2 =>
    if x15_2 then
      (rd p0.grades i15_0).bind fun x15_4 =>
      (m_spec_l11All x15_4 8 0 12).bind fun x15_5 =>
      if x15_5 then
        some (.inl (w64 (i15_0 + 1)))
      else
        some (.inr (.inl false))
    else
      some (.inr (.inl false))
  else
    some (.inr (.inr ()))
noncomputable def lp_spec_GoodTones_15 (p0 : S_Tones) (s : Int) : Option ((Int) ⊕ ((Bool) ⊕ ((Unit)))) := m_spec_GoodTones_15 p0 s
noncomputable def m_spec_GoodTones_0 (p0 : S_Tones) : Option (Bool) :=
  (m_spec_l11Head p0.rate p0.quality p0.length).bind fun x0_0 =>
  if x0_0 then
    (m_spec_l11Slots p0.length).bind fun x0_2 =>
    if ((p0.slots.length : Int) != x0_2) then
      some false
    else
      if ((p0.grades.length : Int) != (p0.slots.length : Int)) then
        some false
      else
        (loopM (lp_spec_GoodTones_15 p0) 0).bind fun e => match e with | .inl e => some e | .inr e => m_spec_GoodTones_33
  else
    some false
noncomputable def m_spec_GoodTones (p0 : S_Tones) : Option (Bool) := m_spec_GoodTones_0 p0
noncomputable def m_spec_l1Sink_bit_18 (p0 : S_l1Sink) (l6_0 : (List Int)) (i18_0 : Int) : Option (S_l1Sink) :=
  (rd l6_0 (w64 (Int.tdiv p0.n 8))).bind fun x18_0 =>
  (ck (decide (0 ≤ i18_0))).bind fun _ =>
  some (S_l1Sink.mk p0.high (l6_0.set (0 + Int.toNat (w64 (Int.tdiv p0.n 8))) (orI .u8 x18_0 (shlI .u8 1 i18_0))) (w64 (p0.n + 1)))
noncomputable def m_spec_l1Sink_bit_6 (p1 : Int) (p0 : S_l1Sink) (l6_0 : (List Int)) : Option (S_l1Sink) :=
  if (p1 == 1) then
    if p0.high then
      m_spec_l1Sink_bit_18 p0 l6_0 (wr .u64 (7 - (wr .u64 (Int.tmod p0.n 8))))
    else
      m_spec_l1Sink_bit_18 p0 l6_0 (wr .u64 (Int.tmod p0.n 8))
  else
    some (S_l1Sink.mk p0.high l6_0 (w64 (p0.n + 1)))
noncomputable def m_spec_l1Sink_bit_0 (p1 : Int) (p0 : S_l1Sink) : Option (S_l1Sink) :=
  if ((Int.tmod p0.n 8) == 0) then
    (ck (decide (p0.out.length + ([0] : List Int).length ≤ 140737488355328))).bind fun _ =>
    m_spec_l1Sink_bit_6 p1 p0 (p0.out ++ ([0] : List Int))
  else
    m_spec_l1Sink_bit_6 p1 p0 p0.out
noncomputable def m_spec_l1Sink_bit (p0 : S_l1Sink) (p1 : Int) : Option (S_l1Sink) := m_spec_l1Sink_bit_0 p1 p0
noncomputable def m_spec_l1Sink_put_20 (p1 : Int) (p2 : Int) (i4_0 : Int) (b4_1 : Bool) (i4_2 : Int) (l4_3 : (List Int)) (i20_0 : Int) : Option ((Int × Bool × Int × (List Int)) ⊕ (S_l1Sink)) :=
  (ck (decide (0 ≤ i20_0))).bind fun _ =>
  (m_spec_l1Sink_bit (S_l1Sink.mk b4_1 l4_3 i4_2) (andI .u64 (shrI .u64 p2 i20_0) 1)).bind fun x20_1 =>
  some (.inl ((w64 (i4_0 + 1)), x20_1.high, x20_1.n, x20_1.out))
noncomputable def m_spec_l1Sink_put_4 (p1 : Int) (p2 : Int) (i4_0 : Int) (b4_1 : Bool) (i4_2 : Int) (l4_3 : (List Int)) : Option ((Int × Bool × Int × (List Int)) ⊕ (S_l1Sink)) :=
  if (decide (i4_0 < p1)) then
    if b4_1 then
      m_spec_l1Sink_put_20 p1 p2 i4_0 b4_1 i4_2 l4_3 (wr .u64 (w64 ((w64 (p1 - 1)) - i4_0)))
    else
      m_spec_l1Sink_put_20 p1 p2 i4_0 b4_1 i4_2 l4_3 (wr .u64 i4_0)
  else
    some (.inr (S_l1Sink.mk b4_1 l4_3 i4_2))
noncomputable def lp_spec_l1Sink_put_4 (p1 : Int) (p2 : Int) (s : Int × Bool × Int × (List Int)) : Option ((Int × Bool × Int × (List Int)) ⊕ (S_l1Sink)) := m_spec_l1Sink_put_4 p1 p2 s.1 s.2.1 s.2.2.1 s.2.2.2
noncomputable def m_spec_l1Sink_put_0 (p1 : Int) (p2 : Int) (p0 : S_l1Sink) : Option (S_l1Sink) :=
  (loopM (lp_spec_l1Sink_put_4 p1 p2) (0, p0.high, p0.n, p0.out)).bind fun e => some e
noncomputable def m_spec_l1Sink_put (p0 : S_l1Sink) (p1 : Int) (p2 : Int) : Option (S_l1Sink) := m_spec_l1Sink_put_0 p1 p2 p0
noncomputable def m_spec_Fold_0 (p0 : Int) : Option (Int) :=
  if (decide (p0 < 0)) then
    some (wr .u64 ((wr .u64 (2 * (wr .u64 (w64 (0 - (w64 (p0 + 1))))))) + 1))
  else
    some (wr .u64 (2 * (wr .u64 p0)))
noncomputable def m_spec_Fold (p0 : Int) : Option (Int) := m_spec_Fold_0 p0
noncomputable def m_spec_l11KeyCost_21 (i21_0 : Int) : Option (Int) :=
  some i21_0
noncomputable def m_spec_l11KeyCost_9 (p0 : Int) (p1 : (List Int)) (i9_0 : Int) (i9_1 : Int) : Option ((Int × Int) ⊕ ((Int))) :=
  if (decide (i9_1 < (p1.length : Int))) then
    (rd p1 i9_1).bind fun x9_1 =>
    (m_spec_Fold x9_1).bind fun x9_2 =>
    (ck (decide (0 ≤ (wr .u64 p0)))).bind fun _ =>
    some (.inl ((w64 (i9_0 + (w64 ((w64 ((w64 (shrI .u64 x9_2 (wr .u64 p0))) + 1)) + p0)))), (w64 (i9_1 + 1))))
  else
    some (.inr i9_0)
noncomputable def lp_spec_l11KeyCost_9 (p0 : Int) (p1 : (List Int)) (s : Int × Int) : Option ((Int × Int) ⊕ ((Int))) := m_spec_l11KeyCost_9 p0 p1 s.1 s.2
noncomputable def m_spec_l11KeyCost_0 (p0 : Int) (p1 : (List Int)) : Option (Int) :=
  (loopM (lp_spec_l11KeyCost_9 p0 p1) (0, 0)).bind fun e => m_spec_l11KeyCost_21 e
noncomputable def m_spec_l11KeyCost (p0 : Int) (p1 : (List Int)) : Option (Int) := m_spec_l11KeyCost_0 p0 p1
noncomputable def m_spec_l1Sink_rice_25 (p1 : Int) (x0_1 : Int) (b25_0 : Bool) (i25_1 : Int) (l25_2 : (List Int)) : Option (S_l1Sink) :=
  (m_spec_l1Sink_bit (S_l1Sink.mk b25_0 l25_2 i25_1) 1).bind fun x25_0 =>
  (m_spec_l1Sink_put x25_0 p1 x0_1).bind fun x25_1 =>
  some x25_1
noncomputable def m_spec_l1Sink_rice_15 (p1 : Int) (x0_1 : Int) (i15_0 : Int) (b15_1 : Bool) (i15_2 : Int) (l15_3 : (List Int)) : Option ((Int × Bool × Int × (List Int)) ⊕ ((Bool × Int × (List Int)))) :=
  if (decide (i15_0 > 0)) then
    (m_spec_l1Sink_bit (S_l1Sink.mk b15_1 l15_3 i15_2) 0).bind fun x15_1 =>
    some (.inl ((wr .u64 (i15_0 - 1)), x15_1.high, x15_1.n, x15_1.out))
  else
    some (.inr (b15_1, i15_2, l15_3))
noncomputable def lp_spec_l1Sink_rice_15 (p1 : Int) (x0_1 : Int) (s : Int × Bool × Int × (List Int)) : Option ((Int × Bool × Int × (List Int)) ⊕ ((Bool × Int × (List Int)))) := m_spec_l1Sink_rice_15 p1 x0_1 s.1 s.2.1 s.2.2.1 s.2.2.2
noncomputable def m_spec_l1Sink_rice_0 (p1 : Int) (p2 : Int) (p0 : S_l1Sink) : Option (S_l1Sink) :=
  if (p1 == 25) then
    (m_spec_l1Sink_put p0 32 (wr .u64 p2)).bind fun x0_1 =>
    some x0_1
  else
    (m_spec_Fold p2).bind fun x0_1 =>
    (ck (decide (0 ≤ (wr .u64 p1)))).bind fun _ =>
    (loopM (lp_spec_l1Sink_rice_15 p1 x0_1) ((shrI .u64 x0_1 (wr .u64 p1)), p0.high, p0.n, p0.out)).bind fun e => m_spec_l1Sink_rice_25 p1 x0_1 e.1 e.2.1 e.2.2
noncomputable def m_spec_l1Sink_rice (p0 : S_l1Sink) (p1 : Int) (p2 : Int) : Option (S_l1Sink) := m_spec_l1Sink_rice_0 p1 p2 p0
noncomputable def m_spec_EncodeTones_91 (p0 : S_Tones) (i25_0 : Int) (b91_0 : Bool) (i91_1 : Int) (l91_2 : (List Int)) : Option ((Int × Bool × Int × (List Int)) ⊕ ((Bool × Int × (List Int)))) :=
  some (.inl ((w64 (i25_0 + 1)), b91_0, i91_1, l91_2))
noncomputable def m_spec_EncodeTones_79 (i73_0 : Int) (p0 : S_Tones) (i25_0 : Int) (x73_1 : (List Int)) (i79_0 : Int) (b79_1 : Bool) (i79_2 : Int) (l79_3 : (List Int)) : Option ((Int × Bool × Int × (List Int)) ⊕ ((Bool × Int × (List Int)))) :=
  if (decide (i79_0 < (x73_1.length : Int))) then
    (rd x73_1 i79_0).bind fun x79_1 =>
    (m_spec_l1Sink_rice (S_l1Sink.mk b79_1 l79_3 i79_2) i73_0 x79_1).bind fun x79_2 =>
    some (.inl ((w64 (i79_0 + 1)), x79_2.high, x79_2.n, x79_2.out))
  else
    some (.inr (b79_1, i79_2, l79_3))
noncomputable def lp_spec_EncodeTones_79 (i73_0 : Int) (p0 : S_Tones) (i25_0 : Int) (x73_1 : (List Int)) (s : Int × Bool × Int × (List Int)) : Option ((Int × Bool × Int × (List Int)) ⊕ ((Bool × Int × (List Int)))) := m_spec_EncodeTones_79 i73_0 p0 i25_0 x73_1 s.1 s.2.1 s.2.2.1 s.2.2.2
noncomputable def m_spec_EncodeTones_73 (i25_0 : Int) (p0 : S_Tones) (b52_0 : Bool) (i52_1 : Int) (l52_2 : (List Int)) (i73_0 : Int) : Option ((Int × Bool × Int × (List Int)) ⊕ ((Bool × Int × (List Int)))) :=
  (m_spec_l1Sink_put (S_l1Sink.mk b52_0 l52_2 i52_1) 5 (wr .u64 i73_0)).bind fun x73_0 =>
  (rd p0.slots i25_0).bind fun x73_1 =>
  (loopM (lp_spec_EncodeTones_79 i73_0 p0 i25_0 x73_1) (0, x73_0.high, x73_0.n, x73_0.out)).bind fun e => m_spec_EncodeTones_91 p0 i25_0 e.1 e.2.1 e.2.2
noncomputable def m_spec_EncodeTones_59 (i25_0 : Int) (p0 : S_Tones) (b52_0 : Bool) (i52_1 : Int) (l52_2 : (List Int)) (i59_0 : Int) (i59_1 : Int) : Option ((Int × Int) ⊕ ((Int))) :=
  if (decide (i59_1 ≤ 16)) then
    (rd p0.slots i25_0).bind fun x59_1 =>
    (m_spec_l11KeyCost i59_1 x59_1).bind fun x59_2 =>
    (m_spec_l11KeyCost i59_0 x59_1).bind fun x59_3 =>
    if (decide (x59_2 < x59_3)) then
      some (.inl (i59_1, (w64 (i59_1 + 1))))
    else
      some (.inl (i59_0, (w64 (i59_1 + 1))))
  else
    some (.inr i59_0)
noncomputable def lp_spec_EncodeTones_59 (i25_0 : Int) (p0 : S_Tones) (b52_0 : Bool) (i52_1 : Int) (l52_2 : (List Int)) (s : Int × Int) : Option ((Int × Int) ⊕ ((Int))) := m_spec_EncodeTones_59 i25_0 p0 b52_0 i52_1 l52_2 s.1 s.2
noncomputable def m_spec_EncodeTones_52 (i25_0 : Int) (p0 : S_Tones) (b52_0 : Bool) (i52_1 : Int) (l52_2 : (List Int)) : Option ((Int × Bool × Int × (List Int)) ⊕ ((Bool × Int × (List Int)))) :=
  (loopM (lp_spec_EncodeTones_59 i25_0 p0 b52_0 i52_1 l52_2) (0, 1)).bind fun e => m_spec_EncodeTones_73 i25_0 p0 b52_0 i52_1 l52_2 e
noncomputable def m_spec_EncodeTones_40 (i25_0 : Int) (p0 : S_Tones) (x25_1 : (List Int)) (i40_0 : Int) (b40_1 : Bool) (i40_2 : Int) (l40_3 : (List Int)) : Option ((Int × Bool × Int × (List Int)) ⊕ ((Bool × Int × (List Int)))) :=
  if (decide (i40_0 < (x25_1.length : Int))) then
    (rd x25_1 i40_0).bind fun x40_1 =>
    (m_spec_l1Sink_put (S_l1Sink.mk b40_1 l40_3 i40_2) 4 (wr .u64 x40_1)).bind fun x40_2 =>
    some (.inl ((w64 (i40_0 + 1)), x40_2.high, x40_2.n, x40_2.out))
  else
    some (.inr (b40_1, i40_2, l40_3))
noncomputable def lp_spec_EncodeTones_40 (i25_0 : Int) (p0 : S_Tones) (x25_1 : (List Int)) (s : Int × Bool × Int × (List Int)) : Option ((Int × Bool × Int × (List Int)) ⊕ ((Bool × Int × (List Int)))) := m_spec_EncodeTones_40 i25_0 p0 x25_1 s.1 s.2.1 s.2.2.1 s.2.2.2
noncomputable def m_spec_EncodeTones_92 (b92_0 : Bool) (i92_1 : Int) (l92_2 : (List Int)) : Option ((List Int)) :=
  (ck (decide (([84, 79, 78, 49] : List Int).length + l92_2.length ≤ 140737488355328))).bind fun _ =>
  if (decide (((([84, 79, 78, 49] : List Int) ++ l92_2).length : Int) > 60000)) then
    some ([] : List Int)
  else
    some (([84, 79, 78, 49] : List Int) ++ l92_2)
noncomputable def m_spec_EncodeTones_25 (p0 : S_Tones) (i25_0 : Int) (b25_1 : Bool) (i25_2 : Int) (l25_3 : (List Int)) : Option ((Int × Bool × Int × (List Int)) ⊕ ((Bool × Int × (List Int)))) :=
  if (decide (i25_0 < (p0.slots.length : Int))) then
    (rd p0.grades i25_0).bind fun x25_1 =>
    (loopM (lp_spec_EncodeTones_40 i25_0 p0 x25_1) (0, b25_1, i25_2, l25_3)).bind fun e => m_spec_EncodeTones_52 i25_0 p0 e.1 e.2.1 e.2.2
  else
    some (.inr (b25_1, i25_2, l25_3))
noncomputable def lp_spec_EncodeTones_25 (p0 : S_Tones) (s : Int × Bool × Int × (List Int)) : Option ((Int × Bool × Int × (List Int)) ⊕ ((Bool × Int × (List Int)))) := m_spec_EncodeTones_25 p0 s.1 s.2.1 s.2.2.1 s.2.2.2
noncomputable def m_spec_EncodeTones_0 (p0 : S_Tones) : Option ((List Int)) :=
  (m_spec_GoodTones p0).bind fun x0_0 =>
  if x0_0 then
    (m_spec_l1Sink_put (S_l1Sink.mk true ([] : List Int) 0) 20 (wr .u64 p0.rate)).bind fun x0_2 =>
    (m_spec_l1Sink_put x0_2 4 (wr .u64 p0.quality)).bind fun x0_3 =>
    (m_spec_l1Sink_put x0_3 12 (wr .u64 p0.length)).bind fun x0_4 =>
    (m_spec_l1Sink_put x0_4 4 0).bind fun x0_5 =>
    (loopM (lp_spec_EncodeTones_25 p0) (0, x0_5.high, x0_5.n, x0_5.out)).bind fun e => m_spec_EncodeTones_92 e.1 e.2.1 e.2.2
  else
    some ([] : List Int)
noncomputable def m_spec_EncodeTones (p0 : S_Tones) : Option ((List Int)) := m_spec_EncodeTones_0 p0
noncomputable def m_impl_zrange_33 : Option (Bool) :=
  some true
noncomputable def m_impl_zrange_15 (p1 : Int) (p2 : Int) (p0 : (List Int)) (i15_0 : Int) : Option ((Int) ⊕ ((Bool) ⊕ ((Unit)))) :=
  if (decide (i15_0 < (p0.length : Int))) then
    (rd p0 i15_0).bind fun x15_1 =>
    if (decide (x15_1 < p1)) then
      some (.inr (.inl false))
    else
      if (decide (x15_1 > p2)) then
        some (.inr (.inl false))
      else
        some (.inl (w64 (i15_0 + 1)))
  else
    some (.inr (.inr ()))
noncomputable def lp_impl_zrange_15 (p1 : Int) (p2 : Int) (p0 : (List Int)) (s : Int) : Option ((Int) ⊕ ((Bool) ⊕ ((Unit)))) := m_impl_zrange_15 p1 p2 p0 s
noncomputable def m_impl_zrange_0 (p0 : (List Int)) (p1 : Int) (p2 : Int) (p3 : Int) : Option (Bool) :=
  if (decide ((p0.length : Int) > p3)) then
    some false
  else
    (loopM (lp_impl_zrange_15 p1 p2 p0) 0).bind fun e => match e with | .inl e => some e | .inr e => m_impl_zrange_33
noncomputable def m_impl_zrange (p0 : (List Int)) (p1 : Int) (p2 : Int) (p3 : Int) : Option (Bool) := m_impl_zrange_0 p0 p1 p2 p3
noncomputable def m_impl_GoodTones_35 : Option (Bool) :=
  some true
noncomputable def m_impl_GoodTones_17 (p0 : S_Tones) (i17_0 : Int) : Option ((Int) ⊕ ((Bool) ⊕ ((Unit)))) :=
  if (decide (i17_0 < (p0.slots.length : Int))) then
    (rd p0.slots i17_0).bind fun x17_1 =>
    if ((x17_1.length : Int) != 16) then
      some (.inr (.inl false))
    else
      (m_impl_zrange x17_1 (-1048576) 1048575 16).bind fun x17_3 =>
      if x17_3 then
        (rd p0.grades i17_0).bind fun x17_5 =>
        if ((x17_5.length : Int) != 8) then
          some (.inr (.inl false))
        else
          (m_impl_zrange x17_5 0 12 8).bind fun x17_7 =>
          if x17_7 then
            some (.inl (w64 (i17_0 + 1)))
          else
            some (.inr (.inl false))
      else
        some (.inr (.inl false))
  else
    some (.inr (.inr ()))
noncomputable def lp_impl_GoodTones_17 (p0 : S_Tones) (s : Int) : Option ((Int) ⊕ ((Bool) ⊕ ((Unit)))) := m_impl_GoodTones_17 p0 s
noncomputable def m_impl_GoodTones_0 (p0 : S_Tones) : Option (Bool) :=
  if (decide (p0.rate < 1)) then
    some false
  else
    if (decide (p0.rate > 1000000)) then
      some false
    else
      if (decide (p0.quality < 0)) then
        some false
      else
        if (decide (p0.quality > 15)) then
          some false
        else
          if (decide (p0.length < 0)) then
            some false
          else
            if (decide (p0.length > 4000)) then
              some false
            else
              if ((p0.slots.length : Int) != (w64 ((w64 (Int.tdiv (w64 (p0.length + 15)) 16)) + 1))) then
                some false
              else
                if ((p0.grades.length : Int) != (w64 ((w64 (Int.tdiv (w64 (p0.length + 15)) 16)) + 1))) then
                  some false
                else
                  (loopM (lp_impl_GoodTones_17 p0) 0).bind fun e => match e with | .inl e => some e | .inr e => m_impl_GoodTones_35
noncomputable def m_impl_GoodTones (p0 : S_Tones) : Option (Bool) := m_impl_GoodTones_0 p0
noncomputable def m_impl_zbits_bit_6 (p1 : Int) (p0 : S_zbits) (l6_0 : (List Int)) : Option (S_zbits) :=
  (rd l6_0 (w64 (Int.tdiv p0.n 8))).bind fun x6_0 =>
  (ck (decide (0 ≤ (w64 (7 - (Int.tmod p0.n 8)))))).bind fun _ =>
  some (S_zbits.mk (l6_0.set (0 + Int.toNat (w64 (Int.tdiv p0.n 8))) (orI .u8 x6_0 (shlI .u8 (wr .u8 p1) (w64 (7 - (Int.tmod p0.n 8)))))) (w64 (p0.n + 1)))
noncomputable def m_impl_zbits_bit_0 (p1 : Int) (p0 : S_zbits) : Option (S_zbits) :=
  if ((Int.tmod p0.n 8) == 0) then
    (ck (decide (p0.b.length + ([0] : List Int).length ≤ 140737488355328))).bind fun _ =>
    m_impl_zbits_bit_6 p1 p0 (p0.b ++ ([0] : List Int))
  else
    m_impl_zbits_bit_6 p1 p0 p0.b
noncomputable def m_impl_zbits_bit (p0 : S_zbits) (p1 : Int) : Option (S_zbits) := m_impl_zbits_bit_0 p1 p0
noncomputable def m_impl_zbits_put_4 (p2 : Int) (i4_0 : Int) (i4_1 : Int) (l4_2 : (List Int)) : Option ((Int × Int × (List Int)) ⊕ (S_zbits)) :=
  if (decide (i4_0 ≥ 0)) then
    (ck (decide (0 ≤ i4_0))).bind fun _ =>
    (m_impl_zbits_bit (S_zbits.mk l4_2 i4_1) (w64 (andI .u64 (shrI .u64 p2 i4_0) 1))).bind fun x4_2 =>
    some (.inl ((w64 (i4_0 - 1)), x4_2.n, x4_2.b))
  else
    some (.inr (S_zbits.mk l4_2 i4_1))
noncomputable def lp_impl_zbits_put_4 (p2 : Int) (s : Int × Int × (List Int)) : Option ((Int × Int × (List Int)) ⊕ (S_zbits)) := m_impl_zbits_put_4 p2 s.1 s.2.1 s.2.2
noncomputable def m_impl_zbits_put_0 (p1 : Int) (p2 : Int) (p0 : S_zbits) : Option (S_zbits) :=
  (loopM (lp_impl_zbits_put_4 p2) ((w64 (p1 - 1)), p0.n, p0.b)).bind fun e => some e
noncomputable def m_impl_zbits_put (p0 : S_zbits) (p1 : Int) (p2 : Int) : Option (S_zbits) := m_impl_zbits_put_0 p1 p2 p0
noncomputable def m_impl_Fold_0 (p0 : Int) : Option (Int) :=
  some (xorI .u64 (shlI .u64 (wr .u64 p0) 1) (wr .u64 (shrI .i64 p0 63)))
noncomputable def m_impl_Fold (p0 : Int) : Option (Int) := m_impl_Fold_0 p0
noncomputable def m_impl_zkeyCost_29 (i29_0 : Int) : Option (Int) :=
  some i29_0
noncomputable def m_impl_zkeyCost_17 (p0 : Int) (p1 : (List Int)) (i17_0 : Int) (i17_1 : Int) : Option ((Int × Int) ⊕ ((Int))) :=
  if (decide (i17_1 < (p1.length : Int))) then
    (rd p1 i17_1).bind fun x17_1 =>
    (m_impl_Fold x17_1).bind fun x17_2 =>
    (ck (decide (0 ≤ p0))).bind fun _ =>
    some (.inl ((w64 (i17_0 + (w64 ((w64 ((w64 (shrI .u64 x17_2 p0)) + 1)) + p0)))), (w64 (i17_1 + 1))))
  else
    some (.inr i17_0)
noncomputable def lp_impl_zkeyCost_17 (p0 : Int) (p1 : (List Int)) (s : Int × Int) : Option ((Int × Int) ⊕ ((Int))) := m_impl_zkeyCost_17 p0 p1 s.1 s.2
noncomputable def m_impl_zkeyCost_0 (p0 : Int) (p1 : (List Int)) : Option (Int) :=
  if (p0 == 25) then
    some (w64 (5 + (w64 (32 * (p1.length : Int)))))
  else
    (loopM (lp_impl_zkeyCost_17 p0 p1) (5, 0)).bind fun e => m_impl_zkeyCost_29 e
noncomputable def m_impl_zkeyCost (p0 : Int) (p1 : (List Int)) : Option (Int) := m_impl_zkeyCost_0 p0 p1
noncomputable def m_impl_zbits_rice_17 (p2 : Int) (x0_0 : Int) (i17_0 : Int) (l17_1 : (List Int)) : Option (S_zbits) :=
  (m_impl_zbits_bit (S_zbits.mk l17_1 i17_0) 1).bind fun x17_0 =>
  (m_impl_zbits_put x17_0 p2 x0_0).bind fun x17_1 =>
  some x17_1
noncomputable def m_impl_zbits_rice_7 (p2 : Int) (x0_0 : Int) (i7_0 : Int) (i7_1 : Int) (i7_2 : Int) (l7_3 : (List Int)) : Option ((Int × Int × Int × (List Int)) ⊕ ((Int × (List Int)))) :=
  if (decide (i7_1 < i7_0)) then
    (m_impl_zbits_bit (S_zbits.mk l7_3 i7_2) 0).bind fun x7_1 =>
    some (.inl (i7_0, (wr .u64 (i7_1 + 1)), x7_1.n, x7_1.b))
  else
    some (.inr (i7_2, l7_3))
noncomputable def lp_impl_zbits_rice_7 (p2 : Int) (x0_0 : Int) (s : Int × Int × Int × (List Int)) : Option ((Int × Int × Int × (List Int)) ⊕ ((Int × (List Int)))) := m_impl_zbits_rice_7 p2 x0_0 s.1 s.2.1 s.2.2.1 s.2.2.2
noncomputable def m_impl_zbits_rice_0 (p1 : Int) (p2 : Int) (p0 : S_zbits) : Option (S_zbits) :=
  (m_impl_Fold p1).bind fun x0_0 =>
  (ck (decide (0 ≤ p2))).bind fun _ =>
  (loopM (lp_impl_zbits_rice_7 p2 x0_0) ((shrI .u64 x0_0 p2), 0, p0.n, p0.b)).bind fun e => m_impl_zbits_rice_17 p2 x0_0 e.1 e.2
noncomputable def m_impl_zbits_rice (p0 : S_zbits) (p1 : Int) (p2 : Int) : Option (S_zbits) := m_impl_zbits_rice_0 p1 p2 p0
noncomputable def m_impl_EncodeTones_88 (x42_1 : (List Int)) (i76_0 : Int) (i76_1 : Int) (i76_2 : Int) (x76_1 : Int) (p0 : S_Tones) (i42_0 : Int) (i69_0 : Int) (l69_1 : (List Int)) (b88_0 : Bool) : Option ((Int × Int × Int) ⊕ ((Int))) :=
  if b88_0 then
    some (.inl (i76_2, x76_1, (w64 (i76_2 + 1))))
  else
    some (.inl (i76_0, i76_1, (w64 (i76_2 + 1))))
noncomputable def m_impl_EncodeTones_110 (p0 : S_Tones) (i42_0 : Int) (i110_0 : Int) (l110_1 : (List Int)) : Option ((Int × Int × (List Int)) ⊕ ((Int × (List Int)))) :=
  some (.inl ((w64 (i42_0 + 1)), i110_0, l110_1))
noncomputable def m_impl_EncodeTones_98 (i92_0 : Int) (p0 : S_Tones) (i42_0 : Int) (x42_1 : (List Int)) (i98_0 : Int) (i98_1 : Int) (l98_2 : (List Int)) : Option ((Int × Int × (List Int)) ⊕ ((Int × (List Int)))) :=
  if (decide (i98_0 < (x42_1.length : Int))) then
    (rd x42_1 i98_0).bind fun x98_1 =>
    (m_impl_zbits_rice (S_zbits.mk l98_2 i98_1) x98_1 i92_0).bind fun x98_2 =>
    some (.inl ((w64 (i98_0 + 1)), x98_2.n, x98_2.b))
  else
    some (.inr (i98_1, l98_2))
noncomputable def lp_impl_EncodeTones_98 (i92_0 : Int) (p0 : S_Tones) (i42_0 : Int) (x42_1 : (List Int)) (s : Int × Int × (List Int)) : Option ((Int × Int × (List Int)) ⊕ ((Int × (List Int)))) := m_impl_EncodeTones_98 i92_0 p0 i42_0 x42_1 s.1 s.2.1 s.2.2
noncomputable def m_impl_EncodeTones_92 (x42_1 : (List Int)) (p0 : S_Tones) (i42_0 : Int) (i69_0 : Int) (l69_1 : (List Int)) (i92_0 : Int) : Option ((Int × Int × (List Int)) ⊕ ((Int × (List Int)))) :=
  (m_impl_zbits_put (S_zbits.mk l69_1 i69_0) 5 (wr .u64 i92_0)).bind fun x92_0 =>
  (loopM (lp_impl_EncodeTones_98 i92_0 p0 i42_0 x42_1) (0, x92_0.n, x92_0.b)).bind fun e => m_impl_EncodeTones_110 p0 i42_0 e.1 e.2
noncomputable def m_impl_EncodeTones_76 (x42_1 : (List Int)) (p0 : S_Tones) (i42_0 : Int) (i69_0 : Int) (l69_1 : (List Int)) (i76_0 : Int) (i76_1 : Int) (i76_2 : Int) : Option ((Int × Int × Int) ⊕ ((Int))) :=
  if (decide (i76_2 ≤ 16)) then
    (m_impl_zkeyCost i76_2 x42_1).bind fun x76_1 =>
    if (decide (i76_1 < 0)) then
      m_impl_EncodeTones_88 x42_1 i76_0 i76_1 i76_2 x76_1 p0 i42_0 i69_0 l69_1 true
    else
      m_impl_EncodeTones_88 x42_1 i76_0 i76_1 i76_2 x76_1 p0 i42_0 i69_0 l69_1 (decide (x76_1 < i76_1))
  else
    some (.inr i76_0)
noncomputable def lp_impl_EncodeTones_76 (x42_1 : (List Int)) (p0 : S_Tones) (i42_0 : Int) (i69_0 : Int) (l69_1 : (List Int)) (s : Int × Int × Int) : Option ((Int × Int × Int) ⊕ ((Int))) := m_impl_EncodeTones_76 x42_1 p0 i42_0 i69_0 l69_1 s.1 s.2.1 s.2.2
noncomputable def m_impl_EncodeTones_69 (x42_1 : (List Int)) (p0 : S_Tones) (i42_0 : Int) (i69_0 : Int) (l69_1 : (List Int)) : Option ((Int × Int × (List Int)) ⊕ ((Int × (List Int)))) :=
  (loopM (lp_impl_EncodeTones_76 x42_1 p0 i42_0 i69_0 l69_1) (0, (-1), 0)).bind fun e => m_impl_EncodeTones_92 x42_1 p0 i42_0 i69_0 l69_1 e
noncomputable def m_impl_EncodeTones_57 (x42_1 : (List Int)) (p0 : S_Tones) (i42_0 : Int) (x42_2 : (List Int)) (i57_0 : Int) (i57_1 : Int) (l57_2 : (List Int)) : Option ((Int × Int × (List Int)) ⊕ ((Int × (List Int)))) :=
  if (decide (i57_0 < (x42_2.length : Int))) then
    (rd x42_2 i57_0).bind fun x57_1 =>
    (m_impl_zbits_put (S_zbits.mk l57_2 i57_1) 4 (wr .u64 x57_1)).bind fun x57_2 =>
    some (.inl ((w64 (i57_0 + 1)), x57_2.n, x57_2.b))
  else
    some (.inr (i57_1, l57_2))
noncomputable def lp_impl_EncodeTones_57 (x42_1 : (List Int)) (p0 : S_Tones) (i42_0 : Int) (x42_2 : (List Int)) (s : Int × Int × (List Int)) : Option ((Int × Int × (List Int)) ⊕ ((Int × (List Int)))) := m_impl_EncodeTones_57 x42_1 p0 i42_0 x42_2 s.1 s.2.1 s.2.2
noncomputable def m_impl_EncodeTones_111 (i111_0 : Int) (l111_1 : (List Int)) : Option ((List Int)) :=
  if (decide ((l111_1.length : Int) > 60000)) then
    some ([] : List Int)
  else
    some l111_1
noncomputable def m_impl_EncodeTones_42 (p0 : S_Tones) (i42_0 : Int) (i42_1 : Int) (l42_2 : (List Int)) : Option ((Int × Int × (List Int)) ⊕ ((Int × (List Int)))) :=
  if (decide (i42_0 < (p0.slots.length : Int))) then
    (rd p0.slots i42_0).bind fun x42_1 =>
    (rd p0.grades i42_0).bind fun x42_2 =>
    (loopM (lp_impl_EncodeTones_57 x42_1 p0 i42_0 x42_2) (0, i42_1, l42_2)).bind fun e => m_impl_EncodeTones_69 x42_1 p0 i42_0 e.1 e.2
  else
    some (.inr (i42_1, l42_2))
noncomputable def lp_impl_EncodeTones_42 (p0 : S_Tones) (s : Int × Int × (List Int)) : Option ((Int × Int × (List Int)) ⊕ ((Int × (List Int)))) := m_impl_EncodeTones_42 p0 s.1 s.2.1 s.2.2
noncomputable def m_impl_EncodeTones_29 (p0 : S_Tones) (i29_0 : Int) (l29_1 : (List Int)) : Option ((List Int)) :=
  (m_impl_zbits_put (S_zbits.mk l29_1 i29_0) 20 (wr .u64 p0.rate)).bind fun x29_0 =>
  (m_impl_zbits_put x29_0 4 (wr .u64 p0.quality)).bind fun x29_1 =>
  (m_impl_zbits_put x29_1 12 (wr .u64 p0.length)).bind fun x29_2 =>
  (m_impl_zbits_put x29_2 4 0).bind fun x29_3 =>
  (loopM (lp_impl_EncodeTones_42 p0) (0, x29_3.n, x29_3.b)).bind fun e => m_impl_EncodeTones_111 e.1 e.2
noncomputable def m_impl_EncodeTones_17 (p0 : S_Tones) (i17_0 : Int) (i17_1 : Int) (l17_2 : (List Int)) (l17_3 : (List Int)) : Option ((Int × Int × (List Int) × (List Int)) ⊕ ((Int × (List Int)))) :=
  if (decide (i17_0 < 4)) then
    (rd l17_2 i17_0).bind fun x17_1 =>
    (m_impl_zbits_put (S_zbits.mk l17_3 i17_1) 8 (wr .u64 x17_1)).bind fun x17_2 =>
    some (.inl ((w64 (i17_0 + 1)), x17_2.n, l17_2, x17_2.b))
  else
    some (.inr (i17_1, l17_3))
noncomputable def lp_impl_EncodeTones_17 (p0 : S_Tones) (s : Int × Int × (List Int) × (List Int)) : Option ((Int × Int × (List Int) × (List Int)) ⊕ ((Int × (List Int)))) := m_impl_EncodeTones_17 p0 s.1 s.2.1 s.2.2.1 s.2.2.2
noncomputable def m_impl_EncodeTones_0 (p0 : S_Tones) : Option ((List Int)) :=
  (m_impl_GoodTones p0).bind fun x0_0 =>
  if x0_0 then
    (loopM (lp_impl_EncodeTones_17 p0) (0, 0, ([84, 79, 78, 49] : List Int), ([] : List Int))).bind fun e => m_impl_EncodeTones_29 p0 e.1 e.2
  else
    some ([] : List Int)
noncomputable def m_impl_EncodeTones (p0 : S_Tones) : Option ((List Int)) := m_impl_EncodeTones_0 p0
noncomputable def m_laws_eqByteS_31 : Option (Bool) :=
  some true
noncomputable def m_laws_eqByteS_15 (p0 : (List Int)) (p1 : (List Int)) (i15_0 : Int) : Option ((Int) ⊕ ((Bool) ⊕ ((Unit)))) :=
  if (decide (i15_0 < (p0.length : Int))) then
    (rd p0 i15_0).bind fun x15_1 =>
    (rd p1 i15_0).bind fun x15_2 =>
    if (x15_1 != x15_2) then
      some (.inr (.inl false))
    else
      some (.inl (w64 (i15_0 + 1)))
  else
    some (.inr (.inr ()))
noncomputable def lp_laws_eqByteS_15 (p0 : (List Int)) (p1 : (List Int)) (s : Int) : Option ((Int) ⊕ ((Bool) ⊕ ((Unit)))) := m_laws_eqByteS_15 p0 p1 s
noncomputable def m_laws_eqByteS_0 (p0 : (List Int)) (p1 : (List Int)) : Option (Bool) :=
  if ((p0.length : Int) != (p1.length : Int)) then
    some false
  else
    (loopM (lp_laws_eqByteS_15 p0 p1) 0).bind fun e => match e with | .inl e => some e | .inr e => m_laws_eqByteS_31
noncomputable def m_laws_eqByteS (p0 : (List Int)) (p1 : (List Int)) : Option (Bool) := m_laws_eqByteS_0 p0 p1
noncomputable def m_laws_eqIntS_31 : Option (Bool) :=
  some true
noncomputable def m_laws_eqIntS_15 (p0 : (List Int)) (p1 : (List Int)) (i15_0 : Int) : Option ((Int) ⊕ ((Bool) ⊕ ((Unit)))) :=
  if (decide (i15_0 < (p0.length : Int))) then
    (rd p0 i15_0).bind fun x15_1 =>
    (rd p1 i15_0).bind fun x15_2 =>
    if (x15_1 != x15_2) then
      some (.inr (.inl false))
    else
      some (.inl (w64 (i15_0 + 1)))
  else
    some (.inr (.inr ()))
noncomputable def lp_laws_eqIntS_15 (p0 : (List Int)) (p1 : (List Int)) (s : Int) : Option ((Int) ⊕ ((Bool) ⊕ ((Unit)))) := m_laws_eqIntS_15 p0 p1 s
noncomputable def m_laws_eqIntS_0 (p0 : (List Int)) (p1 : (List Int)) : Option (Bool) :=
  if ((p0.length : Int) != (p1.length : Int)) then
    some false
  else
    (loopM (lp_laws_eqIntS_15 p0 p1) 0).bind fun e => match e with | .inl e => some e | .inr e => m_laws_eqIntS_31
noncomputable def m_laws_eqIntS (p0 : (List Int)) (p1 : (List Int)) : Option (Bool) := m_laws_eqIntS_0 p0 p1
noncomputable def m_laws_eqIntSS_31 : Option (Bool) :=
  some true
noncomputable def m_laws_eqIntSS_15 (p0 : (List (List Int))) (p1 : (List (List Int))) (i15_0 : Int) : Option ((Int) ⊕ ((Bool) ⊕ ((Unit)))) :=
  if (decide (i15_0 < (p0.length : Int))) then
    (rd p0 i15_0).bind fun x15_1 =>
    (rd p1 i15_0).bind fun x15_2 =>
    (m_laws_eqIntS x15_1 x15_2).bind fun x15_3 =>
    if x15_3 then
      some (.inl (w64 (i15_0 + 1)))
    else
      some (.inr (.inl false))
  else
    some (.inr (.inr ()))
noncomputable def lp_laws_eqIntSS_15 (p0 : (List (List Int))) (p1 : (List (List Int))) (s : Int) : Option ((Int) ⊕ ((Bool) ⊕ ((Unit)))) := m_laws_eqIntSS_15 p0 p1 s
noncomputable def m_laws_eqIntSS_0 (p0 : (List (List Int))) (p1 : (List (List Int))) : Option (Bool) :=
  if ((p0.length : Int) != (p1.length : Int)) then
    some false
  else
    (loopM (lp_laws_eqIntSS_15 p0 p1) 0).bind fun e => match e with | .inl e => some e | .inr e => m_laws_eqIntSS_31
noncomputable def m_laws_eqIntSS (p0 : (List (List Int))) (p1 : (List (List Int))) : Option (Bool) := m_laws_eqIntSS_0 p0 p1
noncomputable def m_laws_eqTones_0 (p0 : S_Tones) (p1 : S_Tones) : Option (Bool) :=
  if (p0.rate != p1.rate) then
    some false
  else
    if (p0.quality != p1.quality) then
      some false
    else
      if (p0.length != p1.length) then
        some false
      else
        (m_laws_eqIntSS p0.slots p1.slots).bind fun x0_3 =>
        if x0_3 then
          (m_laws_eqIntSS p0.grades p1.grades).bind fun x0_5 =>
          if x0_5 then
            some true
          else
            some false
        else
          some false
noncomputable def m_laws_eqTones (p0 : S_Tones) (p1 : S_Tones) : Option (Bool) := m_laws_eqTones_0 p0 p1
noncomputable def m_laws_markIntS_19 (i19_0 : Int) (l19_1 : (List Int)) : Option (Int × (List Int)) :=
  some (i19_0, l19_1)
noncomputable def m_laws_markIntS_7 (i7_0 : Int) (i7_1 : Int) (l7_2 : (List Int)) : Option ((Int × Int × (List Int)) ⊕ ((Int × (List Int)))) :=
  if (decide (i7_1 < (l7_2.length : Int))) then
    (rd l7_2 i7_1).bind fun _ =>
    some (.inl ((w64 (i7_0 + 1)), (w64 (i7_1 + 1)), (l7_2.set (0 + Int.toNat i7_1) i7_0)))
  else
    some (.inr (i7_0, l7_2))
noncomputable def lp_laws_markIntS_7 (s : Int × Int × (List Int)) : Option ((Int × Int × (List Int)) ⊕ ((Int × (List Int)))) := m_laws_markIntS_7 s.1 s.2.1 s.2.2
noncomputable def m_laws_markIntS_0 (p1 : Int) (p0 : (List Int)) : Option (Int × (List Int)) :=
  (loopM (lp_laws_markIntS_7) (p1, 0, p0)).bind fun e => m_laws_markIntS_19 e.1 e.2
noncomputable def m_laws_markIntS (p0 : (List Int)) (p1 : Int) : Option (Int × (List Int)) := m_laws_markIntS_0 p1 p0
noncomputable def m_laws_markIntSS_17 (i17_0 : Int) (l17_1 : (List (List Int))) : Option (Int × (List (List Int))) :=
  some (i17_0, l17_1)
noncomputable def m_laws_markIntSS_7 (i7_0 : Int) (i7_1 : Int) (l7_2 : (List (List Int))) : Option ((Int × Int × (List (List Int))) ⊕ ((Int × (List (List Int))))) :=
  if (decide (i7_1 < (l7_2.length : Int))) then
    (rd l7_2 i7_1).bind fun x7_1 =>
    (m_laws_markIntS x7_1 i7_0).bind fun x7_2 =>
    (ck (decide (x7_2.2.length = x7_1.length))).bind fun _ =>
    some (.inl (x7_2.1, (w64 (i7_1 + 1)), (l7_2.set (0 + Int.toNat i7_1) x7_2.2)))
  else
    some (.inr (i7_0, l7_2))
noncomputable def lp_laws_markIntSS_7 (s : Int × Int × (List (List Int))) : Option ((Int × Int × (List (List Int))) ⊕ ((Int × (List (List Int))))) := m_laws_markIntSS_7 s.1 s.2.1 s.2.2
noncomputable def m_laws_markIntSS_0 (p1 : Int) (p0 : (List (List Int))) : Option (Int × (List (List Int))) :=
  (loopM (lp_laws_markIntSS_7) (p1, 0, p0)).bind fun e => m_laws_markIntSS_17 e.1 e.2
noncomputable def m_laws_markIntSS (p0 : (List (List Int))) (p1 : Int) : Option (Int × (List (List Int))) := m_laws_markIntSS_0 p1 p0
noncomputable def m_laws_markTones_0 (p0 : S_Tones) (p1 : Int) : Option (Int) :=
  (m_laws_markIntSS p0.slots p1).bind fun x0_0 =>
  (ck (decide (x0_0.2.length = p0.slots.length))).bind fun _ =>
  (m_laws_markIntSS p0.grades x0_0.1).bind fun x0_2 =>
  (ck (decide (x0_2.2.length = p0.grades.length))).bind fun _ =>
  some x0_2.1
noncomputable def m_laws_markTones (p0 : S_Tones) (p1 : Int) : Option (Int) := m_laws_markTones_0 p0 p1
noncomputable def m_laws_markByteS_19 (i19_0 : Int) (l19_1 : (List Int)) : Option (Int × (List Int)) :=
  some (i19_0, l19_1)
noncomputable def m_laws_markByteS_7 (i7_0 : Int) (i7_1 : Int) (l7_2 : (List Int)) : Option ((Int × Int × (List Int)) ⊕ ((Int × (List Int)))) :=
  if (decide (i7_1 < (l7_2.length : Int))) then
    (rd l7_2 i7_1).bind fun _ =>
    some (.inl ((w64 (i7_0 + 1)), (w64 (i7_1 + 1)), (l7_2.set (0 + Int.toNat i7_1) (wr .u8 i7_0))))
  else
    some (.inr (i7_0, l7_2))
noncomputable def lp_laws_markByteS_7 (s : Int × Int × (List Int)) : Option ((Int × Int × (List Int)) ⊕ ((Int × (List Int)))) := m_laws_markByteS_7 s.1 s.2.1 s.2.2
noncomputable def m_laws_markByteS_0 (p1 : Int) (p0 : (List Int)) : Option (Int × (List Int)) :=
  (loopM (lp_laws_markByteS_7) (p1, 0, p0)).bind fun e => m_laws_markByteS_19 e.1 e.2
noncomputable def m_laws_markByteS (p0 : (List Int)) (p1 : Int) : Option (Int × (List Int)) := m_laws_markByteS_0 p1 p0
noncomputable def m_laws_heldByteS_25 (i25_0 : Int) : Option (Int) :=
  some i25_0
noncomputable def m_laws_heldByteS_7 (p0 : (List Int)) (i7_0 : Int) (i7_1 : Int) : Option ((Int × Int) ⊕ ((Int) ⊕ ((Int)))) :=
  if (decide (i7_1 < (p0.length : Int))) then
    (rd p0 i7_1).bind fun x7_1 =>
    if (x7_1 != (wr .u8 i7_0)) then
      some (.inr (.inl (-1)))
    else
      some (.inl ((w64 (i7_0 + 1)), (w64 (i7_1 + 1))))
  else
    some (.inr (.inr i7_0))
noncomputable def lp_laws_heldByteS_7 (p0 : (List Int)) (s : Int × Int) : Option ((Int × Int) ⊕ ((Int) ⊕ ((Int)))) := m_laws_heldByteS_7 p0 s.1 s.2
noncomputable def m_laws_heldByteS_0 (p0 : (List Int)) (p1 : Int) : Option (Int) :=
  (loopM (lp_laws_heldByteS_7 p0) (p1, 0)).bind fun e => match e with | .inl e => some e | .inr e => m_laws_heldByteS_25 e
noncomputable def m_laws_heldByteS (p0 : (List Int)) (p1 : Int) : Option (Int) := m_laws_heldByteS_0 p0 p1
noncomputable def m_laws_FnExactEncodeTones_0 (p0 : S_Tones) : Option (Bool) :=
  (m_laws_szTones p0 1048576).bind fun x0_0 =>
  if (decide (x0_0 < 0)) then
    some true
  else
    (m_laws_toTones p0).bind fun x0_2 =>
    (m_spec_EncodeTones x0_2).bind fun x0_3 =>
    (m_impl_EncodeTones x0_2).bind fun x0_4 =>
    (m_laws_eqByteS x0_4 x0_3).bind fun x0_5 =>
    if x0_5 then
      (m_laws_eqTones x0_2 x0_2).bind fun x0_7 =>
      if x0_7 then
        (m_laws_markTones x0_2 1).bind fun x0_9 =>
        if (decide (x0_9 < 0)) then
          some false
        else
          (m_laws_markByteS x0_4 1).bind fun x0_11 =>
          (ck (decide (x0_11.2.length = x0_4.length))).bind fun _ =>
          (m_laws_heldByteS x0_11.2 1).bind fun x0_13 =>
          if (decide (x0_13 < 0)) then
            some false
          else
            if (x0_13 != x0_11.1) then
              some false
            else
              some true
      else
        some false
    else
      some false
noncomputable def m_laws_FnExactEncodeTones (p0 : S_Tones) : Option (Bool) := m_laws_FnExactEncodeTones_0 p0
end Go.Proofs.V

/- printed by a program: the plain functions, the code and the proofs of one law -/
set_option linter.unusedVariables false
set_option maxRecDepth 100000
namespace Go.Proofs.V
open Go
def c_laws_szIntS_7 : VC :=
  .ite (.s 10) (.seq (.r 3 [⟨none, [], none, .mv 4 (.k (.int .i64 (-1)))⟩]) (.ret)) (.skip)
def c_laws_szIntS_12 : VC :=
  .seq (.r 4 [⟨none, [], none, .mv 11 (.s 1)⟩,
    ⟨none, [], none, .mv 4 (.s 11)⟩]) (.ret)
def c_laws_szIntS_4 : VC :=
  .seq (.seq (.r 2 [⟨none, [], none, .mv 9 (.s 1)⟩,
    ⟨none, [], none, .bin 10 .lss (.s 9) (.k (.int .i64 0))⟩]) c_laws_szIntS_7) c_laws_szIntS_12
def c_laws_szIntS_2 : VC :=
  .seq (.r 1 [⟨none, [], none, .mv 5 (.s 1)⟩,
    ⟨none, [], none, .mv 6 (.s 0)⟩,
    ⟨none, [], none, .len 7 (.s 6)⟩,
    ⟨none, [], none, .bin 8 .sub (.s 5) (.s 7)⟩,
    ⟨none, [], none, .mv 1 (.s 8)⟩]) c_laws_szIntS_4
def c_laws_szIntS_0 : VC :=
  .seq (.r 0 [⟨none, [], none, .mv 4 (.k (.int .i64 0))⟩]) c_laws_szIntS_2
def vf_laws_szIntS : VF := { pm := [.ro [.ro [.sc]], .ro [.sc]], rm := [.v [.sc]], nslots := 12, res := [4], rc := [], code := .kp [0, 1] c_laws_szIntS_0 }
def c_laws_szIntSS_7 : VC :=
  .ite (.s 11) (.seq (.r 3 [⟨none, [], none, .mv 4 (.k (.int .i64 (-1)))⟩]) (.ret)) (.skip)
def c_laws_szIntSS_20 : VC :=
  .ite (.s 15) (.skip) (.exit 0)
def c_laws_szIntSS_29 : VC :=
  .ite (.s 25) (.seq (.r 9 [⟨none, [], none, .mv 4 (.k (.int .i64 (-1)))⟩]) (.ret)) (.skip)
def c_laws_szIntSS_27 : VC :=
  .seq (.r 8 [⟨none, [], none, .mv 24 (.s 1)⟩,
    ⟨none, [], none, .bin 25 .lss (.s 24) (.k (.int .i64 0))⟩]) c_laws_szIntSS_29
def c_laws_szIntSS_34 : VC :=
  .r 6 [⟨none, [], none, .mv 16 (.s 5)⟩,
    ⟨none, [], none, .bin 17 .add (.s 16) (.k (.int .i64 1))⟩,
    ⟨none, [], none, .mv 5 (.s 17)⟩]
def c_laws_szIntSS_23 : VC :=
  .seq (.blk 1 (.seq (.r 7 [⟨none, [], none, .mv 18 (.s 0)⟩,
    ⟨none, [], none, .mv 19 (.s 5)⟩,
    ⟨none, [], none, .iadr 20 (.s 18) (.s 19) 1⟩,
    ⟨none, [], none, .ld 21 (.s 20) 1 false⟩,
    ⟨none, [], none, .mv 22 (.s 1)⟩,
    ⟨none, [], none, .call 23 95 [(.s 21), (.s 22)]⟩,
    ⟨none, [], none, .mv 1 (.s 23)⟩]) c_laws_szIntSS_27)) c_laws_szIntSS_34
def c_laws_szIntSS_17 : VC :=
  .seq (.seq (.r 5 [⟨none, [], none, .mv 12 (.s 5)⟩,
    ⟨none, [], none, .mv 13 (.s 0)⟩,
    ⟨none, [], none, .len 14 (.s 13)⟩,
    ⟨none, [], none, .bin 15 .lss (.s 12) (.s 14)⟩]) c_laws_szIntSS_20) c_laws_szIntSS_23
def c_laws_szIntSS_15 : VC :=
  .blk 0 (.loop [0, 1, 5] c_laws_szIntSS_17)
def c_laws_szIntSS_35 : VC :=
  .seq (.r 10 [⟨none, [], none, .mv 26 (.s 1)⟩,
    ⟨none, [], none, .mv 4 (.s 26)⟩]) (.ret)
def c_laws_szIntSS_12 : VC :=
  .seq (.seq (.r 4 [⟨none, [], none, .mv 5 (.k (.int .i64 0))⟩]) c_laws_szIntSS_15) (.kp [1] c_laws_szIntSS_35)
def c_laws_szIntSS_4 : VC :=
  .seq (.seq (.r 2 [⟨none, [], none, .mv 10 (.s 1)⟩,
    ⟨none, [], none, .bin 11 .lss (.s 10) (.k (.int .i64 0))⟩]) c_laws_szIntSS_7) c_laws_szIntSS_12
def c_laws_szIntSS_2 : VC :=
  .seq (.r 1 [⟨none, [], none, .mv 6 (.s 1)⟩,
    ⟨none, [], none, .mv 7 (.s 0)⟩,
    ⟨none, [], none, .len 8 (.s 7)⟩,
    ⟨none, [], none, .bin 9 .sub (.s 6) (.s 8)⟩,
    ⟨none, [], none, .mv 1 (.s 9)⟩]) c_laws_szIntSS_4
def c_laws_szIntSS_0 : VC :=
  .seq (.r 0 [⟨none, [], none, .mv 4 (.k (.int .i64 0))⟩]) c_laws_szIntSS_2
def vf_laws_szIntSS : VF := { pm := [.ro [.ro [.ro [.sc]]], .ro [.sc]], rm := [.v [.sc]], nslots := 27, res := [4], rc := [], code := .kp [0, 1] c_laws_szIntSS_0 }
def c_laws_szTones_7 : VC :=
  .ite (.s 10) (.seq (.r 3 [⟨none, [], none, .mv 4 (.k (.int .i64 (-1)))⟩]) (.ret)) (.skip)
def c_laws_szTones_17 : VC :=
  .ite (.s 16) (.seq (.r 6 [⟨none, [], none, .mv 4 (.k (.int .i64 (-1)))⟩]) (.ret)) (.skip)
def c_laws_szTones_22 : VC :=
  .seq (.r 7 [⟨none, [], none, .mv 17 (.s 1)⟩,
    ⟨none, [], none, .mv 4 (.s 17)⟩]) (.ret)
def c_laws_szTones_14 : VC :=
  .seq (.seq (.r 5 [⟨none, [], none, .mv 15 (.s 1)⟩,
    ⟨none, [], none, .bin 16 .lss (.s 15) (.k (.int .i64 0))⟩]) c_laws_szTones_17) c_laws_szTones_22
def c_laws_szTones_12 : VC :=
  .seq (.r 4 [⟨none, [], none, .fadr 11 (.s 2) 4⟩,
    ⟨none, [], none, .ld 12 (.s 11) 1 false⟩,
    ⟨none, [], none, .mv 13 (.s 1)⟩,
    ⟨none, [], none, .call 14 71 [(.s 12), (.s 13)]⟩,
    ⟨none, [], none, .mv 1 (.s 14)⟩]) c_laws_szTones_14
def c_laws_szTones_4 : VC :=
  .seq (.seq (.r 2 [⟨none, [], none, .mv 9 (.s 1)⟩,
    ⟨none, [], none, .bin 10 .lss (.s 9) (.k (.int .i64 0))⟩]) c_laws_szTones_7) c_laws_szTones_12
def c_laws_szTones_2 : VC :=
  .seq (.r 1 [⟨none, [], none, .fadr 5 (.s 2) 3⟩,
    ⟨none, [], none, .ld 6 (.s 5) 1 false⟩,
    ⟨none, [], none, .mv 7 (.s 1)⟩,
    ⟨none, [], none, .call 8 71 [(.s 6), (.s 7)]⟩,
    ⟨none, [], none, .mv 1 (.s 8)⟩]) c_laws_szTones_4
def c_laws_szTones_0 : VC :=
  .seq (.r 0 [⟨none, [], none, .box 2 (.s 0)⟩,
    ⟨none, [], none, .mv 4 (.k (.int .i64 0))⟩]) c_laws_szTones_2
def vf_laws_szTones : VF := { pm := [.ro [.sc, .sc, .sc, .ro [.ro [.sc]], .ro [.ro [.sc]]], .ro [.sc]], rm := [.v [.sc]], nslots := 18, res := [4], rc := [], code := .kp [0, 1] c_laws_szTones_0 }
def c_laws_toIntS_12 : VC :=
  .ite (.s 11) (.skip) (.exit 0)
def c_laws_toIntS_18 : VC :=
  .r 4 [⟨none, [], none, .mv 12 (.s 4)⟩,
    ⟨none, [], none, .bin 13 .add (.s 12) (.k (.int .i64 1))⟩,
    ⟨none, [], none, .mv 4 (.s 13)⟩]
def c_laws_toIntS_15 : VC :=
  .seq (.blk 1 (.r 5 [⟨none, [], none, .mv 14 (.s 3)⟩,
    ⟨none, [], none, .mv 15 (.s 4)⟩,
    ⟨none, [], none, .mv 16 (.s 0)⟩,
    ⟨none, [], none, .mv 17 (.s 4)⟩,
    ⟨none, [], none, .iadr 18 (.s 16) (.s 17) 1⟩,
    ⟨none, [], none, .ld 19 (.s 18) 1 false⟩,
    ⟨none, [], none, .iadr 20 (.s 14) (.s 15) 1⟩,
    ⟨none, [], none, .st (.s 20) (.s 19) 1⟩])) c_laws_toIntS_18
def c_laws_toIntS_9 : VC :=
  .seq (.seq (.r 3 [⟨none, [], none, .mv 8 (.s 4)⟩,
    ⟨none, [], none, .mv 9 (.s 0)⟩,
    ⟨none, [], none, .len 10 (.s 9)⟩,
    ⟨none, [], none, .bin 11 .lss (.s 8) (.s 10)⟩]) c_laws_toIntS_12) c_laws_toIntS_15
def c_laws_toIntS_7 : VC :=
  .blk 0 (.loop [0, 3, 4] c_laws_toIntS_9)
def c_laws_toIntS_19 : VC :=
  .seq (.r 6 [⟨none, [], none, .mv 21 (.s 3)⟩,
    ⟨none, [], none, .mv 2 (.s 21)⟩]) (.ret)
def c_laws_toIntS_4 : VC :=
  .seq (.seq (.r 2 [⟨none, [], none, .mv 4 (.k (.int .i64 0))⟩]) c_laws_toIntS_7) (.kp [3] c_laws_toIntS_19)
def c_laws_toIntS_2 : VC :=
  .seq (.r 1 [⟨none, [], none, .mv 5 (.s 0)⟩,
    ⟨none, [], none, .len 6 (.s 5)⟩,
    ⟨none, [], none, .mk 7 (.s 6) [.sc] [(.int .i64 0)] 17592186044416⟩,
    ⟨none, [], none, .mv 3 (.s 7)⟩]) c_laws_toIntS_4
def c_laws_toIntS_0 : VC :=
  .seq (.r 0 [⟨none, [], none, .nil 2 [.sc]⟩]) c_laws_toIntS_2
def vf_laws_toIntS : VF := { pm := [.ro [.ro [.sc]]], rm := [.v [.own [.sc]]], nslots := 22, res := [2], rc := [], code := .kp [0] c_laws_toIntS_0 }
def c_laws_toIntSS_12 : VC :=
  .ite (.s 11) (.skip) (.exit 0)
def c_laws_toIntSS_18 : VC :=
  .r 4 [⟨none, [], none, .mv 12 (.s 4)⟩,
    ⟨none, [], none, .bin 13 .add (.s 12) (.k (.int .i64 1))⟩,
    ⟨none, [], none, .mv 4 (.s 13)⟩]
def c_laws_toIntSS_15 : VC :=
  .seq (.blk 1 (.r 5 [⟨none, [], none, .mv 14 (.s 3)⟩,
    ⟨none, [], none, .mv 15 (.s 4)⟩,
    ⟨none, [], none, .mv 16 (.s 0)⟩,
    ⟨none, [], none, .mv 17 (.s 4)⟩,
    ⟨none, [], none, .iadr 18 (.s 16) (.s 17) 1⟩,
    ⟨none, [], none, .ld 19 (.s 18) 1 false⟩,
    ⟨none, [], none, .call 20 60 [(.s 19)]⟩,
    ⟨none, [], none, .iadr 21 (.s 14) (.s 15) 1⟩,
    ⟨none, [], none, .st (.s 21) (.s 20) 1⟩])) c_laws_toIntSS_18
def c_laws_toIntSS_9 : VC :=
  .seq (.seq (.r 3 [⟨none, [], none, .mv 8 (.s 4)⟩,
    ⟨none, [], none, .mv 9 (.s 0)⟩,
    ⟨none, [], none, .len 10 (.s 9)⟩,
    ⟨none, [], none, .bin 11 .lss (.s 8) (.s 10)⟩]) c_laws_toIntSS_12) c_laws_toIntSS_15
def c_laws_toIntSS_7 : VC :=
  .blk 0 (.loop [0, 3, 4] c_laws_toIntSS_9)
def c_laws_toIntSS_19 : VC :=
  .seq (.r 6 [⟨none, [], none, .mv 22 (.s 3)⟩,
    ⟨none, [], none, .mv 2 (.s 22)⟩]) (.ret)
def c_laws_toIntSS_4 : VC :=
  .seq (.seq (.r 2 [⟨none, [], none, .mv 4 (.k (.int .i64 0))⟩]) c_laws_toIntSS_7) (.kp [3] c_laws_toIntSS_19)
def c_laws_toIntSS_2 : VC :=
  .seq (.r 1 [⟨none, [], none, .mv 5 (.s 0)⟩,
    ⟨none, [], none, .len 6 (.s 5)⟩,
    ⟨none, [], none, .mk 7 (.s 6) [.own [.sc]] [(.slice none 0 0)] 5864062014805⟩,
    ⟨none, [], none, .mv 3 (.s 7)⟩]) c_laws_toIntSS_4
def c_laws_toIntSS_0 : VC :=
  .seq (.r 0 [⟨none, [], none, .nil 2 [.own [.sc]]⟩]) c_laws_toIntSS_2
def vf_laws_toIntSS : VF := { pm := [.ro [.ro [.ro [.sc]]]], rm := [.v [.own [.own [.sc]]]], nslots := 23, res := [2], rc := [], code := .kp [0] c_laws_toIntSS_0 }
def c_laws_toTones_14 : VC :=
  .seq (.r 7 [⟨none, [], none, .ld 21 (.s 3) 5 true⟩,
    ⟨none, [], none, .st (.s 2) (.s 21) 5⟩]) (.ret)
def c_laws_toTones_12 : VC :=
  .seq (.r 6 [⟨none, [], none, .fadr 17 (.s 1) 4⟩,
    ⟨none, [], none, .ld 18 (.s 17) 1 false⟩,
    ⟨none, [], none, .call 19 76 [(.s 18)]⟩,
    ⟨none, [], none, .fadr 20 (.s 3) 4⟩,
    ⟨none, [], none, .st (.s 20) (.s 19) 1⟩]) c_laws_toTones_14
def c_laws_toTones_10 : VC :=
  .seq (.r 5 [⟨none, [], none, .fadr 13 (.s 1) 3⟩,
    ⟨none, [], none, .ld 14 (.s 13) 1 false⟩,
    ⟨none, [], none, .call 15 76 [(.s 14)]⟩,
    ⟨none, [], none, .fadr 16 (.s 3) 3⟩,
    ⟨none, [], none, .st (.s 16) (.s 15) 1⟩]) c_laws_toTones_12
def c_laws_toTones_8 : VC :=
  .seq (.r 4 [⟨none, [], none, .fadr 10 (.s 1) 2⟩,
    ⟨none, [], none, .ld 11 (.s 10) 1 false⟩,
    ⟨none, [], none, .fadr 12 (.s 3) 2⟩,
    ⟨none, [], none, .st (.s 12) (.s 11) 1⟩]) c_laws_toTones_10
def c_laws_toTones_6 : VC :=
  .seq (.r 3 [⟨none, [], none, .fadr 7 (.s 1) 1⟩,
    ⟨none, [], none, .ld 8 (.s 7) 1 false⟩,
    ⟨none, [], none, .fadr 9 (.s 3) 1⟩,
    ⟨none, [], none, .st (.s 9) (.s 8) 1⟩]) c_laws_toTones_8
def c_laws_toTones_4 : VC :=
  .seq (.r 2 [⟨none, [], none, .fadr 4 (.s 1) 0⟩,
    ⟨none, [], none, .ld 5 (.s 4) 1 false⟩,
    ⟨none, [], none, .fadr 6 (.s 3) 0⟩,
    ⟨none, [], none, .st (.s 6) (.s 5) 1⟩]) c_laws_toTones_6
def c_laws_toTones_2 : VC :=
  .seq (.r 1 [⟨none, [], none, .alloc 3 [.k (.int .i64 0), .k (.int .i64 0), .k (.int .i64 0), .o [.own [.sc]], .o [.own [.sc]]]⟩]) c_laws_toTones_4
def c_laws_toTones_0 : VC :=
  .seq (.r 0 [⟨none, [], none, .box 1 (.s 0)⟩,
    ⟨none, [], none, .alloc 2 [.k (.int .i64 0), .k (.int .i64 0), .k (.int .i64 0), .o [.own [.sc]], .o [.own [.sc]]]⟩]) c_laws_toTones_2
def vf_laws_toTones : VF := { pm := [.ro [.sc, .sc, .sc, .ro [.ro [.sc]], .ro [.ro [.sc]]]], rm := [.v [.sc, .sc, .sc, .own [.own [.sc]], .own [.own [.sc]]]], nslots := 22, res := [2], rc := [some (5, true)], code := .kp [0] c_laws_toTones_0 }
def c_spec_l11Head_2 : VC :=
  .seq (.r 1 [⟨none, [], none, .mv 7 (.s 0)⟩,
    ⟨none, [], none, .bin 8 .geq (.s 7) (.k (.int .i64 1))⟩,
    ⟨none, [], none, .mv 9 (.s 8)⟩,
    ⟨none, [], some (9, true), .mv 10 (.s 0)⟩,
    ⟨none, [], some (9, true), .bin 11 .leq (.s 10) (.k (.int .i64 1000000))⟩,
    ⟨none, [], none, .pick 12 (.s 9) (.s 11) (.k (.bool false))⟩,
    ⟨none, [], none, .mv 13 (.s 12)⟩,
    ⟨none, [], some (13, true), .mv 14 (.s 1)⟩,
    ⟨none, [], some (13, true), .bin 15 .geq (.s 14) (.k (.int .i64 0))⟩,
    ⟨none, [], none, .pick 16 (.s 13) (.s 15) (.k (.bool false))⟩,
    ⟨none, [], none, .mv 17 (.s 16)⟩,
    ⟨none, [], some (17, true), .mv 18 (.s 1)⟩,
    ⟨none, [], some (17, true), .bin 19 .leq (.s 18) (.k (.int .i64 15))⟩,
    ⟨none, [], none, .pick 20 (.s 17) (.s 19) (.k (.bool false))⟩,
    ⟨none, [], none, .mv 21 (.s 20)⟩,
    ⟨none, [], some (21, true), .mv 22 (.s 2)⟩,
    ⟨none, [], some (21, true), .bin 23 .geq (.s 22) (.k (.int .i64 0))⟩,
    ⟨none, [], none, .pick 24 (.s 21) (.s 23) (.k (.bool false))⟩,
    ⟨none, [], none, .mv 25 (.s 24)⟩,
    ⟨none, [], some (25, true), .mv 26 (.s 2)⟩,
    ⟨none, [], some (25, true), .bin 27 .leq (.s 26) (.k (.int .i64 4000))⟩,
    ⟨none, [], none, .pick 28 (.s 25) (.s 27) (.k (.bool false))⟩,
    ⟨none, [], none, .mv 6 (.s 28)⟩]) (.ret)
def c_spec_l11Head_0 : VC :=
  .seq (.r 0 [⟨none, [], none, .mv 6 (.k (.bool false))⟩]) c_spec_l11Head_2
def vf_spec_l11Head : VF := { pm := [.ro [.sc], .ro [.sc], .ro [.sc]], rm := [.v [.sc]], nslots := 29, res := [6], rc := [], code := .kp [0, 1, 2] c_spec_l11Head_0 }
def c_spec_l11Slots_2 : VC :=
  .seq (.r 1 [⟨none, [], none, .mv 3 (.s 0)⟩,
    ⟨none, [], none, .bin 4 .add (.s 3) (.k (.int .i64 15))⟩,
    ⟨none, [], none, .bin 5 .quo (.s 4) (.k (.int .i64 16))⟩,
    ⟨none, [], none, .bin 6 .add (.s 5) (.k (.int .i64 1))⟩,
    ⟨none, [], none, .mv 2 (.s 6)⟩]) (.ret)
def c_spec_l11Slots_0 : VC :=
  .seq (.r 0 [⟨none, [], none, .mv 2 (.k (.int .i64 0))⟩]) c_spec_l11Slots_2
def vf_spec_l11Slots : VF := { pm := [.ro [.sc]], rm := [.v [.sc]], nslots := 7, res := [2], rc := [], code := .kp [0] c_spec_l11Slots_0 }
def c_spec_l11All_19 : VC :=
  .ite (.s 24) (.seq (.r 5 [⟨none, [], none, .mv 8 (.k (.bool false))⟩]) (.ret)) (.skip)
def c_spec_l11All_17 : VC :=
  .seq (.r 4 [⟨none, [], none, .mv 17 (.s 10)⟩,
    ⟨none, [], none, .mv 18 (.s 2)⟩,
    ⟨none, [], none, .bin 19 .lss (.s 17) (.s 18)⟩,
    ⟨none, [], none, .mv 20 (.s 19)⟩,
    ⟨none, [], some (20, false), .mv 21 (.s 10)⟩,
    ⟨none, [], some (20, false), .mv 22 (.s 3)⟩,
    ⟨none, [], some (20, false), .bin 23 .gtr (.s 21) (.s 22)⟩,
    ⟨none, [], none, .pick 24 (.s 20) (.k (.bool true)) (.s 23)⟩]) c_spec_l11All_19
def c_spec_l11All_24 : VC :=
  .r 6 [⟨none, [], none, .bin 25 .add (.s 13) (.k (.int .i64 1))⟩,
    ⟨none, [], none, .mv 13 (.s 25)⟩]
def c_spec_l11All_13 : VC :=
  .seq (.blk 1 (.seq (.r 3 [⟨none, [], none, .iadr 15 (.s 11) (.s 13) 1⟩,
    ⟨none, [], none, .ld 16 (.s 15) 1 false⟩,
    ⟨none, [], none, .mv 10 (.s 16)⟩]) c_spec_l11All_17)) c_spec_l11All_24
def c_spec_l11All_9 : VC :=
  .seq (.ite (.s 14) (.skip) (.exit 0)) c_spec_l11All_13
def c_spec_l11All_7 : VC :=
  .seq (.r 2 [⟨none, [], none, .bin 14 .lss (.s 13) (.s 12)⟩]) c_spec_l11All_9
def c_spec_l11All_5 : VC :=
  .blk 0 (.loop [0, 1, 2, 3, 11, 12, 13] c_spec_l11All_7)
def c_spec_l11All_25 : VC :=
  .seq (.r 7 [⟨none, [], none, .mv 26 (.s 0)⟩,
    ⟨none, [], none, .len 27 (.s 26)⟩,
    ⟨none, [], none, .mv 28 (.s 1)⟩,
    ⟨none, [], none, .bin 29 .eql (.s 27) (.s 28)⟩,
    ⟨none, [], none, .mv 8 (.s 29)⟩]) (.ret)
def c_spec_l11All_2 : VC :=
  .seq (.seq (.r 1 [⟨none, [], none, .mv 11 (.s 0)⟩,
    ⟨none, [], none, .len 12 (.s 11)⟩,
    ⟨none, [], none, .mv 13 (.k (.int .i64 0))⟩]) c_spec_l11All_5) (.kp [0, 1] c_spec_l11All_25)
def c_spec_l11All_0 : VC :=
  .seq (.r 0 [⟨none, [], none, .mv 8 (.k (.bool false))⟩]) c_spec_l11All_2
def vf_spec_l11All : VF := { pm := [.ro [.ro [.sc]], .ro [.sc], .ro [.sc], .ro [.sc]], rm := [.v [.sc]], nslots := 30, res := [8], rc := [], code := .kp [0, 1, 2, 3] c_spec_l11All_0 }
def c_spec_GoodTones_5 : VC :=
  .ite (.s 29) (.seq (.r 2 [⟨none, [], none, .mv 2 (.k (.bool false))⟩]) (.ret)) (.skip)
def c_spec_GoodTones_27 : VC :=
  .ite (.s 51) (.seq (.r 7 [⟨none, [], none, .mv 2 (.k (.bool false))⟩]) (.ret)) (.skip)
def c_spec_GoodTones_25 : VC :=
  .seq (.r 6 [⟨none, [], none, .fadr 36 (.s 1) 3⟩,
    ⟨none, [], none, .ld 37 (.s 36) 1 false⟩,
    ⟨none, [], none, .mv 38 (.s 3)⟩,
    ⟨none, [], none, .iadr 39 (.s 37) (.s 38) 1⟩,
    ⟨none, [], none, .ld 40 (.s 39) 1 false⟩,
    ⟨none, [], none, .call 41 156 [(.s 40), (.k (.int .i64 16)), (.k (.int .i64 (-1048576))), (.k (.int .i64 1048575))]⟩,
    ⟨none, [], none, .un 42 .not (.s 41)⟩,
    ⟨none, [], none, .mv 43 (.s 42)⟩,
    ⟨none, [], some (43, false), .fadr 44 (.s 1) 4⟩,
    ⟨none, [], some (43, false), .ld 45 (.s 44) 1 false⟩,
    ⟨none, [], some (43, false), .mv 46 (.s 3)⟩,
    ⟨none, [], some (43, false), .iadr 47 (.s 45) (.s 46) 1⟩,
    ⟨none, [], some (43, false), .ld 48 (.s 47) 1 false⟩,
    ⟨none, [], some (43, false), .call 49 156 [(.s 48), (.k (.int .i64 8)), (.k (.int .i64 0)), (.k (.int .i64 12))]⟩,
    ⟨none, [], some (43, false), .un 50 .not (.s 49)⟩,
    ⟨none, [], none, .pick 51 (.s 43) (.k (.bool true)) (.s 50)⟩]) c_spec_GoodTones_27
def c_spec_GoodTones_32 : VC :=
  .r 8 [⟨none, [], none, .bin 52 .add (.s 33) (.k (.int .i64 1))⟩,
    ⟨none, [], none, .mv 33 (.s 52)⟩]
def c_spec_GoodTones_21 : VC :=
  .seq (.blk 1 (.seq (.r 5 [⟨none, [], none, .mv 35 (.s 33)⟩,
    ⟨none, [], none, .mv 3 (.s 35)⟩]) c_spec_GoodTones_25)) c_spec_GoodTones_32
def c_spec_GoodTones_17 : VC :=
  .seq (.ite (.s 34) (.skip) (.exit 0)) c_spec_GoodTones_21
def c_spec_GoodTones_15 : VC :=
  .seq (.r 4 [⟨none, [], none, .bin 34 .lss (.s 33) (.s 32)⟩]) c_spec_GoodTones_17
def c_spec_GoodTones_13 : VC :=
  .blk 0 (.loop [1, 32, 33] c_spec_GoodTones_15)
def c_spec_GoodTones_33 : VC :=
  .seq (.r 9 [⟨none, [], none, .mv 2 (.k (.bool true))⟩]) (.ret)
def c_spec_GoodTones_10 : VC :=
  .seq (.seq (.r 3 [⟨none, [], none, .fadr 30 (.s 1) 3⟩,
    ⟨none, [], none, .ld 31 (.s 30) 1 false⟩,
    ⟨none, [], none, .len 32 (.s 31)⟩,
    ⟨none, [], none, .mv 33 (.k (.int .i64 0))⟩]) c_spec_GoodTones_13) (.kp [] c_spec_GoodTones_33)
def c_spec_GoodTones_2 : VC :=
  .seq (.seq (.d 1 [(0, ⟨none, [], none, .fadr 4 (.s 1) 0⟩),
    (1, ⟨none, [], none, .ld 5 (.s 4) 1 false⟩),
    (2, ⟨none, [], none, .fadr 6 (.s 1) 1⟩),
    (3, ⟨none, [], none, .ld 7 (.s 6) 1 false⟩),
    (4, ⟨none, [], none, .fadr 8 (.s 1) 2⟩),
    (5, ⟨none, [], none, .ld 9 (.s 8) 1 false⟩),
    (6, ⟨none, [], none, .call 10 83 [(.s 5), (.s 7), (.s 9)]⟩),
    (7, ⟨none, [], none, .un 11 .not (.s 10)⟩),
    (8, ⟨none, [], none, .mv 12 (.s 11)⟩),
    (9, ⟨none, [], some (12, false), .fadr 13 (.s 1) 3⟩),
    (10, ⟨none, [], some (12, false), .ld 14 (.s 13) 1 false⟩),
    (11, ⟨none, [], some (12, false), .len 15 (.s 14)⟩),
    (12, ⟨none, [], some (12, false), .fadr 16 (.s 1) 2⟩),
    (13, ⟨none, [], some (12, false), .ld 17 (.s 16) 1 false⟩),
    (14, ⟨none, [], some (12, false), .call 18 85 [(.s 17)]⟩),
    (15, ⟨none, [], some (12, false), .bin 19 .neq (.s 15) (.s 18)⟩),
    (16, ⟨none, [], none, .pick 20 (.s 12) (.k (.bool true)) (.s 19)⟩),
    (17, ⟨none, [], none, .mv 21 (.s 20)⟩),
    (18, ⟨none, [], some (21, false), .fadr 22 (.s 1) 4⟩),
    (19, ⟨none, [], some (21, false), .ld 23 (.s 22) 1 false⟩),
    (20, ⟨none, [], some (21, false), .len 24 (.s 23)⟩),
    (21, ⟨none, [], some (21, false), .fadr 25 (.s 1) 3⟩),
    (22, ⟨none, [], some (21, false), .ld 26 (.s 25) 1 false⟩),
    (23, ⟨none, [], some (21, false), .len 27 (.s 26)⟩),
    (24, ⟨none, [], some (21, false), .bin 28 .neq (.s 24) (.s 27)⟩),
    (25, ⟨none, [], none, .pick 29 (.s 21) (.k (.bool true)) (.s 28)⟩)]) c_spec_GoodTones_5) c_spec_GoodTones_10
def c_spec_GoodTones_0 : VC :=
  .seq (.r 0 [⟨none, [], none, .box 1 (.s 0)⟩,
    ⟨none, [], none, .mv 2 (.k (.bool false))⟩]) c_spec_GoodTones_2
def vf_spec_GoodTones : VF := { pm := [.ro [.sc, .sc, .sc, .ro [.ro [.sc]], .ro [.ro [.sc]]]], rm := [.v [.sc]], nslots := 53, res := [2], rc := [], code := .kp [0] c_spec_GoodTones_0 }
def c_spec_l1Sink_bit_3 : VC :=
  .ite (.s 10) (.r 1 [⟨none, [], none, .mv 11 (.s 0)⟩,
    ⟨none, [], none, .mv 12 (.s 0)⟩,
    ⟨none, [], none, .nck 13 (.s 12)⟩,
    ⟨none, [], none, .fadr 14 (.s 13) 1⟩,
    ⟨none, [], none, .ld 15 (.s 14) 1 false⟩,
    ⟨none, [], none, .lits 16 [.sc] [(.k (.int .u8 0))]⟩,
    ⟨none, [], none, .app 17 (.s 15) (.s 16) [.sc] 140737488355328⟩,
    ⟨none, [], none, .nck 18 (.s 11)⟩,
    ⟨none, [], none, .fadr 19 (.s 18) 1⟩,
    ⟨none, [], none, .st (.s 19) (.s 17) 1⟩]) (.skip)
def c_spec_l1Sink_bit_15 : VC :=
  .ite (.s 31) (.r 5 [⟨none, [], none, .mv 32 (.s 4)⟩,
    ⟨none, [], none, .bin 33 .sub (.k (.int .u64 7)) (.s 32)⟩,
    ⟨none, [], none, .mv 4 (.s 33)⟩]) (.skip)
def c_spec_l1Sink_bit_18 : VC :=
  .d 6 [(0, ⟨none, [], none, .mv 34 (.s 0)⟩),
    (1, ⟨none, [], none, .nck 35 (.s 34)⟩),
    (2, ⟨none, [], none, .fadr 36 (.s 35) 1⟩),
    (3, ⟨none, [], none, .ld 37 (.s 36) 1 false⟩),
    (4, ⟨none, [], none, .mv 38 (.s 0)⟩),
    (5, ⟨none, [], none, .nck 39 (.s 38)⟩),
    (6, ⟨none, [], none, .fadr 40 (.s 39) 2⟩),
    (7, ⟨none, [], none, .ld 41 (.s 40) 1 false⟩),
    (8, ⟨none, [], none, .bin 42 .quo (.s 41) (.k (.int .i64 8))⟩),
    (9, ⟨none, [], none, .iadr 43 (.s 37) (.s 42) 1⟩),
    (10, ⟨none, [], none, .ld 44 (.s 43) 1 false⟩),
    (11, ⟨none, [], none, .mv 45 (.s 4)⟩),
    (12, ⟨none, [], none, .bin 46 .shl (.k (.int .u8 1)) (.s 45)⟩),
    (13, ⟨none, [], none, .bin 47 .or (.s 44) (.s 46)⟩),
    (14, ⟨none, [], none, .iadr 48 (.s 37) (.s 42) 1⟩),
    (15, ⟨none, [], none, .st (.s 48) (.s 47) 1⟩)]
def c_spec_l1Sink_bit_12 : VC :=
  .seq (.seq (.r 4 [⟨none, [], none, .mv 28 (.s 0)⟩,
    ⟨none, [], none, .nck 29 (.s 28)⟩,
    ⟨none, [], none, .fadr 30 (.s 29) 0⟩,
    ⟨none, [], none, .ld 31 (.s 30) 1 false⟩]) c_spec_l1Sink_bit_15) (.kp [0, 4] c_spec_l1Sink_bit_18)
def c_spec_l1Sink_bit_9 : VC :=
  .ite (.s 21) (.seq (.r 3 [⟨none, [], none, .mv 22 (.s 0)⟩,
    ⟨none, [], none, .nck 23 (.s 22)⟩,
    ⟨none, [], none, .fadr 24 (.s 23) 2⟩,
    ⟨none, [], none, .ld 25 (.s 24) 1 false⟩,
    ⟨none, [], none, .bin 26 .rem (.s 25) (.k (.int .i64 8))⟩,
    ⟨none, [], none, .conv 27 .u64 (.s 26)⟩,
    ⟨none, [], none, .mv 4 (.s 27)⟩]) c_spec_l1Sink_bit_12) (.skip)
def c_spec_l1Sink_bit_20 : VC :=
  .r 7 [⟨none, [], none, .mv 49 (.s 0)⟩,
    ⟨none, [], none, .nck 50 (.s 49)⟩,
    ⟨none, [], none, .fadr 51 (.s 50) 2⟩,
    ⟨none, [], none, .ld 52 (.s 51) 1 false⟩,
    ⟨none, [], none, .bin 53 .add (.s 52) (.k (.int .i64 1))⟩,
    ⟨none, [], none, .nck 54 (.s 49)⟩,
    ⟨none, [], none, .fadr 55 (.s 54) 2⟩,
    ⟨none, [], none, .st (.s 55) (.s 53) 1⟩]
def c_spec_l1Sink_bit_6 : VC :=
  .seq (.seq (.r 2 [⟨none, [], none, .mv 20 (.s 1)⟩,
    ⟨none, [], none, .bin 21 .eql (.s 20) (.k (.int .u64 1))⟩]) c_spec_l1Sink_bit_9) c_spec_l1Sink_bit_20
def c_spec_l1Sink_bit_0 : VC :=
  .seq (.seq (.r 0 [⟨none, [], none, .mv 5 (.s 0)⟩,
    ⟨none, [], none, .nck 6 (.s 5)⟩,
    ⟨none, [], none, .fadr 7 (.s 6) 2⟩,
    ⟨none, [], none, .ld 8 (.s 7) 1 false⟩,
    ⟨none, [], none, .bin 9 .rem (.s 8) (.k (.int .i64 8))⟩,
    ⟨none, [], none, .bin 10 .eql (.s 9) (.k (.int .i64 0))⟩]) c_spec_l1Sink_bit_3) (.kp [0, 1] c_spec_l1Sink_bit_6)
def vf_spec_l1Sink_bit : VF := { pm := [.mb [.sc, .own [.sc], .sc], .ro [.sc]], rm := [], nslots := 56, res := [], rc := [], code := .kp [0, 1] c_spec_l1Sink_bit_0 }
def c_spec_l1Sink_put_7 : VC :=
  .ite (.s 10) (.skip) (.exit 0)
def c_spec_l1Sink_put_17 : VC :=
  .ite (.s 18) (.r 5 [⟨none, [], none, .mv 19 (.s 1)⟩,
    ⟨none, [], none, .bin 20 .sub (.s 19) (.k (.int .i64 1))⟩,
    ⟨none, [], none, .mv 21 (.s 6)⟩,
    ⟨none, [], none, .bin 22 .sub (.s 20) (.s 21)⟩,
    ⟨none, [], none, .conv 23 .u64 (.s 22)⟩,
    ⟨none, [], none, .mv 7 (.s 23)⟩]) (.skip)
def c_spec_l1Sink_put_20 : VC :=
  .r 6 [⟨none, [], none, .mv 24 (.s 0)⟩,
    ⟨none, [], none, .mv 25 (.s 2)⟩,
    ⟨none, [], none, .mv 26 (.s 7)⟩,
    ⟨none, [], none, .bin 27 .shr (.s 25) (.s 26)⟩,
    ⟨none, [], none, .bin 28 .and (.s 27) (.k (.int .u64 1))⟩,
    ⟨none, [], none, .call 29 157 [(.s 24), (.s 28)]⟩]
def c_spec_l1Sink_put_14 : VC :=
  .seq (.seq (.r 4 [⟨none, [], none, .mv 15 (.s 0)⟩,
    ⟨none, [], none, .nck 16 (.s 15)⟩,
    ⟨none, [], none, .fadr 17 (.s 16) 0⟩,
    ⟨none, [], none, .ld 18 (.s 17) 1 false⟩]) c_spec_l1Sink_put_17) (.kp [0, 1, 2, 6, 7] c_spec_l1Sink_put_20)
def c_spec_l1Sink_put_21 : VC :=
  .r 2 [⟨none, [], none, .mv 11 (.s 6)⟩,
    ⟨none, [], none, .bin 12 .add (.s 11) (.k (.int .i64 1))⟩,
    ⟨none, [], none, .mv 6 (.s 12)⟩]
def c_spec_l1Sink_put_10 : VC :=
  .seq (.blk 1 (.seq (.r 3 [⟨none, [], none, .mv 13 (.s 6)⟩,
    ⟨none, [], none, .conv 14 .u64 (.s 13)⟩,
    ⟨none, [], none, .mv 7 (.s 14)⟩]) c_spec_l1Sink_put_14)) c_spec_l1Sink_put_21
def c_spec_l1Sink_put_4 : VC :=
  .seq (.seq (.r 1 [⟨none, [], none, .mv 8 (.s 6)⟩,
    ⟨none, [], none, .mv 9 (.s 1)⟩,
    ⟨none, [], none, .bin 10 .lss (.s 8) (.s 9)⟩]) c_spec_l1Sink_put_7) c_spec_l1Sink_put_10
def c_spec_l1Sink_put_2 : VC :=
  .blk 0 (.loop [0, 1, 2, 6] c_spec_l1Sink_put_4)
def c_spec_l1Sink_put_0 : VC :=
  .seq (.r 0 [⟨none, [], none, .mv 6 (.k (.int .i64 0))⟩]) c_spec_l1Sink_put_2
def vf_spec_l1Sink_put : VF := { pm := [.mb [.sc, .own [.sc], .sc], .ro [.sc], .ro [.sc]], rm := [], nslots := 30, res := [], rc := [], code := .kp [0, 1, 2] c_spec_l1Sink_put_0 }
def c_spec_Fold_5 : VC :=
  .ite (.s 4) (.seq (.r 2 [⟨none, [], none, .mv 5 (.s 0)⟩,
    ⟨none, [], none, .bin 6 .add (.s 5) (.k (.int .i64 1))⟩,
    ⟨none, [], none, .un 7 .neg (.s 6)⟩,
    ⟨none, [], none, .conv 8 .u64 (.s 7)⟩,
    ⟨none, [], none, .bin 9 .mul (.k (.int .u64 2)) (.s 8)⟩,
    ⟨none, [], none, .bin 10 .add (.s 9) (.k (.int .u64 1))⟩,
    ⟨none, [], none, .mv 2 (.s 10)⟩]) (.ret)) (.skip)
def c_spec_Fold_10 : VC :=
  .seq (.r 3 [⟨none, [], none, .mv 11 (.s 0)⟩,
    ⟨none, [], none, .conv 12 .u64 (.s 11)⟩,
    ⟨none, [], none, .bin 13 .mul (.k (.int .u64 2)) (.s 12)⟩,
    ⟨none, [], none, .mv 2 (.s 13)⟩]) (.ret)
def c_spec_Fold_2 : VC :=
  .seq (.seq (.r 1 [⟨none, [], none, .mv 3 (.s 0)⟩,
    ⟨none, [], none, .bin 4 .lss (.s 3) (.k (.int .i64 0))⟩]) c_spec_Fold_5) c_spec_Fold_10
def c_spec_Fold_0 : VC :=
  .seq (.r 0 [⟨none, [], none, .mv 2 (.k (.int .u64 0))⟩]) c_spec_Fold_2
def vf_spec_Fold : VF := { pm := [.ro [.sc]], rm := [.v [.sc]], nslots := 14, res := [2], rc := [], code := .kp [0] c_spec_Fold_0 }
def c_spec_l11KeyCost_19 : VC :=
  .r 5 [⟨none, [], none, .mv 14 (.s 5)⟩,
    ⟨none, [], none, .mv 15 (.s 7)⟩,
    ⟨none, [], none, .call 16 158 [(.s 15)]⟩,
    ⟨none, [], none, .mv 17 (.s 0)⟩,
    ⟨none, [], none, .conv 18 .u64 (.s 17)⟩,
    ⟨none, [], none, .bin 19 .shr (.s 16) (.s 18)⟩,
    ⟨none, [], none, .conv 20 .i64 (.s 19)⟩,
    ⟨none, [], none, .bin 21 .add (.s 20) (.k (.int .i64 1))⟩,
    ⟨none, [], none, .mv 22 (.s 0)⟩,
    ⟨none, [], none, .bin 23 .add (.s 21) (.s 22)⟩,
    ⟨none, [], none, .bin 24 .add (.s 14) (.s 23)⟩,
    ⟨none, [], none, .mv 5 (.s 24)⟩]
def c_spec_l11KeyCost_20 : VC :=
  .r 6 [⟨none, [], none, .bin 25 .add (.s 10) (.k (.int .i64 1))⟩,
    ⟨none, [], none, .mv 10 (.s 25)⟩]
def c_spec_l11KeyCost_15 : VC :=
  .seq (.blk 1 (.seq (.r 4 [⟨none, [], none, .iadr 12 (.s 8) (.s 10) 1⟩,
    ⟨none, [], none, .ld 13 (.s 12) 1 false⟩,
    ⟨none, [], none, .mv 7 (.s 13)⟩]) c_spec_l11KeyCost_19)) c_spec_l11KeyCost_20
def c_spec_l11KeyCost_11 : VC :=
  .seq (.ite (.s 11) (.skip) (.exit 0)) c_spec_l11KeyCost_15
def c_spec_l11KeyCost_9 : VC :=
  .seq (.r 3 [⟨none, [], none, .bin 11 .lss (.s 10) (.s 9)⟩]) c_spec_l11KeyCost_11
def c_spec_l11KeyCost_7 : VC :=
  .blk 0 (.loop [0, 5, 8, 9, 10] c_spec_l11KeyCost_9)
def c_spec_l11KeyCost_21 : VC :=
  .seq (.r 7 [⟨none, [], none, .mv 26 (.s 5)⟩,
    ⟨none, [], none, .mv 4 (.s 26)⟩]) (.ret)
def c_spec_l11KeyCost_4 : VC :=
  .seq (.seq (.r 2 [⟨none, [], none, .mv 8 (.s 1)⟩,
    ⟨none, [], none, .len 9 (.s 8)⟩,
    ⟨none, [], none, .mv 10 (.k (.int .i64 0))⟩]) c_spec_l11KeyCost_7) (.kp [5] c_spec_l11KeyCost_21)
def c_spec_l11KeyCost_2 : VC :=
  .seq (.r 1 [⟨none, [], none, .mv 5 (.k (.int .i64 0))⟩]) c_spec_l11KeyCost_4
def c_spec_l11KeyCost_0 : VC :=
  .seq (.r 0 [⟨none, [], none, .mv 4 (.k (.int .i64 0))⟩]) c_spec_l11KeyCost_2
def vf_spec_l11KeyCost : VF := { pm := [.ro [.sc], .ro [.ro [.sc]]], rm := [.v [.sc]], nslots := 27, res := [4], rc := [], code := .kp [0, 1] c_spec_l11KeyCost_0 }
def c_spec_l1Sink_rice_3 : VC :=
  .ite (.s 9) (.seq (.r 1 [⟨none, [], none, .mv 10 (.s 0)⟩,
    ⟨none, [], none, .mv 11 (.s 2)⟩,
    ⟨none, [], none, .conv 12 .u64 (.s 11)⟩,
    ⟨none, [], none, .call 13 73 [(.s 10), (.k (.int .i64 32)), (.s 12)]⟩]) (.ret)) (.skip)
def c_spec_l1Sink_rice_18 : VC :=
  .ite (.s 21) (.skip) (.exit 0)
def c_spec_l1Sink_rice_24 : VC :=
  .r 5 [⟨none, [], none, .mv 22 (.s 7)⟩,
    ⟨none, [], none, .bin 23 .sub (.s 22) (.k (.int .u64 1))⟩,
    ⟨none, [], none, .mv 7 (.s 23)⟩]
def c_spec_l1Sink_rice_21 : VC :=
  .seq (.blk 1 (.r 6 [⟨none, [], none, .mv 24 (.s 0)⟩,
    ⟨none, [], none, .call 25 157 [(.s 24), (.k (.int .u64 0))]⟩])) c_spec_l1Sink_rice_24
def c_spec_l1Sink_rice_15 : VC :=
  .seq (.seq (.r 4 [⟨none, [], none, .mv 20 (.s 7)⟩,
    ⟨none, [], none, .bin 21 .gtr (.s 20) (.k (.int .u64 0))⟩]) c_spec_l1Sink_rice_18) c_spec_l1Sink_rice_21
def c_spec_l1Sink_rice_13 : VC :=
  .blk 0 (.loop [0, 1, 6, 7] c_spec_l1Sink_rice_15)
def c_spec_l1Sink_rice_27 : VC :=
  .r 8 [⟨none, [], none, .mv 28 (.s 0)⟩,
    ⟨none, [], none, .mv 29 (.s 1)⟩,
    ⟨none, [], none, .mv 30 (.s 6)⟩,
    ⟨none, [], none, .call 31 73 [(.s 28), (.s 29), (.s 30)]⟩]
def c_spec_l1Sink_rice_25 : VC :=
  .seq (.r 7 [⟨none, [], none, .mv 26 (.s 0)⟩,
    ⟨none, [], none, .call 27 157 [(.s 26), (.k (.int .u64 1))]⟩]) c_spec_l1Sink_rice_27
def c_spec_l1Sink_rice_10 : VC :=
  .seq (.seq (.r 3 [⟨none, [], none, .mv 16 (.s 6)⟩,
    ⟨none, [], none, .mv 17 (.s 1)⟩,
    ⟨none, [], none, .conv 18 .u64 (.s 17)⟩,
    ⟨none, [], none, .bin 19 .shr (.s 16) (.s 18)⟩,
    ⟨none, [], none, .mv 7 (.s 19)⟩]) c_spec_l1Sink_rice_13) (.kp [0, 1, 6] c_spec_l1Sink_rice_25)
def c_spec_l1Sink_rice_8 : VC :=
  .seq (.r 2 [⟨none, [], none, .mv 14 (.s 2)⟩,
    ⟨none, [], none, .call 15 158 [(.s 14)]⟩,
    ⟨none, [], none, .mv 6 (.s 15)⟩]) c_spec_l1Sink_rice_10
def c_spec_l1Sink_rice_0 : VC :=
  .seq (.seq (.r 0 [⟨none, [], none, .mv 8 (.s 1)⟩,
    ⟨none, [], none, .bin 9 .eql (.s 8) (.k (.int .i64 25))⟩]) c_spec_l1Sink_rice_3) c_spec_l1Sink_rice_8
def vf_spec_l1Sink_rice : VF := { pm := [.mb [.sc, .own [.sc], .sc], .ro [.sc], .ro [.sc]], rm := [], nslots := 32, res := [], rc := [], code := .kp [0, 1, 2] c_spec_l1Sink_rice_0 }
def c_spec_EncodeTones_5 : VC :=
  .ite (.s 14) (.seq (.r 2 [⟨none, [], none, .nil 2 [.sc]⟩]) (.ret)) (.skip)
def c_spec_EncodeTones_50 : VC :=
  .r 14 [⟨none, [], none, .mv 50 (.s 3)⟩,
    ⟨none, [], none, .mv 51 (.s 6)⟩,
    ⟨none, [], none, .conv 52 .u64 (.s 51)⟩,
    ⟨none, [], none, .call 53 73 [(.s 50), (.k (.int .i64 4)), (.s 52)]⟩]
def c_spec_EncodeTones_51 : VC :=
  .r 15 [⟨none, [], none, .bin 54 .add (.s 46) (.k (.int .i64 1))⟩,
    ⟨none, [], none, .mv 46 (.s 54)⟩]
def c_spec_EncodeTones_46 : VC :=
  .seq (.blk 3 (.seq (.r 13 [⟨none, [], none, .iadr 48 (.s 44) (.s 46) 1⟩,
    ⟨none, [], none, .ld 49 (.s 48) 1 false⟩,
    ⟨none, [], none, .mv 6 (.s 49)⟩]) c_spec_EncodeTones_50)) c_spec_EncodeTones_51
def c_spec_EncodeTones_42 : VC :=
  .seq (.ite (.s 47) (.skip) (.exit 2)) c_spec_EncodeTones_46
def c_spec_EncodeTones_40 : VC :=
  .seq (.r 12 [⟨none, [], none, .bin 47 .lss (.s 46) (.s 45)⟩]) c_spec_EncodeTones_42
def c_spec_EncodeTones_38 : VC :=
  .blk 2 (.loop [1, 3, 4, 36, 37, 44, 45, 46] c_spec_EncodeTones_40)
def c_spec_EncodeTones_62 : VC :=
  .ite (.s 56) (.skip) (.exit 4)
def c_spec_EncodeTones_69 : VC :=
  .ite (.s 73) (.r 21 [⟨none, [], none, .mv 74 (.s 8)⟩,
    ⟨none, [], none, .mv 7 (.s 74)⟩]) (.skip)
def c_spec_EncodeTones_72 : VC :=
  .r 19 [⟨none, [], none, .mv 57 (.s 8)⟩,
    ⟨none, [], none, .bin 58 .add (.s 57) (.k (.int .i64 1))⟩,
    ⟨none, [], none, .mv 8 (.s 58)⟩]
def c_spec_EncodeTones_65 : VC :=
  .seq (.blk 5 (.seq (.d 20 [(0, ⟨none, [], none, .mv 59 (.s 8)⟩),
    (1, ⟨none, [], none, .fadr 60 (.s 1) 3⟩),
    (2, ⟨none, [], none, .ld 61 (.s 60) 1 false⟩),
    (3, ⟨none, [], none, .mv 62 (.s 4)⟩),
    (4, ⟨none, [], none, .iadr 63 (.s 61) (.s 62) 1⟩),
    (5, ⟨none, [], none, .ld 64 (.s 63) 1 false⟩),
    (6, ⟨none, [], none, .call 65 74 [(.s 59), (.s 64)]⟩),
    (7, ⟨none, [], none, .mv 66 (.s 7)⟩),
    (8, ⟨none, [], none, .fadr 67 (.s 1) 3⟩),
    (9, ⟨none, [], none, .ld 68 (.s 67) 1 false⟩),
    (10, ⟨none, [], none, .mv 69 (.s 4)⟩),
    (11, ⟨none, [], none, .iadr 70 (.s 68) (.s 69) 1⟩),
    (12, ⟨none, [], none, .ld 71 (.s 70) 1 false⟩),
    (13, ⟨none, [], none, .call 72 74 [(.s 66), (.s 71)]⟩),
    (14, ⟨none, [], none, .bin 73 .lss (.s 65) (.s 72)⟩)]) c_spec_EncodeTones_69)) c_spec_EncodeTones_72
def c_spec_EncodeTones_59 : VC :=
  .seq (.seq (.r 18 [⟨none, [], none, .mv 55 (.s 8)⟩,
    ⟨none, [], none, .bin 56 .leq (.s 55) (.k (.int .i64 16))⟩]) c_spec_EncodeTones_62) c_spec_EncodeTones_65
def c_spec_EncodeTones_57 : VC :=
  .blk 4 (.loop [1, 3, 4, 7, 8, 36, 37] c_spec_EncodeTones_59)
def c_spec_EncodeTones_89 : VC :=
  .r 26 [⟨none, [], none, .mv 89 (.s 3)⟩,
    ⟨none, [], none, .mv 90 (.s 7)⟩,
    ⟨none, [], none, .mv 91 (.s 10)⟩,
    ⟨none, [], none, .call 92 75 [(.s 89), (.s 90), (.s 91)]⟩]
def c_spec_EncodeTones_90 : VC :=
  .r 27 [⟨none, [], none, .bin 93 .add (.s 85) (.k (.int .i64 1))⟩,
    ⟨none, [], none, .mv 85 (.s 93)⟩]
def c_spec_EncodeTones_85 : VC :=
  .seq (.blk 7 (.seq (.r 25 [⟨none, [], none, .iadr 87 (.s 83) (.s 85) 1⟩,
    ⟨none, [], none, .ld 88 (.s 87) 1 false⟩,
    ⟨none, [], none, .mv 10 (.s 88)⟩]) c_spec_EncodeTones_89)) c_spec_EncodeTones_90
def c_spec_EncodeTones_81 : VC :=
  .seq (.ite (.s 86) (.skip) (.exit 6)) c_spec_EncodeTones_85
def c_spec_EncodeTones_79 : VC :=
  .seq (.r 24 [⟨none, [], none, .bin 86 .lss (.s 85) (.s 84)⟩]) c_spec_EncodeTones_81
def c_spec_EncodeTones_77 : VC :=
  .blk 6 (.loop [1, 3, 7, 36, 37, 83, 84, 85] c_spec_EncodeTones_79)
def c_spec_EncodeTones_75 : VC :=
  .seq (.r 23 [⟨none, [], none, .fadr 79 (.s 1) 3⟩,
    ⟨none, [], none, .ld 80 (.s 79) 1 false⟩,
    ⟨none, [], none, .mv 81 (.s 4)⟩,
    ⟨none, [], none, .iadr 82 (.s 80) (.s 81) 1⟩,
    ⟨none, [], none, .ld 83 (.s 82) 1 false⟩,
    ⟨none, [], none, .len 84 (.s 83)⟩,
    ⟨none, [], none, .mv 85 (.k (.int .i64 0))⟩]) c_spec_EncodeTones_77
def c_spec_EncodeTones_73 : VC :=
  .seq (.r 22 [⟨none, [], none, .mv 75 (.s 3)⟩,
    ⟨none, [], none, .mv 76 (.s 7)⟩,
    ⟨none, [], none, .conv 77 .u64 (.s 76)⟩,
    ⟨none, [], none, .call 78 73 [(.s 75), (.k (.int .i64 5)), (.s 77)]⟩]) c_spec_EncodeTones_75
def c_spec_EncodeTones_54 : VC :=
  .seq (.seq (.r 17 [⟨none, [], none, .mv 8 (.k (.int .i64 1))⟩]) c_spec_EncodeTones_57) (.kp [1, 3, 4, 7, 36, 37] c_spec_EncodeTones_73)
def c_spec_EncodeTones_52 : VC :=
  .seq (.r 16 [⟨none, [], none, .mv 7 (.k (.int .i64 0))⟩]) c_spec_EncodeTones_54
def c_spec_EncodeTones_35 : VC :=
  .seq (.seq (.r 11 [⟨none, [], none, .fadr 40 (.s 1) 4⟩,
    ⟨none, [], none, .ld 41 (.s 40) 1 false⟩,
    ⟨none, [], none, .mv 42 (.s 4)⟩,
    ⟨none, [], none, .iadr 43 (.s 41) (.s 42) 1⟩,
    ⟨none, [], none, .ld 44 (.s 43) 1 false⟩,
    ⟨none, [], none, .len 45 (.s 44)⟩,
    ⟨none, [], none, .mv 46 (.k (.int .i64 0))⟩]) c_spec_EncodeTones_38) (.kp [1, 3, 4, 36, 37] c_spec_EncodeTones_52)
def c_spec_EncodeTones_91 : VC :=
  .r 28 [⟨none, [], none, .bin 94 .add (.s 37) (.k (.int .i64 1))⟩,
    ⟨none, [], none, .mv 37 (.s 94)⟩]
def c_spec_EncodeTones_31 : VC :=
  .seq (.blk 1 (.seq (.r 10 [⟨none, [], none, .mv 39 (.s 37)⟩,
    ⟨none, [], none, .mv 4 (.s 39)⟩]) c_spec_EncodeTones_35)) (.kp [1, 3, 36, 37] c_spec_EncodeTones_91)
def c_spec_EncodeTones_27 : VC :=
  .seq (.ite (.s 38) (.skip) (.exit 0)) c_spec_EncodeTones_31
def c_spec_EncodeTones_25 : VC :=
  .seq (.r 9 [⟨none, [], none, .bin 38 .lss (.s 37) (.s 36)⟩]) c_spec_EncodeTones_27
def c_spec_EncodeTones_23 : VC :=
  .blk 0 (.loop [1, 3, 36, 37] c_spec_EncodeTones_25)
def c_spec_EncodeTones_97 : VC :=
  .ite (.s 103) (.seq (.r 31 [⟨none, [], none, .nil 2 [.sc]⟩]) (.ret)) (.skip)
def c_spec_EncodeTones_102 : VC :=
  .seq (.r 32 [⟨none, [], none, .mv 104 (.s 11)⟩,
    ⟨none, [], none, .mv 2 (.s 104)⟩]) (.ret)
def c_spec_EncodeTones_94 : VC :=
  .seq (.seq (.r 30 [⟨none, [], none, .mv 101 (.s 11)⟩,
    ⟨none, [], none, .len 102 (.s 101)⟩,
    ⟨none, [], none, .bin 103 .gtr (.s 102) (.k (.int .i64 60000))⟩]) c_spec_EncodeTones_97) c_spec_EncodeTones_102
def c_spec_EncodeTones_92 : VC :=
  .seq (.r 29 [⟨none, [], none, .lits 95 [.sc] [(.k (.int .u8 84)), (.k (.int .u8 79)), (.k (.int .u8 78)), (.k (.int .u8 49))]⟩,
    ⟨none, [], none, .mv 96 (.s 3)⟩,
    ⟨none, [], none, .nck 97 (.s 96)⟩,
    ⟨none, [], none, .fadr 98 (.s 97) 1⟩,
    ⟨none, [], none, .ld 99 (.s 98) 1 false⟩,
    ⟨none, [], none, .app 100 (.s 95) (.s 99) [.sc] 140737488355328⟩,
    ⟨none, [], none, .mv 11 (.s 100)⟩]) c_spec_EncodeTones_94
def c_spec_EncodeTones_20 : VC :=
  .seq (.seq (.r 8 [⟨none, [], none, .fadr 34 (.s 1) 3⟩,
    ⟨none, [], none, .ld 35 (.s 34) 1 false⟩,
    ⟨none, [], none, .len 36 (.s 35)⟩,
    ⟨none, [], none, .mv 37 (.k (.int .i64 0))⟩]) c_spec_EncodeTones_23) (.kp [3] c_spec_EncodeTones_92)
def c_spec_EncodeTones_18 : VC :=
  .seq (.r 7 [⟨none, [], none, .mv 32 (.s 3)⟩,
    ⟨none, [], none, .call 33 73 [(.s 32), (.k (.int .i64 4)), (.k (.int .u64 0))]⟩]) c_spec_EncodeTones_20
def c_spec_EncodeTones_16 : VC :=
  .seq (.r 6 [⟨none, [], none, .mv 27 (.s 3)⟩,
    ⟨none, [], none, .fadr 28 (.s 1) 2⟩,
    ⟨none, [], none, .ld 29 (.s 28) 1 false⟩,
    ⟨none, [], none, .conv 30 .u64 (.s 29)⟩,
    ⟨none, [], none, .call 31 73 [(.s 27), (.k (.int .i64 12)), (.s 30)]⟩]) c_spec_EncodeTones_18
def c_spec_EncodeTones_14 : VC :=
  .seq (.r 5 [⟨none, [], none, .mv 22 (.s 3)⟩,
    ⟨none, [], none, .fadr 23 (.s 1) 1⟩,
    ⟨none, [], none, .ld 24 (.s 23) 1 false⟩,
    ⟨none, [], none, .conv 25 .u64 (.s 24)⟩,
    ⟨none, [], none, .call 26 73 [(.s 22), (.k (.int .i64 4)), (.s 25)]⟩]) c_spec_EncodeTones_16
def c_spec_EncodeTones_12 : VC :=
  .seq (.r 4 [⟨none, [], none, .mv 17 (.s 3)⟩,
    ⟨none, [], none, .fadr 18 (.s 1) 0⟩,
    ⟨none, [], none, .ld 19 (.s 18) 1 false⟩,
    ⟨none, [], none, .conv 20 .u64 (.s 19)⟩,
    ⟨none, [], none, .call 21 73 [(.s 17), (.k (.int .i64 20)), (.s 20)]⟩]) c_spec_EncodeTones_14
def c_spec_EncodeTones_10 : VC :=
  .seq (.r 3 [⟨none, [], none, .bld 15 [.k (.bool false), .o [.sc], .k (.int .i64 0)] [(0, 1, (.k (.bool true)))]⟩,
    ⟨none, [], none, .box 16 (.s 15)⟩,
    ⟨none, [], none, .mv 3 (.s 16)⟩]) c_spec_EncodeTones_12
def c_spec_EncodeTones_2 : VC :=
  .seq (.seq (.r 1 [⟨none, [], none, .ld 12 (.s 1) 5 true⟩,
    ⟨none, [], none, .call 13 72 [(.s 12)]⟩,
    ⟨none, [], none, .un 14 .not (.s 13)⟩]) c_spec_EncodeTones_5) c_spec_EncodeTones_10
def c_spec_EncodeTones_0 : VC :=
  .seq (.r 0 [⟨none, [], none, .box 1 (.s 0)⟩,
    ⟨none, [], none, .nil 2 [.sc]⟩]) c_spec_EncodeTones_2
def vf_spec_EncodeTones : VF := { pm := [.ro [.sc, .sc, .sc, .ro [.ro [.sc]], .ro [.ro [.sc]]]], rm := [.v [.own [.sc]]], nslots := 105, res := [2], rc := [], code := .kp [0] c_spec_EncodeTones_0 }
def c_impl_zrange_5 : VC :=
  .ite (.s 14) (.seq (.r 2 [⟨none, [], none, .mv 8 (.k (.bool false))⟩]) (.ret)) (.skip)
def c_impl_zrange_27 : VC :=
  .ite (.s 28) (.seq (.r 7 [⟨none, [], none, .mv 8 (.k (.bool false))⟩]) (.ret)) (.skip)
def c_impl_zrange_25 : VC :=
  .seq (.r 6 [⟨none, [], none, .mv 21 (.s 10)⟩,
    ⟨none, [], none, .mv 22 (.s 1)⟩,
    ⟨none, [], none, .bin 23 .lss (.s 21) (.s 22)⟩,
    ⟨none, [], none, .mv 24 (.s 23)⟩,
    ⟨none, [], some (24, false), .mv 25 (.s 10)⟩,
    ⟨none, [], some (24, false), .mv 26 (.s 2)⟩,
    ⟨none, [], some (24, false), .bin 27 .gtr (.s 25) (.s 26)⟩,
    ⟨none, [], none, .pick 28 (.s 24) (.k (.bool true)) (.s 27)⟩]) c_impl_zrange_27
def c_impl_zrange_32 : VC :=
  .r 8 [⟨none, [], none, .bin 29 .add (.s 17) (.k (.int .i64 1))⟩,
    ⟨none, [], none, .mv 17 (.s 29)⟩]
def c_impl_zrange_21 : VC :=
  .seq (.blk 1 (.seq (.r 5 [⟨none, [], none, .iadr 19 (.s 15) (.s 17) 1⟩,
    ⟨none, [], none, .ld 20 (.s 19) 1 false⟩,
    ⟨none, [], none, .mv 10 (.s 20)⟩]) c_impl_zrange_25)) c_impl_zrange_32
def c_impl_zrange_17 : VC :=
  .seq (.ite (.s 18) (.skip) (.exit 0)) c_impl_zrange_21
def c_impl_zrange_15 : VC :=
  .seq (.r 4 [⟨none, [], none, .bin 18 .lss (.s 17) (.s 16)⟩]) c_impl_zrange_17
def c_impl_zrange_13 : VC :=
  .blk 0 (.loop [1, 2, 15, 16, 17] c_impl_zrange_15)
def c_impl_zrange_33 : VC :=
  .seq (.r 9 [⟨none, [], none, .mv 8 (.k (.bool true))⟩]) (.ret)
def c_impl_zrange_10 : VC :=
  .seq (.seq (.r 3 [⟨none, [], none, .mv 15 (.s 0)⟩,
    ⟨none, [], none, .len 16 (.s 15)⟩,
    ⟨none, [], none, .mv 17 (.k (.int .i64 0))⟩]) c_impl_zrange_13) (.kp [] c_impl_zrange_33)
def c_impl_zrange_2 : VC :=
  .seq (.seq (.r 1 [⟨none, [], none, .mv 11 (.s 0)⟩,
    ⟨none, [], none, .len 12 (.s 11)⟩,
    ⟨none, [], none, .mv 13 (.s 3)⟩,
    ⟨none, [], none, .bin 14 .gtr (.s 12) (.s 13)⟩]) c_impl_zrange_5) c_impl_zrange_10
def c_impl_zrange_0 : VC :=
  .seq (.r 0 [⟨none, [], none, .mv 8 (.k (.bool false))⟩]) c_impl_zrange_2
def vf_impl_zrange : VF := { pm := [.ro [.ro [.sc]], .ro [.sc], .ro [.sc], .ro [.sc]], rm := [.v [.sc]], nslots := 30, res := [8], rc := [], code := .kp [0, 1, 2, 3] c_impl_zrange_0 }
def c_impl_GoodTones_7 : VC :=
  .ite (.s 51) (.seq (.r 3 [⟨none, [], none, .mv 2 (.k (.bool false))⟩]) (.ret)) (.skip)
def c_impl_GoodTones_29 : VC :=
  .ite (.s 91) (.seq (.r 8 [⟨none, [], none, .mv 2 (.k (.bool false))⟩]) (.ret)) (.skip)
def c_impl_GoodTones_27 : VC :=
  .seq (.r 7 [⟨none, [], none, .fadr 58 (.s 1) 3⟩,
    ⟨none, [], none, .ld 59 (.s 58) 1 false⟩,
    ⟨none, [], none, .mv 60 (.s 4)⟩,
    ⟨none, [], none, .iadr 61 (.s 59) (.s 60) 1⟩,
    ⟨none, [], none, .ld 62 (.s 61) 1 false⟩,
    ⟨none, [], none, .len 63 (.s 62)⟩,
    ⟨none, [], none, .bin 64 .neq (.s 63) (.k (.int .i64 16))⟩,
    ⟨none, [], none, .mv 65 (.s 64)⟩,
    ⟨none, [], some (65, false), .fadr 66 (.s 1) 3⟩,
    ⟨none, [], some (65, false), .ld 67 (.s 66) 1 false⟩,
    ⟨none, [], some (65, false), .mv 68 (.s 4)⟩,
    ⟨none, [], some (65, false), .iadr 69 (.s 67) (.s 68) 1⟩,
    ⟨none, [], some (65, false), .ld 70 (.s 69) 1 false⟩,
    ⟨none, [], some (65, false), .call 71 115 [(.s 70), (.k (.int .i64 (-1048576))), (.k (.int .i64 1048575)), (.k (.int .i64 16))]⟩,
    ⟨none, [], some (65, false), .un 72 .not (.s 71)⟩,
    ⟨none, [], none, .pick 73 (.s 65) (.k (.bool true)) (.s 72)⟩,
    ⟨none, [], none, .mv 74 (.s 73)⟩,
    ⟨none, [], some (74, false), .fadr 75 (.s 1) 4⟩,
    ⟨none, [], some (74, false), .ld 76 (.s 75) 1 false⟩,
    ⟨none, [], some (74, false), .mv 77 (.s 4)⟩,
    ⟨none, [], some (74, false), .iadr 78 (.s 76) (.s 77) 1⟩,
    ⟨none, [], some (74, false), .ld 79 (.s 78) 1 false⟩,
    ⟨none, [], some (74, false), .len 80 (.s 79)⟩,
    ⟨none, [], some (74, false), .bin 81 .neq (.s 80) (.k (.int .i64 8))⟩,
    ⟨none, [], none, .pick 82 (.s 74) (.k (.bool true)) (.s 81)⟩,
    ⟨none, [], none, .mv 83 (.s 82)⟩,
    ⟨none, [], some (83, false), .fadr 84 (.s 1) 4⟩,
    ⟨none, [], some (83, false), .ld 85 (.s 84) 1 false⟩,
    ⟨none, [], some (83, false), .mv 86 (.s 4)⟩,
    ⟨none, [], some (83, false), .iadr 87 (.s 85) (.s 86) 1⟩,
    ⟨none, [], some (83, false), .ld 88 (.s 87) 1 false⟩,
    ⟨none, [], some (83, false), .call 89 115 [(.s 88), (.k (.int .i64 0)), (.k (.int .i64 12)), (.k (.int .i64 8))]⟩,
    ⟨none, [], some (83, false), .un 90 .not (.s 89)⟩,
    ⟨none, [], none, .pick 91 (.s 83) (.k (.bool true)) (.s 90)⟩]) c_impl_GoodTones_29
def c_impl_GoodTones_34 : VC :=
  .r 9 [⟨none, [], none, .bin 92 .add (.s 55) (.k (.int .i64 1))⟩,
    ⟨none, [], none, .mv 55 (.s 92)⟩]
def c_impl_GoodTones_23 : VC :=
  .seq (.blk 1 (.seq (.r 6 [⟨none, [], none, .mv 57 (.s 55)⟩,
    ⟨none, [], none, .mv 4 (.s 57)⟩]) c_impl_GoodTones_27)) c_impl_GoodTones_34
def c_impl_GoodTones_19 : VC :=
  .seq (.ite (.s 56) (.skip) (.exit 0)) c_impl_GoodTones_23
def c_impl_GoodTones_17 : VC :=
  .seq (.r 5 [⟨none, [], none, .bin 56 .lss (.s 55) (.s 54)⟩]) c_impl_GoodTones_19
def c_impl_GoodTones_15 : VC :=
  .blk 0 (.loop [1, 54, 55] c_impl_GoodTones_17)
def c_impl_GoodTones_35 : VC :=
  .seq (.r 10 [⟨none, [], none, .mv 2 (.k (.bool true))⟩]) (.ret)
def c_impl_GoodTones_12 : VC :=
  .seq (.seq (.r 4 [⟨none, [], none, .fadr 52 (.s 1) 3⟩,
    ⟨none, [], none, .ld 53 (.s 52) 1 false⟩,
    ⟨none, [], none, .len 54 (.s 53)⟩,
    ⟨none, [], none, .mv 55 (.k (.int .i64 0))⟩]) c_impl_GoodTones_15) (.kp [] c_impl_GoodTones_35)
def c_impl_GoodTones_4 : VC :=
  .seq (.seq (.r 2 [⟨none, [], none, .fadr 10 (.s 1) 0⟩,
    ⟨none, [], none, .ld 11 (.s 10) 1 false⟩,
    ⟨none, [], none, .bin 12 .lss (.s 11) (.k (.int .i64 1))⟩,
    ⟨none, [], none, .mv 13 (.s 12)⟩,
    ⟨none, [], some (13, false), .fadr 14 (.s 1) 0⟩,
    ⟨none, [], some (13, false), .ld 15 (.s 14) 1 false⟩,
    ⟨none, [], some (13, false), .bin 16 .gtr (.s 15) (.k (.int .i64 1000000))⟩,
    ⟨none, [], none, .pick 17 (.s 13) (.k (.bool true)) (.s 16)⟩,
    ⟨none, [], none, .mv 18 (.s 17)⟩,
    ⟨none, [], some (18, false), .fadr 19 (.s 1) 1⟩,
    ⟨none, [], some (18, false), .ld 20 (.s 19) 1 false⟩,
    ⟨none, [], some (18, false), .bin 21 .lss (.s 20) (.k (.int .i64 0))⟩,
    ⟨none, [], none, .pick 22 (.s 18) (.k (.bool true)) (.s 21)⟩,
    ⟨none, [], none, .mv 23 (.s 22)⟩,
    ⟨none, [], some (23, false), .fadr 24 (.s 1) 1⟩,
    ⟨none, [], some (23, false), .ld 25 (.s 24) 1 false⟩,
    ⟨none, [], some (23, false), .bin 26 .gtr (.s 25) (.k (.int .i64 15))⟩,
    ⟨none, [], none, .pick 27 (.s 23) (.k (.bool true)) (.s 26)⟩,
    ⟨none, [], none, .mv 28 (.s 27)⟩,
    ⟨none, [], some (28, false), .fadr 29 (.s 1) 2⟩,
    ⟨none, [], some (28, false), .ld 30 (.s 29) 1 false⟩,
    ⟨none, [], some (28, false), .bin 31 .lss (.s 30) (.k (.int .i64 0))⟩,
    ⟨none, [], none, .pick 32 (.s 28) (.k (.bool true)) (.s 31)⟩,
    ⟨none, [], none, .mv 33 (.s 32)⟩,
    ⟨none, [], some (33, false), .fadr 34 (.s 1) 2⟩,
    ⟨none, [], some (33, false), .ld 35 (.s 34) 1 false⟩,
    ⟨none, [], some (33, false), .bin 36 .gtr (.s 35) (.k (.int .i64 4000))⟩,
    ⟨none, [], none, .pick 37 (.s 33) (.k (.bool true)) (.s 36)⟩,
    ⟨none, [], none, .mv 38 (.s 37)⟩,
    ⟨none, [], some (38, false), .fadr 39 (.s 1) 3⟩,
    ⟨none, [], some (38, false), .ld 40 (.s 39) 1 false⟩,
    ⟨none, [], some (38, false), .len 41 (.s 40)⟩,
    ⟨none, [], some (38, false), .mv 42 (.s 3)⟩,
    ⟨none, [], some (38, false), .bin 43 .neq (.s 41) (.s 42)⟩,
    ⟨none, [], none, .pick 44 (.s 38) (.k (.bool true)) (.s 43)⟩,
    ⟨none, [], none, .mv 45 (.s 44)⟩,
    ⟨none, [], some (45, false), .fadr 46 (.s 1) 4⟩,
    ⟨none, [], some (45, false), .ld 47 (.s 46) 1 false⟩,
    ⟨none, [], some (45, false), .len 48 (.s 47)⟩,
    ⟨none, [], some (45, false), .mv 49 (.s 3)⟩,
    ⟨none, [], some (45, false), .bin 50 .neq (.s 48) (.s 49)⟩,
    ⟨none, [], none, .pick 51 (.s 45) (.k (.bool true)) (.s 50)⟩]) c_impl_GoodTones_7) c_impl_GoodTones_12
def c_impl_GoodTones_2 : VC :=
  .seq (.r 1 [⟨none, [], none, .fadr 5 (.s 1) 2⟩,
    ⟨none, [], none, .ld 6 (.s 5) 1 false⟩,
    ⟨none, [], none, .bin 7 .add (.s 6) (.k (.int .i64 15))⟩,
    ⟨none, [], none, .bin 8 .quo (.s 7) (.k (.int .i64 16))⟩,
    ⟨none, [], none, .bin 9 .add (.s 8) (.k (.int .i64 1))⟩,
    ⟨none, [], none, .mv 3 (.s 9)⟩]) c_impl_GoodTones_4
def c_impl_GoodTones_0 : VC :=
  .seq (.r 0 [⟨none, [], none, .box 1 (.s 0)⟩,
    ⟨none, [], none, .mv 2 (.k (.bool false))⟩]) c_impl_GoodTones_2
def vf_impl_GoodTones : VF := { pm := [.ro [.sc, .sc, .sc, .ro [.ro [.sc]], .ro [.ro [.sc]]]], rm := [.v [.sc]], nslots := 93, res := [2], rc := [], code := .kp [0] c_impl_GoodTones_0 }
def c_impl_zbits_bit_3 : VC :=
  .ite (.s 9) (.r 1 [⟨none, [], none, .mv 10 (.s 0)⟩,
    ⟨none, [], none, .mv 11 (.s 0)⟩,
    ⟨none, [], none, .nck 12 (.s 11)⟩,
    ⟨none, [], none, .fadr 13 (.s 12) 0⟩,
    ⟨none, [], none, .ld 14 (.s 13) 1 false⟩,
    ⟨none, [], none, .lits 15 [.sc] [(.k (.int .u8 0))]⟩,
    ⟨none, [], none, .app 16 (.s 14) (.s 15) [.sc] 140737488355328⟩,
    ⟨none, [], none, .nck 17 (.s 10)⟩,
    ⟨none, [], none, .fadr 18 (.s 17) 0⟩,
    ⟨none, [], none, .st (.s 18) (.s 16) 1⟩]) (.skip)
def c_impl_zbits_bit_8 : VC :=
  .r 3 [⟨none, [], none, .mv 41 (.s 0)⟩,
    ⟨none, [], none, .nck 42 (.s 41)⟩,
    ⟨none, [], none, .fadr 43 (.s 42) 1⟩,
    ⟨none, [], none, .ld 44 (.s 43) 1 false⟩,
    ⟨none, [], none, .bin 45 .add (.s 44) (.k (.int .i64 1))⟩,
    ⟨none, [], none, .nck 46 (.s 41)⟩,
    ⟨none, [], none, .fadr 47 (.s 46) 1⟩,
    ⟨none, [], none, .st (.s 47) (.s 45) 1⟩]
def c_impl_zbits_bit_6 : VC :=
  .seq (.d 2 [(0, ⟨none, [], none, .mv 19 (.s 0)⟩),
    (1, ⟨none, [], none, .nck 20 (.s 19)⟩),
    (2, ⟨none, [], none, .fadr 21 (.s 20) 0⟩),
    (3, ⟨none, [], none, .ld 22 (.s 21) 1 false⟩),
    (4, ⟨none, [], none, .mv 23 (.s 0)⟩),
    (5, ⟨none, [], none, .nck 24 (.s 23)⟩),
    (6, ⟨none, [], none, .fadr 25 (.s 24) 1⟩),
    (7, ⟨none, [], none, .ld 26 (.s 25) 1 false⟩),
    (8, ⟨none, [], none, .bin 27 .quo (.s 26) (.k (.int .i64 8))⟩),
    (9, ⟨none, [], none, .iadr 28 (.s 22) (.s 27) 1⟩),
    (10, ⟨none, [], none, .ld 29 (.s 28) 1 false⟩),
    (11, ⟨none, [], none, .mv 30 (.s 1)⟩),
    (12, ⟨none, [], none, .conv 31 .u8 (.s 30)⟩),
    (13, ⟨none, [], none, .mv 32 (.s 0)⟩),
    (14, ⟨none, [], none, .nck 33 (.s 32)⟩),
    (15, ⟨none, [], none, .fadr 34 (.s 33) 1⟩),
    (16, ⟨none, [], none, .ld 35 (.s 34) 1 false⟩),
    (17, ⟨none, [], none, .bin 36 .rem (.s 35) (.k (.int .i64 8))⟩),
    (18, ⟨none, [], none, .bin 37 .sub (.k (.int .i64 7)) (.s 36)⟩),
    (19, ⟨none, [], none, .bin 38 .shl (.s 31) (.s 37)⟩),
    (20, ⟨none, [], none, .bin 39 .or (.s 29) (.s 38)⟩),
    (21, ⟨none, [], none, .iadr 40 (.s 22) (.s 27) 1⟩),
    (22, ⟨none, [], none, .st (.s 40) (.s 39) 1⟩)]) c_impl_zbits_bit_8
def c_impl_zbits_bit_0 : VC :=
  .seq (.seq (.r 0 [⟨none, [], none, .mv 4 (.s 0)⟩,
    ⟨none, [], none, .nck 5 (.s 4)⟩,
    ⟨none, [], none, .fadr 6 (.s 5) 1⟩,
    ⟨none, [], none, .ld 7 (.s 6) 1 false⟩,
    ⟨none, [], none, .bin 8 .rem (.s 7) (.k (.int .i64 8))⟩,
    ⟨none, [], none, .bin 9 .eql (.s 8) (.k (.int .i64 0))⟩]) c_impl_zbits_bit_3) (.kp [0, 1] c_impl_zbits_bit_6)
def vf_impl_zbits_bit : VF := { pm := [.mb [.own [.sc], .sc], .ro [.sc]], rm := [], nslots := 48, res := [], rc := [], code := .kp [0, 1] c_impl_zbits_bit_0 }
def c_impl_zbits_put_7 : VC :=
  .ite (.s 10) (.skip) (.exit 0)
def c_impl_zbits_put_13 : VC :=
  .r 2 [⟨none, [], none, .mv 11 (.s 6)⟩,
    ⟨none, [], none, .bin 12 .sub (.s 11) (.k (.int .i64 1))⟩,
    ⟨none, [], none, .mv 6 (.s 12)⟩]
def c_impl_zbits_put_10 : VC :=
  .seq (.blk 1 (.r 3 [⟨none, [], none, .mv 13 (.s 0)⟩,
    ⟨none, [], none, .mv 14 (.s 2)⟩,
    ⟨none, [], none, .mv 15 (.s 6)⟩,
    ⟨none, [], none, .bin 16 .shr (.s 14) (.s 15)⟩,
    ⟨none, [], none, .bin 17 .and (.s 16) (.k (.int .u64 1))⟩,
    ⟨none, [], none, .conv 18 .i64 (.s 17)⟩,
    ⟨none, [], none, .call 19 159 [(.s 13), (.s 18)]⟩])) c_impl_zbits_put_13
def c_impl_zbits_put_4 : VC :=
  .seq (.seq (.r 1 [⟨none, [], none, .mv 9 (.s 6)⟩,
    ⟨none, [], none, .bin 10 .geq (.s 9) (.k (.int .i64 0))⟩]) c_impl_zbits_put_7) c_impl_zbits_put_10
def c_impl_zbits_put_2 : VC :=
  .blk 0 (.loop [0, 2, 6] c_impl_zbits_put_4)
def c_impl_zbits_put_0 : VC :=
  .seq (.r 0 [⟨none, [], none, .mv 7 (.s 1)⟩,
    ⟨none, [], none, .bin 8 .sub (.s 7) (.k (.int .i64 1))⟩,
    ⟨none, [], none, .mv 6 (.s 8)⟩]) c_impl_zbits_put_2
def vf_impl_zbits_put : VF := { pm := [.mb [.own [.sc], .sc], .ro [.sc], .ro [.sc]], rm := [], nslots := 20, res := [], rc := [], code := .kp [0, 1, 2] c_impl_zbits_put_0 }
def c_impl_Fold_2 : VC :=
  .seq (.r 1 [⟨none, [], none, .mv 3 (.s 0)⟩,
    ⟨none, [], none, .conv 4 .u64 (.s 3)⟩,
    ⟨none, [], none, .bin 5 .shl (.s 4) (.k (.int .u64 1))⟩,
    ⟨none, [], none, .mv 6 (.s 0)⟩,
    ⟨none, [], none, .bin 7 .shr (.s 6) (.k (.int .u64 63))⟩,
    ⟨none, [], none, .conv 8 .u64 (.s 7)⟩,
    ⟨none, [], none, .bin 9 .xor (.s 5) (.s 8)⟩,
    ⟨none, [], none, .mv 2 (.s 9)⟩]) (.ret)
def c_impl_Fold_0 : VC :=
  .seq (.r 0 [⟨none, [], none, .mv 2 (.k (.int .u64 0))⟩]) c_impl_Fold_2
def vf_impl_Fold : VF := { pm := [.ro [.sc]], rm := [.v [.sc]], nslots := 10, res := [2], rc := [], code := .kp [0] c_impl_Fold_0 }
def c_impl_zkeyCost_5 : VC :=
  .ite (.s 9) (.seq (.r 2 [⟨none, [], none, .mv 10 (.s 1)⟩,
    ⟨none, [], none, .len 11 (.s 10)⟩,
    ⟨none, [], none, .bin 12 .mul (.k (.int .i64 32)) (.s 11)⟩,
    ⟨none, [], none, .bin 13 .add (.k (.int .i64 5)) (.s 12)⟩,
    ⟨none, [], none, .mv 4 (.s 13)⟩]) (.ret)) (.skip)
def c_impl_zkeyCost_27 : VC :=
  .r 7 [⟨none, [], none, .mv 20 (.s 5)⟩,
    ⟨none, [], none, .mv 21 (.s 7)⟩,
    ⟨none, [], none, .call 22 141 [(.s 21)]⟩,
    ⟨none, [], none, .mv 23 (.s 0)⟩,
    ⟨none, [], none, .bin 24 .shr (.s 22) (.s 23)⟩,
    ⟨none, [], none, .conv 25 .i64 (.s 24)⟩,
    ⟨none, [], none, .bin 26 .add (.s 25) (.k (.int .i64 1))⟩,
    ⟨none, [], none, .mv 27 (.s 0)⟩,
    ⟨none, [], none, .bin 28 .add (.s 26) (.s 27)⟩,
    ⟨none, [], none, .bin 29 .add (.s 20) (.s 28)⟩,
    ⟨none, [], none, .mv 5 (.s 29)⟩]
def c_impl_zkeyCost_28 : VC :=
  .r 8 [⟨none, [], none, .bin 30 .add (.s 16) (.k (.int .i64 1))⟩,
    ⟨none, [], none, .mv 16 (.s 30)⟩]
def c_impl_zkeyCost_23 : VC :=
  .seq (.blk 1 (.seq (.r 6 [⟨none, [], none, .iadr 18 (.s 14) (.s 16) 1⟩,
    ⟨none, [], none, .ld 19 (.s 18) 1 false⟩,
    ⟨none, [], none, .mv 7 (.s 19)⟩]) c_impl_zkeyCost_27)) c_impl_zkeyCost_28
def c_impl_zkeyCost_19 : VC :=
  .seq (.ite (.s 17) (.skip) (.exit 0)) c_impl_zkeyCost_23
def c_impl_zkeyCost_17 : VC :=
  .seq (.r 5 [⟨none, [], none, .bin 17 .lss (.s 16) (.s 15)⟩]) c_impl_zkeyCost_19
def c_impl_zkeyCost_15 : VC :=
  .blk 0 (.loop [0, 5, 14, 15, 16] c_impl_zkeyCost_17)
def c_impl_zkeyCost_29 : VC :=
  .seq (.r 9 [⟨none, [], none, .mv 31 (.s 5)⟩,
    ⟨none, [], none, .mv 4 (.s 31)⟩]) (.ret)
def c_impl_zkeyCost_12 : VC :=
  .seq (.seq (.r 4 [⟨none, [], none, .mv 14 (.s 1)⟩,
    ⟨none, [], none, .len 15 (.s 14)⟩,
    ⟨none, [], none, .mv 16 (.k (.int .i64 0))⟩]) c_impl_zkeyCost_15) (.kp [5] c_impl_zkeyCost_29)
def c_impl_zkeyCost_10 : VC :=
  .seq (.r 3 [⟨none, [], none, .mv 5 (.k (.int .i64 5))⟩]) c_impl_zkeyCost_12
def c_impl_zkeyCost_2 : VC :=
  .seq (.seq (.r 1 [⟨none, [], none, .mv 8 (.s 0)⟩,
    ⟨none, [], none, .bin 9 .eql (.s 8) (.k (.int .i64 25))⟩]) c_impl_zkeyCost_5) c_impl_zkeyCost_10
def c_impl_zkeyCost_0 : VC :=
  .seq (.r 0 [⟨none, [], none, .mv 4 (.k (.int .i64 0))⟩]) c_impl_zkeyCost_2
def vf_impl_zkeyCost : VF := { pm := [.ro [.sc], .ro [.ro [.sc]]], rm := [.v [.sc]], nslots := 32, res := [4], rc := [], code := .kp [0, 1] c_impl_zkeyCost_0 }
def c_impl_zbits_rice_16 : VC :=
  .r 4 [⟨none, [], none, .bin 16 .add (.s 12) (.k (.int .u64 1))⟩,
    ⟨none, [], none, .mv 12 (.s 16)⟩]
def c_impl_zbits_rice_13 : VC :=
  .seq (.blk 1 (.r 3 [⟨none, [], none, .mv 14 (.s 0)⟩,
    ⟨none, [], none, .call 15 159 [(.s 14), (.k (.int .i64 0))]⟩])) c_impl_zbits_rice_16
def c_impl_zbits_rice_9 : VC :=
  .seq (.ite (.s 13) (.skip) (.exit 0)) c_impl_zbits_rice_13
def c_impl_zbits_rice_7 : VC :=
  .seq (.r 2 [⟨none, [], none, .bin 13 .lss (.s 12) (.s 11)⟩]) c_impl_zbits_rice_9
def c_impl_zbits_rice_5 : VC :=
  .blk 0 (.loop [0, 2, 6, 11, 12] c_impl_zbits_rice_7)
def c_impl_zbits_rice_19 : VC :=
  .r 6 [⟨none, [], none, .mv 19 (.s 0)⟩,
    ⟨none, [], none, .mv 20 (.s 2)⟩,
    ⟨none, [], none, .mv 21 (.s 6)⟩,
    ⟨none, [], none, .call 22 78 [(.s 19), (.s 20), (.s 21)]⟩]
def c_impl_zbits_rice_17 : VC :=
  .seq (.r 5 [⟨none, [], none, .mv 17 (.s 0)⟩,
    ⟨none, [], none, .call 18 159 [(.s 17), (.k (.int .i64 1))]⟩]) c_impl_zbits_rice_19
def c_impl_zbits_rice_2 : VC :=
  .seq (.seq (.r 1 [⟨none, [], none, .mv 9 (.s 6)⟩,
    ⟨none, [], none, .mv 10 (.s 2)⟩,
    ⟨none, [], none, .bin 11 .shr (.s 9) (.s 10)⟩,
    ⟨none, [], none, .mv 12 (.k (.int .u64 0))⟩]) c_impl_zbits_rice_5) (.kp [0, 2, 6] c_impl_zbits_rice_17)
def c_impl_zbits_rice_0 : VC :=
  .seq (.r 0 [⟨none, [], none, .mv 7 (.s 1)⟩,
    ⟨none, [], none, .call 8 141 [(.s 7)]⟩,
    ⟨none, [], none, .mv 6 (.s 8)⟩]) c_impl_zbits_rice_2
def vf_impl_zbits_rice : VF := { pm := [.mb [.own [.sc], .sc], .ro [.sc], .ro [.sc]], rm := [], nslots := 23, res := [], rc := [], code := .kp [0, 1, 2] c_impl_zbits_rice_0 }
def c_impl_EncodeTones_5 : VC :=
  .ite (.s 18) (.seq (.r 2 [⟨none, [], none, .nil 2 [.sc]⟩]) (.ret)) (.skip)
def c_impl_EncodeTones_27 : VC :=
  .r 7 [⟨none, [], none, .mv 27 (.s 3)⟩,
    ⟨none, [], none, .mv 28 (.s 5)⟩,
    ⟨none, [], none, .conv 29 .u64 (.s 28)⟩,
    ⟨none, [], none, .call 30 78 [(.s 27), (.k (.int .i64 8)), (.s 29)]⟩]
def c_impl_EncodeTones_28 : VC :=
  .r 8 [⟨none, [], none, .bin 31 .add (.s 23) (.k (.int .i64 1))⟩,
    ⟨none, [], none, .mv 23 (.s 31)⟩]
def c_impl_EncodeTones_23 : VC :=
  .seq (.blk 1 (.seq (.r 6 [⟨none, [], none, .iadr 25 (.s 21) (.s 23) 1⟩,
    ⟨none, [], none, .ld 26 (.s 25) 1 false⟩,
    ⟨none, [], none, .mv 5 (.s 26)⟩]) c_impl_EncodeTones_27)) c_impl_EncodeTones_28
def c_impl_EncodeTones_19 : VC :=
  .seq (.ite (.s 24) (.skip) (.exit 0)) c_impl_EncodeTones_23
def c_impl_EncodeTones_17 : VC :=
  .seq (.r 5 [⟨none, [], none, .bin 24 .lss (.s 23) (.s 22)⟩]) c_impl_EncodeTones_19
def c_impl_EncodeTones_15 : VC :=
  .blk 0 (.loop [1, 3, 21, 22, 23] c_impl_EncodeTones_17)
def c_impl_EncodeTones_67 : VC :=
  .r 19 [⟨none, [], none, .mv 67 (.s 3)⟩,
    ⟨none, [], none, .mv 68 (.s 9)⟩,
    ⟨none, [], none, .conv 69 .u64 (.s 68)⟩,
    ⟨none, [], none, .call 70 78 [(.s 67), (.k (.int .i64 4)), (.s 69)]⟩]
def c_impl_EncodeTones_68 : VC :=
  .r 20 [⟨none, [], none, .bin 71 .add (.s 63) (.k (.int .i64 1))⟩,
    ⟨none, [], none, .mv 63 (.s 71)⟩]
def c_impl_EncodeTones_63 : VC :=
  .seq (.blk 5 (.seq (.r 18 [⟨none, [], none, .iadr 65 (.s 61) (.s 63) 1⟩,
    ⟨none, [], none, .ld 66 (.s 65) 1 false⟩,
    ⟨none, [], none, .mv 9 (.s 66)⟩]) c_impl_EncodeTones_67)) c_impl_EncodeTones_68
def c_impl_EncodeTones_59 : VC :=
  .seq (.ite (.s 64) (.skip) (.exit 4)) c_impl_EncodeTones_63
def c_impl_EncodeTones_57 : VC :=
  .seq (.r 17 [⟨none, [], none, .bin 64 .lss (.s 63) (.s 62)⟩]) c_impl_EncodeTones_59
def c_impl_EncodeTones_55 : VC :=
  .blk 4 (.loop [1, 3, 7, 50, 51, 52, 61, 62, 63] c_impl_EncodeTones_57)
def c_impl_EncodeTones_79 : VC :=
  .ite (.s 73) (.skip) (.exit 6)
def c_impl_EncodeTones_88 : VC :=
  .ite (.s 85) (.r 27 [⟨none, [], none, .mv 86 (.s 12)⟩,
    ⟨none, [], none, .mv 87 (.s 13)⟩,
    ⟨none, [], none, .mv 10 (.s 86)⟩,
    ⟨none, [], none, .mv 11 (.s 87)⟩]) (.skip)
def c_impl_EncodeTones_86 : VC :=
  .seq (.r 26 [⟨none, [], none, .mv 79 (.s 11)⟩,
    ⟨none, [], none, .bin 80 .lss (.s 79) (.k (.int .i64 0))⟩,
    ⟨none, [], none, .mv 81 (.s 80)⟩,
    ⟨none, [], some (81, false), .mv 82 (.s 13)⟩,
    ⟨none, [], some (81, false), .mv 83 (.s 11)⟩,
    ⟨none, [], some (81, false), .bin 84 .lss (.s 82) (.s 83)⟩,
    ⟨none, [], none, .pick 85 (.s 81) (.k (.bool true)) (.s 84)⟩]) (.kp [1, 3, 7, 10, 11, 12, 13, 50, 51, 52, 85] c_impl_EncodeTones_88)
def c_impl_EncodeTones_91 : VC :=
  .r 24 [⟨none, [], none, .mv 74 (.s 12)⟩,
    ⟨none, [], none, .bin 75 .add (.s 74) (.k (.int .i64 1))⟩,
    ⟨none, [], none, .mv 12 (.s 75)⟩]
def c_impl_EncodeTones_82 : VC :=
  .seq (.blk 7 (.seq (.r 25 [⟨none, [], none, .mv 76 (.s 12)⟩,
    ⟨none, [], none, .mv 77 (.s 7)⟩,
    ⟨none, [], none, .call 78 79 [(.s 76), (.s 77)]⟩,
    ⟨none, [], none, .mv 13 (.s 78)⟩]) c_impl_EncodeTones_86)) c_impl_EncodeTones_91
def c_impl_EncodeTones_76 : VC :=
  .seq (.seq (.r 23 [⟨none, [], none, .mv 72 (.s 12)⟩,
    ⟨none, [], none, .bin 73 .leq (.s 72) (.k (.int .i64 16))⟩]) c_impl_EncodeTones_79) c_impl_EncodeTones_82
def c_impl_EncodeTones_74 : VC :=
  .blk 6 (.loop [1, 3, 7, 10, 11, 12, 50, 51, 52] c_impl_EncodeTones_76)
def c_impl_EncodeTones_108 : VC :=
  .r 32 [⟨none, [], none, .mv 98 (.s 3)⟩,
    ⟨none, [], none, .mv 99 (.s 15)⟩,
    ⟨none, [], none, .mv 100 (.s 10)⟩,
    ⟨none, [], none, .call 101 80 [(.s 98), (.s 99), (.s 100)]⟩]
def c_impl_EncodeTones_109 : VC :=
  .r 33 [⟨none, [], none, .bin 102 .add (.s 94) (.k (.int .i64 1))⟩,
    ⟨none, [], none, .mv 94 (.s 102)⟩]
def c_impl_EncodeTones_104 : VC :=
  .seq (.blk 9 (.seq (.r 31 [⟨none, [], none, .iadr 96 (.s 92) (.s 94) 1⟩,
    ⟨none, [], none, .ld 97 (.s 96) 1 false⟩,
    ⟨none, [], none, .mv 15 (.s 97)⟩]) c_impl_EncodeTones_108)) c_impl_EncodeTones_109
def c_impl_EncodeTones_100 : VC :=
  .seq (.ite (.s 95) (.skip) (.exit 8)) c_impl_EncodeTones_104
def c_impl_EncodeTones_98 : VC :=
  .seq (.r 30 [⟨none, [], none, .bin 95 .lss (.s 94) (.s 93)⟩]) c_impl_EncodeTones_100
def c_impl_EncodeTones_96 : VC :=
  .blk 8 (.loop [1, 3, 10, 50, 51, 52, 92, 93, 94] c_impl_EncodeTones_98)
def c_impl_EncodeTones_94 : VC :=
  .seq (.r 29 [⟨none, [], none, .mv 92 (.s 7)⟩,
    ⟨none, [], none, .len 93 (.s 92)⟩,
    ⟨none, [], none, .mv 94 (.k (.int .i64 0))⟩]) c_impl_EncodeTones_96
def c_impl_EncodeTones_92 : VC :=
  .seq (.r 28 [⟨none, [], none, .mv 88 (.s 3)⟩,
    ⟨none, [], none, .mv 89 (.s 10)⟩,
    ⟨none, [], none, .conv 90 .u64 (.s 89)⟩,
    ⟨none, [], none, .call 91 78 [(.s 88), (.k (.int .i64 5)), (.s 90)]⟩]) c_impl_EncodeTones_94
def c_impl_EncodeTones_71 : VC :=
  .seq (.seq (.r 22 [⟨none, [], none, .mv 12 (.k (.int .i64 0))⟩]) c_impl_EncodeTones_74) (.kp [1, 3, 7, 10, 50, 51, 52] c_impl_EncodeTones_92)
def c_impl_EncodeTones_69 : VC :=
  .seq (.r 21 [⟨none, [], none, .mv 10 (.k (.int .i64 0))⟩,
    ⟨none, [], none, .mv 11 (.k (.int .i64 (-1)))⟩]) c_impl_EncodeTones_71
def c_impl_EncodeTones_52 : VC :=
  .seq (.seq (.r 16 [⟨none, [], none, .fadr 57 (.s 1) 4⟩,
    ⟨none, [], none, .ld 58 (.s 57) 1 false⟩,
    ⟨none, [], none, .mv 59 (.s 6)⟩,
    ⟨none, [], none, .iadr 60 (.s 58) (.s 59) 1⟩,
    ⟨none, [], none, .ld 61 (.s 60) 1 false⟩,
    ⟨none, [], none, .len 62 (.s 61)⟩,
    ⟨none, [], none, .mv 63 (.k (.int .i64 0))⟩]) c_impl_EncodeTones_55) (.kp [1, 3, 7, 50, 51, 52] c_impl_EncodeTones_69)
def c_impl_EncodeTones_110 : VC :=
  .r 34 [⟨none, [], none, .bin 103 .add (.s 52) (.k (.int .i64 1))⟩,
    ⟨none, [], none, .mv 52 (.s 103)⟩]
def c_impl_EncodeTones_48 : VC :=
  .seq (.blk 3 (.seq (.r 15 [⟨none, [], none, .mv 54 (.s 52)⟩,
    ⟨none, [], none, .iadr 55 (.s 50) (.s 52) 1⟩,
    ⟨none, [], none, .ld 56 (.s 55) 1 false⟩,
    ⟨none, [], none, .mv 6 (.s 54)⟩,
    ⟨none, [], none, .mv 7 (.s 56)⟩]) c_impl_EncodeTones_52)) (.kp [1, 3, 50, 51, 52] c_impl_EncodeTones_110)
def c_impl_EncodeTones_44 : VC :=
  .seq (.ite (.s 53) (.skip) (.exit 2)) c_impl_EncodeTones_48
def c_impl_EncodeTones_42 : VC :=
  .seq (.r 14 [⟨none, [], none, .bin 53 .lss (.s 52) (.s 51)⟩]) c_impl_EncodeTones_44
def c_impl_EncodeTones_40 : VC :=
  .blk 2 (.loop [1, 3, 50, 51, 52] c_impl_EncodeTones_42)
def c_impl_EncodeTones_114 : VC :=
  .ite (.s 109) (.seq (.r 36 [⟨none, [], none, .nil 2 [.sc]⟩]) (.ret)) (.skip)
def c_impl_EncodeTones_119 : VC :=
  .seq (.r 37 [⟨none, [], none, .mv 110 (.s 3)⟩,
    ⟨none, [], none, .nck 111 (.s 110)⟩,
    ⟨none, [], none, .fadr 112 (.s 111) 0⟩,
    ⟨none, [], none, .ld 113 (.s 112) 1 false⟩,
    ⟨none, [], none, .mv 2 (.s 113)⟩]) (.ret)
def c_impl_EncodeTones_111 : VC :=
  .seq (.seq (.r 35 [⟨none, [], none, .mv 104 (.s 3)⟩,
    ⟨none, [], none, .nck 105 (.s 104)⟩,
    ⟨none, [], none, .fadr 106 (.s 105) 0⟩,
    ⟨none, [], none, .ld 107 (.s 106) 1 false⟩,
    ⟨none, [], none, .len 108 (.s 107)⟩,
    ⟨none, [], none, .bin 109 .gtr (.s 108) (.k (.int .i64 60000))⟩]) c_impl_EncodeTones_114) c_impl_EncodeTones_119
def c_impl_EncodeTones_37 : VC :=
  .seq (.seq (.r 13 [⟨none, [], none, .fadr 49 (.s 1) 3⟩,
    ⟨none, [], none, .ld 50 (.s 49) 1 false⟩,
    ⟨none, [], none, .len 51 (.s 50)⟩,
    ⟨none, [], none, .mv 52 (.k (.int .i64 0))⟩]) c_impl_EncodeTones_40) (.kp [3] c_impl_EncodeTones_111)
def c_impl_EncodeTones_35 : VC :=
  .seq (.r 12 [⟨none, [], none, .mv 47 (.s 3)⟩,
    ⟨none, [], none, .call 48 78 [(.s 47), (.k (.int .i64 4)), (.k (.int .u64 0))]⟩]) c_impl_EncodeTones_37
def c_impl_EncodeTones_33 : VC :=
  .seq (.r 11 [⟨none, [], none, .mv 42 (.s 3)⟩,
    ⟨none, [], none, .fadr 43 (.s 1) 2⟩,
    ⟨none, [], none, .ld 44 (.s 43) 1 false⟩,
    ⟨none, [], none, .conv 45 .u64 (.s 44)⟩,
    ⟨none, [], none, .call 46 78 [(.s 42), (.k (.int .i64 12)), (.s 45)]⟩]) c_impl_EncodeTones_35
def c_impl_EncodeTones_31 : VC :=
  .seq (.r 10 [⟨none, [], none, .mv 37 (.s 3)⟩,
    ⟨none, [], none, .fadr 38 (.s 1) 1⟩,
    ⟨none, [], none, .ld 39 (.s 38) 1 false⟩,
    ⟨none, [], none, .conv 40 .u64 (.s 39)⟩,
    ⟨none, [], none, .call 41 78 [(.s 37), (.k (.int .i64 4)), (.s 40)]⟩]) c_impl_EncodeTones_33
def c_impl_EncodeTones_29 : VC :=
  .seq (.r 9 [⟨none, [], none, .mv 32 (.s 3)⟩,
    ⟨none, [], none, .fadr 33 (.s 1) 0⟩,
    ⟨none, [], none, .ld 34 (.s 33) 1 false⟩,
    ⟨none, [], none, .conv 35 .u64 (.s 34)⟩,
    ⟨none, [], none, .call 36 78 [(.s 32), (.k (.int .i64 20)), (.s 35)]⟩]) c_impl_EncodeTones_31
def c_impl_EncodeTones_12 : VC :=
  .seq (.seq (.r 4 [⟨none, [], none, .lits 21 [.sc] [(.k (.int .u8 84)), (.k (.int .u8 79)), (.k (.int .u8 78)), (.k (.int .u8 49))]⟩,
    ⟨none, [], none, .len 22 (.s 21)⟩,
    ⟨none, [], none, .mv 23 (.k (.int .i64 0))⟩]) c_impl_EncodeTones_15) (.kp [1, 3] c_impl_EncodeTones_29)
def c_impl_EncodeTones_10 : VC :=
  .seq (.r 3 [⟨none, [], none, .bld 19 [.o [.sc], .k (.int .i64 0)] []⟩,
    ⟨none, [], none, .box 20 (.s 19)⟩,
    ⟨none, [], none, .mv 3 (.s 20)⟩]) c_impl_EncodeTones_12
def c_impl_EncodeTones_2 : VC :=
  .seq (.seq (.r 1 [⟨none, [], none, .ld 16 (.s 1) 5 true⟩,
    ⟨none, [], none, .call 17 77 [(.s 16)]⟩,
    ⟨none, [], none, .un 18 .not (.s 17)⟩]) c_impl_EncodeTones_5) c_impl_EncodeTones_10
def c_impl_EncodeTones_0 : VC :=
  .seq (.r 0 [⟨none, [], none, .box 1 (.s 0)⟩,
    ⟨none, [], none, .nil 2 [.sc]⟩]) c_impl_EncodeTones_2
def vf_impl_EncodeTones : VF := { pm := [.ro [.sc, .sc, .sc, .ro [.ro [.sc]], .ro [.ro [.sc]]]], rm := [.v [.own [.sc]]], nslots := 114, res := [2], rc := [], code := .kp [0] c_impl_EncodeTones_0 }
def c_laws_eqByteS_5 : VC :=
  .ite (.s 10) (.seq (.r 2 [⟨none, [], none, .mv 4 (.k (.bool false))⟩]) (.ret)) (.skip)
def c_laws_eqByteS_18 : VC :=
  .ite (.s 14) (.skip) (.exit 0)
def c_laws_eqByteS_25 : VC :=
  .ite (.s 25) (.seq (.r 7 [⟨none, [], none, .mv 4 (.k (.bool false))⟩]) (.ret)) (.skip)
def c_laws_eqByteS_30 : VC :=
  .r 5 [⟨none, [], none, .mv 15 (.s 5)⟩,
    ⟨none, [], none, .bin 16 .add (.s 15) (.k (.int .i64 1))⟩,
    ⟨none, [], none, .mv 5 (.s 16)⟩]
def c_laws_eqByteS_21 : VC :=
  .seq (.blk 1 (.seq (.d 6 [(0, ⟨none, [], none, .mv 17 (.s 0)⟩),
    (1, ⟨none, [], none, .mv 18 (.s 5)⟩),
    (2, ⟨none, [], none, .iadr 19 (.s 17) (.s 18) 1⟩),
    (3, ⟨none, [], none, .ld 20 (.s 19) 1 false⟩),
    (4, ⟨none, [], none, .mv 21 (.s 1)⟩),
    (5, ⟨none, [], none, .mv 22 (.s 5)⟩),
    (6, ⟨none, [], none, .iadr 23 (.s 21) (.s 22) 1⟩),
    (7, ⟨none, [], none, .ld 24 (.s 23) 1 false⟩),
    (8, ⟨none, [], none, .bin 25 .neq (.s 20) (.s 24)⟩)]) c_laws_eqByteS_25)) c_laws_eqByteS_30
def c_laws_eqByteS_15 : VC :=
  .seq (.seq (.r 4 [⟨none, [], none, .mv 11 (.s 5)⟩,
    ⟨none, [], none, .mv 12 (.s 0)⟩,
    ⟨none, [], none, .len 13 (.s 12)⟩,
    ⟨none, [], none, .bin 14 .lss (.s 11) (.s 13)⟩]) c_laws_eqByteS_18) c_laws_eqByteS_21
def c_laws_eqByteS_13 : VC :=
  .blk 0 (.loop [0, 1, 5] c_laws_eqByteS_15)
def c_laws_eqByteS_31 : VC :=
  .seq (.r 8 [⟨none, [], none, .mv 4 (.k (.bool true))⟩]) (.ret)
def c_laws_eqByteS_10 : VC :=
  .seq (.seq (.r 3 [⟨none, [], none, .mv 5 (.k (.int .i64 0))⟩]) c_laws_eqByteS_13) (.kp [] c_laws_eqByteS_31)
def c_laws_eqByteS_2 : VC :=
  .seq (.seq (.r 1 [⟨none, [], none, .mv 6 (.s 0)⟩,
    ⟨none, [], none, .len 7 (.s 6)⟩,
    ⟨none, [], none, .mv 8 (.s 1)⟩,
    ⟨none, [], none, .len 9 (.s 8)⟩,
    ⟨none, [], none, .bin 10 .neq (.s 7) (.s 9)⟩]) c_laws_eqByteS_5) c_laws_eqByteS_10
def c_laws_eqByteS_0 : VC :=
  .seq (.r 0 [⟨none, [], none, .mv 4 (.k (.bool false))⟩]) c_laws_eqByteS_2
def vf_laws_eqByteS : VF := { pm := [.ro [.ro [.sc]], .ro [.ro [.sc]]], rm := [.v [.sc]], nslots := 26, res := [4], rc := [], code := .kp [0, 1] c_laws_eqByteS_0 }
def c_laws_eqIntS_5 : VC :=
  .ite (.s 10) (.seq (.r 2 [⟨none, [], none, .mv 4 (.k (.bool false))⟩]) (.ret)) (.skip)
def c_laws_eqIntS_18 : VC :=
  .ite (.s 14) (.skip) (.exit 0)
def c_laws_eqIntS_25 : VC :=
  .ite (.s 25) (.seq (.r 7 [⟨none, [], none, .mv 4 (.k (.bool false))⟩]) (.ret)) (.skip)
def c_laws_eqIntS_30 : VC :=
  .r 5 [⟨none, [], none, .mv 15 (.s 5)⟩,
    ⟨none, [], none, .bin 16 .add (.s 15) (.k (.int .i64 1))⟩,
    ⟨none, [], none, .mv 5 (.s 16)⟩]
def c_laws_eqIntS_21 : VC :=
  .seq (.blk 1 (.seq (.d 6 [(0, ⟨none, [], none, .mv 17 (.s 0)⟩),
    (1, ⟨none, [], none, .mv 18 (.s 5)⟩),
    (2, ⟨none, [], none, .iadr 19 (.s 17) (.s 18) 1⟩),
    (3, ⟨none, [], none, .ld 20 (.s 19) 1 false⟩),
    (4, ⟨none, [], none, .mv 21 (.s 1)⟩),
    (5, ⟨none, [], none, .mv 22 (.s 5)⟩),
    (6, ⟨none, [], none, .iadr 23 (.s 21) (.s 22) 1⟩),
    (7, ⟨none, [], none, .ld 24 (.s 23) 1 false⟩),
    (8, ⟨none, [], none, .bin 25 .neq (.s 20) (.s 24)⟩)]) c_laws_eqIntS_25)) c_laws_eqIntS_30
def c_laws_eqIntS_15 : VC :=
  .seq (.seq (.r 4 [⟨none, [], none, .mv 11 (.s 5)⟩,
    ⟨none, [], none, .mv 12 (.s 0)⟩,
    ⟨none, [], none, .len 13 (.s 12)⟩,
    ⟨none, [], none, .bin 14 .lss (.s 11) (.s 13)⟩]) c_laws_eqIntS_18) c_laws_eqIntS_21
def c_laws_eqIntS_13 : VC :=
  .blk 0 (.loop [0, 1, 5] c_laws_eqIntS_15)
def c_laws_eqIntS_31 : VC :=
  .seq (.r 8 [⟨none, [], none, .mv 4 (.k (.bool true))⟩]) (.ret)
def c_laws_eqIntS_10 : VC :=
  .seq (.seq (.r 3 [⟨none, [], none, .mv 5 (.k (.int .i64 0))⟩]) c_laws_eqIntS_13) (.kp [] c_laws_eqIntS_31)
def c_laws_eqIntS_2 : VC :=
  .seq (.seq (.r 1 [⟨none, [], none, .mv 6 (.s 0)⟩,
    ⟨none, [], none, .len 7 (.s 6)⟩,
    ⟨none, [], none, .mv 8 (.s 1)⟩,
    ⟨none, [], none, .len 9 (.s 8)⟩,
    ⟨none, [], none, .bin 10 .neq (.s 7) (.s 9)⟩]) c_laws_eqIntS_5) c_laws_eqIntS_10
def c_laws_eqIntS_0 : VC :=
  .seq (.r 0 [⟨none, [], none, .mv 4 (.k (.bool false))⟩]) c_laws_eqIntS_2
def vf_laws_eqIntS : VF := { pm := [.ro [.ro [.sc]], .ro [.ro [.sc]]], rm := [.v [.sc]], nslots := 26, res := [4], rc := [], code := .kp [0, 1] c_laws_eqIntS_0 }
def c_laws_eqIntSS_5 : VC :=
  .ite (.s 10) (.seq (.r 2 [⟨none, [], none, .mv 4 (.k (.bool false))⟩]) (.ret)) (.skip)
def c_laws_eqIntSS_18 : VC :=
  .ite (.s 14) (.skip) (.exit 0)
def c_laws_eqIntSS_25 : VC :=
  .ite (.s 26) (.seq (.r 7 [⟨none, [], none, .mv 4 (.k (.bool false))⟩]) (.ret)) (.skip)
def c_laws_eqIntSS_30 : VC :=
  .r 5 [⟨none, [], none, .mv 15 (.s 5)⟩,
    ⟨none, [], none, .bin 16 .add (.s 15) (.k (.int .i64 1))⟩,
    ⟨none, [], none, .mv 5 (.s 16)⟩]
def c_laws_eqIntSS_21 : VC :=
  .seq (.blk 1 (.seq (.d 6 [(0, ⟨none, [], none, .mv 17 (.s 0)⟩),
    (1, ⟨none, [], none, .mv 18 (.s 5)⟩),
    (2, ⟨none, [], none, .iadr 19 (.s 17) (.s 18) 1⟩),
    (3, ⟨none, [], none, .ld 20 (.s 19) 1 false⟩),
    (4, ⟨none, [], none, .mv 21 (.s 1)⟩),
    (5, ⟨none, [], none, .mv 22 (.s 5)⟩),
    (6, ⟨none, [], none, .iadr 23 (.s 21) (.s 22) 1⟩),
    (7, ⟨none, [], none, .ld 24 (.s 23) 1 false⟩),
    (8, ⟨none, [], none, .call 25 62 [(.s 20), (.s 24)]⟩),
    (9, ⟨none, [], none, .un 26 .not (.s 25)⟩)]) c_laws_eqIntSS_25)) c_laws_eqIntSS_30
def c_laws_eqIntSS_15 : VC :=
  .seq (.seq (.r 4 [⟨none, [], none, .mv 11 (.s 5)⟩,
    ⟨none, [], none, .mv 12 (.s 0)⟩,
    ⟨none, [], none, .len 13 (.s 12)⟩,
    ⟨none, [], none, .bin 14 .lss (.s 11) (.s 13)⟩]) c_laws_eqIntSS_18) c_laws_eqIntSS_21
def c_laws_eqIntSS_13 : VC :=
  .blk 0 (.loop [0, 1, 5] c_laws_eqIntSS_15)
def c_laws_eqIntSS_31 : VC :=
  .seq (.r 8 [⟨none, [], none, .mv 4 (.k (.bool true))⟩]) (.ret)
def c_laws_eqIntSS_10 : VC :=
  .seq (.seq (.r 3 [⟨none, [], none, .mv 5 (.k (.int .i64 0))⟩]) c_laws_eqIntSS_13) (.kp [] c_laws_eqIntSS_31)
def c_laws_eqIntSS_2 : VC :=
  .seq (.seq (.r 1 [⟨none, [], none, .mv 6 (.s 0)⟩,
    ⟨none, [], none, .len 7 (.s 6)⟩,
    ⟨none, [], none, .mv 8 (.s 1)⟩,
    ⟨none, [], none, .len 9 (.s 8)⟩,
    ⟨none, [], none, .bin 10 .neq (.s 7) (.s 9)⟩]) c_laws_eqIntSS_5) c_laws_eqIntSS_10
def c_laws_eqIntSS_0 : VC :=
  .seq (.r 0 [⟨none, [], none, .mv 4 (.k (.bool false))⟩]) c_laws_eqIntSS_2
def vf_laws_eqIntSS : VF := { pm := [.ro [.ro [.ro [.sc]]], .ro [.ro [.ro [.sc]]]], rm := [.v [.sc]], nslots := 27, res := [4], rc := [], code := .kp [0, 1] c_laws_eqIntSS_0 }
def c_laws_eqTones_5 : VC :=
  .ite (.s 9) (.seq (.r 2 [⟨none, [], none, .mv 4 (.k (.bool false))⟩]) (.ret)) (.skip)
def c_laws_eqTones_13 : VC :=
  .ite (.s 14) (.seq (.r 4 [⟨none, [], none, .mv 4 (.k (.bool false))⟩]) (.ret)) (.skip)
def c_laws_eqTones_21 : VC :=
  .ite (.s 19) (.seq (.r 6 [⟨none, [], none, .mv 4 (.k (.bool false))⟩]) (.ret)) (.skip)
def c_laws_eqTones_29 : VC :=
  .ite (.s 25) (.seq (.r 8 [⟨none, [], none, .mv 4 (.k (.bool false))⟩]) (.ret)) (.skip)
def c_laws_eqTones_37 : VC :=
  .ite (.s 31) (.seq (.r 10 [⟨none, [], none, .mv 4 (.k (.bool false))⟩]) (.ret)) (.skip)
def c_laws_eqTones_42 : VC :=
  .seq (.r 11 [⟨none, [], none, .mv 4 (.k (.bool true))⟩]) (.ret)
def c_laws_eqTones_34 : VC :=
  .seq (.seq (.r 9 [⟨none, [], none, .fadr 26 (.s 2) 4⟩,
    ⟨none, [], none, .ld 27 (.s 26) 1 false⟩,
    ⟨none, [], none, .fadr 28 (.s 3) 4⟩,
    ⟨none, [], none, .ld 29 (.s 28) 1 false⟩,
    ⟨none, [], none, .call 30 40 [(.s 27), (.s 29)]⟩,
    ⟨none, [], none, .un 31 .not (.s 30)⟩]) c_laws_eqTones_37) c_laws_eqTones_42
def c_laws_eqTones_26 : VC :=
  .seq (.seq (.r 7 [⟨none, [], none, .fadr 20 (.s 2) 3⟩,
    ⟨none, [], none, .ld 21 (.s 20) 1 false⟩,
    ⟨none, [], none, .fadr 22 (.s 3) 3⟩,
    ⟨none, [], none, .ld 23 (.s 22) 1 false⟩,
    ⟨none, [], none, .call 24 40 [(.s 21), (.s 23)]⟩,
    ⟨none, [], none, .un 25 .not (.s 24)⟩]) c_laws_eqTones_29) c_laws_eqTones_34
def c_laws_eqTones_18 : VC :=
  .seq (.seq (.r 5 [⟨none, [], none, .fadr 15 (.s 2) 2⟩,
    ⟨none, [], none, .ld 16 (.s 15) 1 false⟩,
    ⟨none, [], none, .fadr 17 (.s 3) 2⟩,
    ⟨none, [], none, .ld 18 (.s 17) 1 false⟩,
    ⟨none, [], none, .bin 19 .neq (.s 16) (.s 18)⟩]) c_laws_eqTones_21) c_laws_eqTones_26
def c_laws_eqTones_10 : VC :=
  .seq (.seq (.r 3 [⟨none, [], none, .fadr 10 (.s 2) 1⟩,
    ⟨none, [], none, .ld 11 (.s 10) 1 false⟩,
    ⟨none, [], none, .fadr 12 (.s 3) 1⟩,
    ⟨none, [], none, .ld 13 (.s 12) 1 false⟩,
    ⟨none, [], none, .bin 14 .neq (.s 11) (.s 13)⟩]) c_laws_eqTones_13) c_laws_eqTones_18
def c_laws_eqTones_2 : VC :=
  .seq (.seq (.r 1 [⟨none, [], none, .fadr 5 (.s 2) 0⟩,
    ⟨none, [], none, .ld 6 (.s 5) 1 false⟩,
    ⟨none, [], none, .fadr 7 (.s 3) 0⟩,
    ⟨none, [], none, .ld 8 (.s 7) 1 false⟩,
    ⟨none, [], none, .bin 9 .neq (.s 6) (.s 8)⟩]) c_laws_eqTones_5) c_laws_eqTones_10
def c_laws_eqTones_0 : VC :=
  .seq (.r 0 [⟨none, [], none, .box 2 (.s 0)⟩,
    ⟨none, [], none, .box 3 (.s 1)⟩,
    ⟨none, [], none, .mv 4 (.k (.bool false))⟩]) c_laws_eqTones_2
def vf_laws_eqTones : VF := { pm := [.ro [.sc, .sc, .sc, .ro [.ro [.sc]], .ro [.ro [.sc]]], .ro [.sc, .sc, .sc, .ro [.ro [.sc]], .ro [.ro [.sc]]]], rm := [.v [.sc]], nslots := 32, res := [4], rc := [], code := .kp [0, 1] c_laws_eqTones_0 }
def c_laws_markIntS_10 : VC :=
  .ite (.s 9) (.skip) (.exit 0)
def c_laws_markIntS_17 : VC :=
  .r 5 [⟨none, [], none, .mv 16 (.s 1)⟩,
    ⟨none, [], none, .bin 17 .add (.s 16) (.k (.int .i64 1))⟩,
    ⟨none, [], none, .mv 1 (.s 17)⟩]
def c_laws_markIntS_18 : VC :=
  .r 3 [⟨none, [], none, .mv 10 (.s 5)⟩,
    ⟨none, [], none, .bin 11 .add (.s 10) (.k (.int .i64 1))⟩,
    ⟨none, [], none, .mv 5 (.s 11)⟩]
def c_laws_markIntS_13 : VC :=
  .seq (.blk 1 (.seq (.r 4 [⟨none, [], none, .mv 12 (.s 0)⟩,
    ⟨none, [], none, .mv 13 (.s 5)⟩,
    ⟨none, [], none, .mv 14 (.s 1)⟩,
    ⟨none, [], none, .iadr 15 (.s 12) (.s 13) 1⟩,
    ⟨none, [], none, .st (.s 15) (.s 14) 1⟩]) c_laws_markIntS_17)) c_laws_markIntS_18
def c_laws_markIntS_7 : VC :=
  .seq (.seq (.r 2 [⟨none, [], none, .mv 6 (.s 5)⟩,
    ⟨none, [], none, .mv 7 (.s 0)⟩,
    ⟨none, [], none, .len 8 (.s 7)⟩,
    ⟨none, [], none, .bin 9 .lss (.s 6) (.s 8)⟩]) c_laws_markIntS_10) c_laws_markIntS_13
def c_laws_markIntS_5 : VC :=
  .blk 0 (.loop [0, 1, 5] c_laws_markIntS_7)
def c_laws_markIntS_19 : VC :=
  .seq (.r 6 [⟨none, [], none, .mv 18 (.s 1)⟩,
    ⟨none, [], none, .mv 4 (.s 18)⟩]) (.ret)
def c_laws_markIntS_2 : VC :=
  .seq (.seq (.r 1 [⟨none, [], none, .mv 5 (.k (.int .i64 0))⟩]) c_laws_markIntS_5) (.kp [0, 1] c_laws_markIntS_19)
def c_laws_markIntS_0 : VC :=
  .seq (.r 0 [⟨none, [], none, .mv 4 (.k (.int .i64 0))⟩]) c_laws_markIntS_2
def vf_laws_markIntS : VF := { pm := [.ms [.sc], .ro [.sc]], rm := [.v [.sc]], nslots := 19, res := [4], rc := [], code := .kp [0, 1] c_laws_markIntS_0 }
def c_laws_markIntSS_10 : VC :=
  .ite (.s 9) (.skip) (.exit 0)
def c_laws_markIntSS_16 : VC :=
  .r 3 [⟨none, [], none, .mv 10 (.s 5)⟩,
    ⟨none, [], none, .bin 11 .add (.s 10) (.k (.int .i64 1))⟩,
    ⟨none, [], none, .mv 5 (.s 11)⟩]
def c_laws_markIntSS_13 : VC :=
  .seq (.blk 1 (.r 4 [⟨none, [], none, .mv 12 (.s 0)⟩,
    ⟨none, [], none, .mv 13 (.s 5)⟩,
    ⟨none, [], none, .iadr 14 (.s 12) (.s 13) 1⟩,
    ⟨none, [], none, .ld 15 (.s 14) 1 false⟩,
    ⟨none, [], none, .mv 16 (.s 1)⟩,
    ⟨none, [], none, .call 17 63 [(.s 15), (.s 16)]⟩,
    ⟨none, [], none, .mv 1 (.s 17)⟩])) c_laws_markIntSS_16
def c_laws_markIntSS_7 : VC :=
  .seq (.seq (.r 2 [⟨none, [], none, .mv 6 (.s 5)⟩,
    ⟨none, [], none, .mv 7 (.s 0)⟩,
    ⟨none, [], none, .len 8 (.s 7)⟩,
    ⟨none, [], none, .bin 9 .lss (.s 6) (.s 8)⟩]) c_laws_markIntSS_10) c_laws_markIntSS_13
def c_laws_markIntSS_5 : VC :=
  .blk 0 (.loop [0, 1, 5] c_laws_markIntSS_7)
def c_laws_markIntSS_17 : VC :=
  .seq (.r 5 [⟨none, [], none, .mv 18 (.s 1)⟩,
    ⟨none, [], none, .mv 4 (.s 18)⟩]) (.ret)
def c_laws_markIntSS_2 : VC :=
  .seq (.seq (.r 1 [⟨none, [], none, .mv 5 (.k (.int .i64 0))⟩]) c_laws_markIntSS_5) (.kp [0, 1] c_laws_markIntSS_17)
def c_laws_markIntSS_0 : VC :=
  .seq (.r 0 [⟨none, [], none, .mv 4 (.k (.int .i64 0))⟩]) c_laws_markIntSS_2
def vf_laws_markIntSS : VF := { pm := [.ms [.own [.sc]], .ro [.sc]], rm := [.v [.sc]], nslots := 19, res := [4], rc := [], code := .kp [0, 1] c_laws_markIntSS_0 }
def c_laws_markTones_6 : VC :=
  .seq (.r 3 [⟨none, [], none, .mv 13 (.s 1)⟩,
    ⟨none, [], none, .mv 4 (.s 13)⟩]) (.ret)
def c_laws_markTones_4 : VC :=
  .seq (.r 2 [⟨none, [], none, .fadr 9 (.s 2) 4⟩,
    ⟨none, [], none, .ld 10 (.s 9) 1 false⟩,
    ⟨none, [], none, .mv 11 (.s 1)⟩,
    ⟨none, [], none, .call 12 43 [(.s 10), (.s 11)]⟩,
    ⟨none, [], none, .mv 1 (.s 12)⟩]) c_laws_markTones_6
def c_laws_markTones_2 : VC :=
  .seq (.r 1 [⟨none, [], none, .fadr 5 (.s 2) 3⟩,
    ⟨none, [], none, .ld 6 (.s 5) 1 false⟩,
    ⟨none, [], none, .mv 7 (.s 1)⟩,
    ⟨none, [], none, .call 8 43 [(.s 6), (.s 7)]⟩,
    ⟨none, [], none, .mv 1 (.s 8)⟩]) c_laws_markTones_4
def c_laws_markTones_0 : VC :=
  .seq (.r 0 [⟨none, [], none, .box 2 (.s 0)⟩,
    ⟨none, [], none, .mv 4 (.k (.int .i64 0))⟩]) c_laws_markTones_2
def vf_laws_markTones : VF := { pm := [.mv [.sc, .sc, .sc, .own [.own [.sc]], .own [.own [.sc]]], .ro [.sc]], rm := [.v [.sc]], nslots := 14, res := [4], rc := [], code := .kp [0, 1] c_laws_markTones_0 }
def c_laws_markByteS_10 : VC :=
  .ite (.s 9) (.skip) (.exit 0)
def c_laws_markByteS_17 : VC :=
  .r 5 [⟨none, [], none, .mv 17 (.s 1)⟩,
    ⟨none, [], none, .bin 18 .add (.s 17) (.k (.int .i64 1))⟩,
    ⟨none, [], none, .mv 1 (.s 18)⟩]
def c_laws_markByteS_18 : VC :=
  .r 3 [⟨none, [], none, .mv 10 (.s 5)⟩,
    ⟨none, [], none, .bin 11 .add (.s 10) (.k (.int .i64 1))⟩,
    ⟨none, [], none, .mv 5 (.s 11)⟩]
def c_laws_markByteS_13 : VC :=
  .seq (.blk 1 (.seq (.r 4 [⟨none, [], none, .mv 12 (.s 0)⟩,
    ⟨none, [], none, .mv 13 (.s 5)⟩,
    ⟨none, [], none, .mv 14 (.s 1)⟩,
    ⟨none, [], none, .conv 15 .u8 (.s 14)⟩,
    ⟨none, [], none, .iadr 16 (.s 12) (.s 13) 1⟩,
    ⟨none, [], none, .st (.s 16) (.s 15) 1⟩]) c_laws_markByteS_17)) c_laws_markByteS_18
def c_laws_markByteS_7 : VC :=
  .seq (.seq (.r 2 [⟨none, [], none, .mv 6 (.s 5)⟩,
    ⟨none, [], none, .mv 7 (.s 0)⟩,
    ⟨none, [], none, .len 8 (.s 7)⟩,
    ⟨none, [], none, .bin 9 .lss (.s 6) (.s 8)⟩]) c_laws_markByteS_10) c_laws_markByteS_13
def c_laws_markByteS_5 : VC :=
  .blk 0 (.loop [0, 1, 5] c_laws_markByteS_7)
def c_laws_markByteS_19 : VC :=
  .seq (.r 6 [⟨none, [], none, .mv 19 (.s 1)⟩,
    ⟨none, [], none, .mv 4 (.s 19)⟩]) (.ret)
def c_laws_markByteS_2 : VC :=
  .seq (.seq (.r 1 [⟨none, [], none, .mv 5 (.k (.int .i64 0))⟩]) c_laws_markByteS_5) (.kp [0, 1] c_laws_markByteS_19)
def c_laws_markByteS_0 : VC :=
  .seq (.r 0 [⟨none, [], none, .mv 4 (.k (.int .i64 0))⟩]) c_laws_markByteS_2
def vf_laws_markByteS : VF := { pm := [.ms [.sc], .ro [.sc]], rm := [.v [.sc]], nslots := 20, res := [4], rc := [], code := .kp [0, 1] c_laws_markByteS_0 }
def c_laws_heldByteS_10 : VC :=
  .ite (.s 9) (.skip) (.exit 0)
def c_laws_heldByteS_18 : VC :=
  .ite (.s 18) (.seq (.r 5 [⟨none, [], none, .mv 4 (.k (.int .i64 (-1)))⟩]) (.ret)) (.skip)
def c_laws_heldByteS_23 : VC :=
  .r 6 [⟨none, [], none, .mv 19 (.s 1)⟩,
    ⟨none, [], none, .bin 20 .add (.s 19) (.k (.int .i64 1))⟩,
    ⟨none, [], none, .mv 1 (.s 20)⟩]
def c_laws_heldByteS_24 : VC :=
  .r 3 [⟨none, [], none, .mv 10 (.s 5)⟩,
    ⟨none, [], none, .bin 11 .add (.s 10) (.k (.int .i64 1))⟩,
    ⟨none, [], none, .mv 5 (.s 11)⟩]
def c_laws_heldByteS_13 : VC :=
  .seq (.blk 1 (.seq (.seq (.r 4 [⟨none, [], none, .mv 12 (.s 0)⟩,
    ⟨none, [], none, .mv 13 (.s 5)⟩,
    ⟨none, [], none, .iadr 14 (.s 12) (.s 13) 1⟩,
    ⟨none, [], none, .ld 15 (.s 14) 1 false⟩,
    ⟨none, [], none, .mv 16 (.s 1)⟩,
    ⟨none, [], none, .conv 17 .u8 (.s 16)⟩,
    ⟨none, [], none, .bin 18 .neq (.s 15) (.s 17)⟩]) c_laws_heldByteS_18) c_laws_heldByteS_23)) c_laws_heldByteS_24
def c_laws_heldByteS_7 : VC :=
  .seq (.seq (.r 2 [⟨none, [], none, .mv 6 (.s 5)⟩,
    ⟨none, [], none, .mv 7 (.s 0)⟩,
    ⟨none, [], none, .len 8 (.s 7)⟩,
    ⟨none, [], none, .bin 9 .lss (.s 6) (.s 8)⟩]) c_laws_heldByteS_10) c_laws_heldByteS_13
def c_laws_heldByteS_5 : VC :=
  .blk 0 (.loop [0, 1, 5] c_laws_heldByteS_7)
def c_laws_heldByteS_25 : VC :=
  .seq (.r 7 [⟨none, [], none, .mv 21 (.s 1)⟩,
    ⟨none, [], none, .mv 4 (.s 21)⟩]) (.ret)
def c_laws_heldByteS_2 : VC :=
  .seq (.seq (.r 1 [⟨none, [], none, .mv 5 (.k (.int .i64 0))⟩]) c_laws_heldByteS_5) (.kp [1] c_laws_heldByteS_25)
def c_laws_heldByteS_0 : VC :=
  .seq (.r 0 [⟨none, [], none, .mv 4 (.k (.int .i64 0))⟩]) c_laws_heldByteS_2
def vf_laws_heldByteS : VF := { pm := [.ro [.ro [.sc]], .ro [.sc]], rm := [.v [.sc]], nslots := 22, res := [4], rc := [], code := .kp [0, 1] c_laws_heldByteS_0 }
def c_laws_FnExactEncodeTones_9 : VC :=
  .ite (.s 15) (.seq (.r 4 [⟨none, [], none, .mv 2 (.k (.bool true))⟩]) (.ret)) (.skip)
def c_laws_FnExactEncodeTones_23 : VC :=
  .ite (.s 26) (.seq (.r 9 [⟨none, [], none, .mv 2 (.k (.bool false))⟩]) (.ret)) (.skip)
def c_laws_FnExactEncodeTones_31 : VC :=
  .ite (.s 31) (.seq (.r 11 [⟨none, [], none, .mv 2 (.k (.bool false))⟩]) (.ret)) (.skip)
def c_laws_FnExactEncodeTones_43 : VC :=
  .ite (.s 42) (.seq (.r 15 [⟨none, [], none, .mv 2 (.k (.bool false))⟩]) (.ret)) (.skip)
def c_laws_FnExactEncodeTones_59 : VC :=
  .ite (.s 50) (.seq (.r 21 [⟨none, [], none, .mv 2 (.k (.bool false))⟩]) (.ret)) (.skip)
def c_laws_FnExactEncodeTones_67 : VC :=
  .ite (.s 53) (.seq (.r 23 [⟨none, [], none, .mv 2 (.k (.bool false))⟩]) (.ret)) (.skip)
def c_laws_FnExactEncodeTones_77 : VC :=
  .ite (.s 60) (.seq (.r 26 [⟨none, [], none, .mv 2 (.k (.bool false))⟩]) (.ret)) (.skip)
def c_laws_FnExactEncodeTones_89 : VC :=
  .ite (.s 65) (.seq (.r 30 [⟨none, [], none, .mv 2 (.k (.bool false))⟩]) (.ret)) (.skip)
def c_laws_FnExactEncodeTones_97 : VC :=
  .ite (.s 68) (.seq (.r 32 [⟨none, [], none, .mv 2 (.k (.bool false))⟩]) (.ret)) (.skip)
def c_laws_FnExactEncodeTones_102 : VC :=
  .seq (.r 33 [⟨none, [], none, .mv 2 (.k (.bool true))⟩]) (.ret)
def c_laws_FnExactEncodeTones_94 : VC :=
  .seq (.seq (.r 31 [⟨none, [], none, .mv 66 (.s 9)⟩,
    ⟨none, [], none, .mv 67 (.s 8)⟩,
    ⟨none, [], none, .bin 68 .neq (.s 66) (.s 67)⟩]) c_laws_FnExactEncodeTones_97) c_laws_FnExactEncodeTones_102
def c_laws_FnExactEncodeTones_86 : VC :=
  .seq (.seq (.r 29 [⟨none, [], none, .mv 64 (.s 9)⟩,
    ⟨none, [], none, .bin 65 .lss (.s 64) (.k (.int .i64 0))⟩]) c_laws_FnExactEncodeTones_89) c_laws_FnExactEncodeTones_94
def c_laws_FnExactEncodeTones_84 : VC :=
  .seq (.r 28 [⟨none, [], none, .mv 61 (.s 6)⟩,
    ⟨none, [], none, .mv 62 (.s 9)⟩,
    ⟨none, [], none, .call 63 20 [(.s 61), (.s 62)]⟩,
    ⟨none, [], none, .mv 9 (.s 63)⟩]) c_laws_FnExactEncodeTones_86
def c_laws_FnExactEncodeTones_82 : VC :=
  .seq (.r 27 [⟨none, [], none, .mv 9 (.k (.int .i64 1))⟩]) c_laws_FnExactEncodeTones_84
def c_laws_FnExactEncodeTones_74 : VC :=
  .seq (.seq (.r 25 [⟨none, [], none, .mv 57 (.s 10)⟩,
    ⟨none, [], none, .mv 58 (.s 4)⟩,
    ⟨none, [], none, .call 59 16 [(.s 57), (.s 58)]⟩,
    ⟨none, [], none, .un 60 .not (.s 59)⟩]) c_laws_FnExactEncodeTones_77) c_laws_FnExactEncodeTones_82
def c_laws_FnExactEncodeTones_72 : VC :=
  .seq (.r 24 [⟨none, [], none, .ld 54 (.s 1) 5 true⟩,
    ⟨none, [], none, .call 55 14 [(.s 54)]⟩,
    ⟨none, [], none, .call 56 15 [(.s 55)]⟩,
    ⟨none, [], none, .mv 10 (.s 56)⟩]) c_laws_FnExactEncodeTones_74
def c_laws_FnExactEncodeTones_64 : VC :=
  .seq (.seq (.r 22 [⟨none, [], none, .mv 51 (.s 9)⟩,
    ⟨none, [], none, .mv 52 (.s 8)⟩,
    ⟨none, [], none, .bin 53 .neq (.s 51) (.s 52)⟩]) c_laws_FnExactEncodeTones_67) c_laws_FnExactEncodeTones_72
def c_laws_FnExactEncodeTones_56 : VC :=
  .seq (.seq (.r 20 [⟨none, [], none, .mv 49 (.s 9)⟩,
    ⟨none, [], none, .bin 50 .lss (.s 49) (.k (.int .i64 0))⟩]) c_laws_FnExactEncodeTones_59) c_laws_FnExactEncodeTones_64
def c_laws_FnExactEncodeTones_54 : VC :=
  .seq (.r 19 [⟨none, [], none, .mv 46 (.s 6)⟩,
    ⟨none, [], none, .mv 47 (.s 9)⟩,
    ⟨none, [], none, .call 48 20 [(.s 46), (.s 47)]⟩,
    ⟨none, [], none, .mv 9 (.s 48)⟩]) c_laws_FnExactEncodeTones_56
def c_laws_FnExactEncodeTones_52 : VC :=
  .seq (.r 18 [⟨none, [], none, .mv 9 (.k (.int .i64 1))⟩]) c_laws_FnExactEncodeTones_54
def c_laws_FnExactEncodeTones_50 : VC :=
  .seq (.r 17 [⟨none, [], none, .mv 43 (.s 6)⟩,
    ⟨none, [], none, .mv 44 (.s 8)⟩,
    ⟨none, [], none, .call 45 19 [(.s 43), (.s 44)]⟩,
    ⟨none, [], none, .mv 8 (.s 45)⟩]) c_laws_FnExactEncodeTones_52
def c_laws_FnExactEncodeTones_48 : VC :=
  .seq (.r 16 [⟨none, [], none, .mv 8 (.k (.int .i64 1))⟩]) c_laws_FnExactEncodeTones_50
def c_laws_FnExactEncodeTones_40 : VC :=
  .seq (.seq (.r 14 [⟨none, [], none, .mv 35 (.s 7)⟩,
    ⟨none, [], none, .bin 36 .lss (.s 35) (.k (.int .i64 0))⟩,
    ⟨none, [], none, .mv 37 (.s 36)⟩,
    ⟨none, [], some (37, false), .mv 38 (.s 6)⟩,
    ⟨none, [], some (37, false), .mv 39 (.s 4)⟩,
    ⟨none, [], some (37, false), .call 40 16 [(.s 38), (.s 39)]⟩,
    ⟨none, [], some (37, false), .un 41 .not (.s 40)⟩,
    ⟨none, [], none, .pick 42 (.s 37) (.k (.bool true)) (.s 41)⟩]) c_laws_FnExactEncodeTones_43) c_laws_FnExactEncodeTones_48
def c_laws_FnExactEncodeTones_38 : VC :=
  .seq (.r 13 [⟨none, [], none, .ld 32 (.s 5) 5 true⟩,
    ⟨none, [], none, .mv 33 (.s 7)⟩,
    ⟨none, [], none, .call 34 18 [(.s 32), (.s 33)]⟩,
    ⟨none, [], none, .mv 7 (.s 34)⟩]) c_laws_FnExactEncodeTones_40
def c_laws_FnExactEncodeTones_36 : VC :=
  .seq (.r 12 [⟨none, [], none, .mv 7 (.k (.int .i64 1))⟩]) c_laws_FnExactEncodeTones_38
def c_laws_FnExactEncodeTones_28 : VC :=
  .seq (.seq (.d 10 [(0, ⟨none, [], none, .ld 27 (.s 5) 5 true⟩),
    (1, ⟨none, [], none, .ld 28 (.s 1) 5 true⟩),
    (2, ⟨none, [], none, .call 29 14 [(.s 28)]⟩),
    (3, ⟨none, [], none, .call 30 17 [(.s 27), (.s 29)]⟩),
    (4, ⟨none, [], none, .un 31 .not (.s 30)⟩)]) c_laws_FnExactEncodeTones_31) c_laws_FnExactEncodeTones_36
def c_laws_FnExactEncodeTones_20 : VC :=
  .seq (.seq (.r 8 [⟨none, [], none, .mv 23 (.s 6)⟩,
    ⟨none, [], none, .mv 24 (.s 4)⟩,
    ⟨none, [], none, .call 25 16 [(.s 23), (.s 24)]⟩,
    ⟨none, [], none, .un 26 .not (.s 25)⟩]) c_laws_FnExactEncodeTones_23) c_laws_FnExactEncodeTones_28
def c_laws_FnExactEncodeTones_18 : VC :=
  .seq (.r 7 [⟨none, [], none, .ld 21 (.s 5) 5 true⟩,
    ⟨none, [], none, .call 22 15 [(.s 21)]⟩,
    ⟨none, [], none, .mv 6 (.s 22)⟩]) c_laws_FnExactEncodeTones_20
def c_laws_FnExactEncodeTones_16 : VC :=
  .seq (.r 6 [⟨none, [], none, .ld 19 (.s 1) 5 true⟩,
    ⟨none, [], none, .call 20 14 [(.s 19)]⟩,
    ⟨none, [], none, .alloc 5 [.k (.int .i64 0), .k (.int .i64 0), .k (.int .i64 0), .o [.own [.sc]], .o [.own [.sc]]]⟩,
    ⟨none, [], none, .st (.s 5) (.s 20) 5⟩]) c_laws_FnExactEncodeTones_18
def c_laws_FnExactEncodeTones_14 : VC :=
  .seq (.r 5 [⟨none, [], none, .ld 16 (.s 1) 5 true⟩,
    ⟨none, [], none, .call 17 14 [(.s 16)]⟩,
    ⟨none, [], none, .call 18 13 [(.s 17)]⟩,
    ⟨none, [], none, .mv 4 (.s 18)⟩]) c_laws_FnExactEncodeTones_16
def c_laws_FnExactEncodeTones_6 : VC :=
  .seq (.seq (.r 3 [⟨none, [], none, .mv 14 (.s 3)⟩,
    ⟨none, [], none, .bin 15 .lss (.s 14) (.k (.int .i64 0))⟩]) c_laws_FnExactEncodeTones_9) c_laws_FnExactEncodeTones_14
def c_laws_FnExactEncodeTones_4 : VC :=
  .seq (.r 2 [⟨none, [], none, .ld 11 (.s 1) 5 true⟩,
    ⟨none, [], none, .mv 12 (.s 3)⟩,
    ⟨none, [], none, .call 13 12 [(.s 11), (.s 12)]⟩,
    ⟨none, [], none, .mv 3 (.s 13)⟩]) c_laws_FnExactEncodeTones_6
def c_laws_FnExactEncodeTones_2 : VC :=
  .seq (.r 1 [⟨none, [], none, .mv 3 (.k (.int .i64 1048576))⟩]) c_laws_FnExactEncodeTones_4
def c_laws_FnExactEncodeTones_0 : VC :=
  .seq (.r 0 [⟨none, [], none, .box 1 (.s 0)⟩,
    ⟨none, [], none, .mv 2 (.k (.bool false))⟩]) c_laws_FnExactEncodeTones_2
def vf_laws_FnExactEncodeTones : VF := { pm := [.ro [.sc, .sc, .sc, .ro [.ro [.sc]], .ro [.ro [.sc]]]], rm := [.v [.sc]], nslots := 69, res := [2], rc := [], code := .kp [0] c_laws_FnExactEncodeTones_0 }
def ext : FuncId → List Arg → Option FRes := fun _ _ => none
def tblL : List (FuncId × VF) := [(95, vf_laws_szIntS), (71, vf_laws_szIntSS), (12, vf_laws_szTones), (60, vf_laws_toIntS), (76, vf_laws_toIntSS), (14, vf_laws_toTones), (83, vf_spec_l11Head), (85, vf_spec_l11Slots), (156, vf_spec_l11All), (72, vf_spec_GoodTones), (157, vf_spec_l1Sink_bit), (73, vf_spec_l1Sink_put), (158, vf_spec_Fold), (74, vf_spec_l11KeyCost), (75, vf_spec_l1Sink_rice), (13, vf_spec_EncodeTones), (115, vf_impl_zrange), (77, vf_impl_GoodTones), (159, vf_impl_zbits_bit), (78, vf_impl_zbits_put), (141, vf_impl_Fold), (79, vf_impl_zkeyCost), (80, vf_impl_zbits_rice), (15, vf_impl_EncodeTones), (16, vf_laws_eqByteS), (62, vf_laws_eqIntS), (40, vf_laws_eqIntSS), (17, vf_laws_eqTones), (63, vf_laws_markIntS), (43, vf_laws_markIntSS), (18, vf_laws_markTones), (19, vf_laws_markByteS), (20, vf_laws_heldByteS), (3, vf_laws_FnExactEncodeTones)]
def tbl : FuncId → Option VF := fun f => tblL.lookup f
end Go.Proofs.V

/- printed by a program: the plain functions, the code and the proofs of one law -/
set_option linter.unusedVariables false
set_option maxRecDepth 100000
namespace Go.Proofs.V
open Go
theorem fi_laws_szIntS : funcIs Go.Proofs.Try.prog tbl 95 vf_laws_szIntS = true := by kernel_rfl
theorem fi_laws_szIntSS : funcIs Go.Proofs.Try.prog tbl 71 vf_laws_szIntSS = true := by kernel_rfl
theorem fi_laws_szTones : funcIs Go.Proofs.Try.prog tbl 12 vf_laws_szTones = true := by kernel_rfl
theorem fi_laws_toIntS : funcIs Go.Proofs.Try.prog tbl 60 vf_laws_toIntS = true := by kernel_rfl
theorem fi_laws_toIntSS : funcIs Go.Proofs.Try.prog tbl 76 vf_laws_toIntSS = true := by kernel_rfl
theorem fi_laws_toTones : funcIs Go.Proofs.Try.prog tbl 14 vf_laws_toTones = true := by kernel_rfl
theorem fi_spec_l11Head : funcIs Go.Proofs.Try.prog tbl 83 vf_spec_l11Head = true := by kernel_rfl
theorem fi_spec_l11Slots : funcIs Go.Proofs.Try.prog tbl 85 vf_spec_l11Slots = true := by kernel_rfl
theorem fi_spec_l11All : funcIs Go.Proofs.Try.prog tbl 156 vf_spec_l11All = true := by kernel_rfl
theorem fi_spec_GoodTones : funcIs Go.Proofs.Try.prog tbl 72 vf_spec_GoodTones = true := by kernel_rfl
theorem fi_spec_l1Sink_bit : funcIs Go.Proofs.Try.prog tbl 157 vf_spec_l1Sink_bit = true := by kernel_rfl
theorem fi_spec_l1Sink_put : funcIs Go.Proofs.Try.prog tbl 73 vf_spec_l1Sink_put = true := by kernel_rfl
theorem fi_spec_Fold : funcIs Go.Proofs.Try.prog tbl 158 vf_spec_Fold = true := by kernel_rfl
theorem fi_spec_l11KeyCost : funcIs Go.Proofs.Try.prog tbl 74 vf_spec_l11KeyCost = true := by kernel_rfl
theorem fi_spec_l1Sink_rice : funcIs Go.Proofs.Try.prog tbl 75 vf_spec_l1Sink_rice = true := by kernel_rfl
theorem fi_spec_EncodeTones : funcIs Go.Proofs.Try.prog tbl 13 vf_spec_EncodeTones = true := by kernel_rfl
theorem fi_impl_zrange : funcIs Go.Proofs.Try.prog tbl 115 vf_impl_zrange = true := by kernel_rfl
theorem fi_impl_GoodTones : funcIs Go.Proofs.Try.prog tbl 77 vf_impl_GoodTones = true := by kernel_rfl
theorem fi_impl_zbits_bit : funcIs Go.Proofs.Try.prog tbl 159 vf_impl_zbits_bit = true := by kernel_rfl
theorem fi_impl_zbits_put : funcIs Go.Proofs.Try.prog tbl 78 vf_impl_zbits_put = true := by kernel_rfl
theorem fi_impl_Fold : funcIs Go.Proofs.Try.prog tbl 141 vf_impl_Fold = true := by kernel_rfl
theorem fi_impl_zkeyCost : funcIs Go.Proofs.Try.prog tbl 79 vf_impl_zkeyCost = true := by kernel_rfl
theorem fi_impl_zbits_rice : funcIs Go.Proofs.Try.prog tbl 80 vf_impl_zbits_rice = true := by kernel_rfl
theorem fi_impl_EncodeTones : funcIs Go.Proofs.Try.prog tbl 15 vf_impl_EncodeTones = true := by kernel_rfl
theorem fi_laws_eqByteS : funcIs Go.Proofs.Try.prog tbl 16 vf_laws_eqByteS = true := by kernel_rfl
theorem fi_laws_eqIntS : funcIs Go.Proofs.Try.prog tbl 62 vf_laws_eqIntS = true := by kernel_rfl
theorem fi_laws_eqIntSS : funcIs Go.Proofs.Try.prog tbl 40 vf_laws_eqIntSS = true := by kernel_rfl
theorem fi_laws_eqTones : funcIs Go.Proofs.Try.prog tbl 17 vf_laws_eqTones = true := by kernel_rfl
theorem fi_laws_markIntS : funcIs Go.Proofs.Try.prog tbl 63 vf_laws_markIntS = true := by kernel_rfl
theorem fi_laws_markIntSS : funcIs Go.Proofs.Try.prog tbl 43 vf_laws_markIntSS = true := by kernel_rfl
theorem fi_laws_markTones : funcIs Go.Proofs.Try.prog tbl 18 vf_laws_markTones = true := by kernel_rfl
theorem fi_laws_markByteS : funcIs Go.Proofs.Try.prog tbl 19 vf_laws_markByteS = true := by kernel_rfl
theorem fi_laws_heldByteS : funcIs Go.Proofs.Try.prog tbl 20 vf_laws_heldByteS = true := by kernel_rfl
theorem fi_laws_FnExactEncodeTones : funcIs Go.Proofs.Try.prog tbl 3 vf_laws_FnExactEncodeTones = true := by kernel_rfl
end Go.Proofs.V
