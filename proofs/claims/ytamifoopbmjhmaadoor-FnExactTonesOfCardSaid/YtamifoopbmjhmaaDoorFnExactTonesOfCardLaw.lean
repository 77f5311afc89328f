/- The law FnExactTonesOf of the given program holds: whatever its arguments, the program answers true, and the arguments read behind the call as they read before. The package-level variables that it reads are tied to the text of the program by the card. -/
import Derived.Test.YtamifoopbmjhmaaDoorRows
import Derived.Test.YtamifoopbmjhmaaDoorFnExactTonesOfCardV4
import Derived.Test.YtamifoopbmjhmaaDoorCards
import Derived.Test.YtamifoopbmjhmaaDoorTie
import Derived.WalkKit
import Derived.ProofKit
import Derived.OpenShut
import Derived.ShutString
import Derived.ChangeOld
import Derived.Below
import Derived.SizedLaws
import Derived.KernelRfl
import Derived.LaidMore
import Derived.OpenVars
import Derived.SevenTiedAt
import Derived.Stop.Joined
namespace Go.Proofs.YtamifoopbmjhmaaDoor.fnExactTonesOf
open Go.ChangeShapes Go.WideShapes Go.ChangeAt Go.RowKit
open Go.ChangeMaps (open_string shut_string)
set_option linter.unusedVariables false
set_option linter.unusedSimpArgs false
theorem own : ownKnob Tryd.prog.godebug = none := by kernel_rfl
theorem laidOut : laidOutB Tryd.prog = true := by kernel_rfl
set_option maxRecDepth 100000 in
/-- the heap that start-up leaves meets the condition -/
theorem door_met (os : Os) (args : Array Value) : laidMetH Tryd.prog Rows.fnExactTonesOfRow.laid ((World.doorLaid Tryd.prog 27 os).forCall (fun _ _ => 0) ⟨#[], args, []⟩).memory :=
  laidMetH_of_parts3 (fuel := 8) (laidMet_of_run' 8 (by kernel_rfl) (by kernel_rfl)) (by kernel_rfl) (by kernel_rfl)
set_option maxRecDepth 100000 in
/-- what the condition tells of the cells -/
theorem of_laid {W : World} (h : laidMetH Tryd.prog Rows.fnExactTonesOfRow.laid W) : V.gI.gl ≤ W.heap.size ∧ V.gI.I W := by
  rw [MakeChecks.laidMetH_plain _ _ _ (by kernel_rfl)] at h
  obtain ⟨ps, ⟨g0, t0, cs0, f0, p0, q0, hg0, ht0, hv0, hd0, ⟨g1, t1, cs1, f1, p1, q1, hg1, ht1, hv1, hd1, _, _⟩, _⟩, _, _⟩ := h
  obtain rfl := Option.some.inj ((show Tryd.prog.globalNamed "loop.example/g00016/impl.zpairs" = some 0 by kernel_rfl).symm.trans hg0)
  obtain rfl := Option.some.inj ((show (Tryd.prog.globals[0]?).map (·.type) = some 87 by kernel_rfl).symm.trans ht0)
  have c0 := V.tab_cells (tv := V.tv_0) hg0 hv0 hd0 (V.fl_array (t := 87) (e := 86) (n := 8) (by kernel_rfl) (by kernel_rfl) (V.fl_array (t := 86) (e := 73) (n := 2) (by kernel_rfl) (by kernel_rfl) (V.fl_float (t := 73) (k := .f64) (by kernel_rfl)))) (by kernel_rfl)
  obtain rfl := Option.some.inj ((show Tryd.prog.globalNamed "loop.example/g00016/impl.zk" = some 1 by kernel_rfl).symm.trans hg1)
  obtain rfl := Option.some.inj ((show (Tryd.prog.globals[1]?).map (·.type) = some 88 by kernel_rfl).symm.trans ht1)
  have c1 := V.tab_cells (tv := V.tv_1) hg1 hv1 hd1 (V.fl_array (t := 88) (e := 3) (n := 33) (by kernel_rfl) (by kernel_rfl) (V.fl_int (t := 3) (k := .i64) (by kernel_rfl))) (by kernel_rfl)
  refine ⟨V.tab_lt (c1 0 _ (show V.tv_1[0]? = some (V.tv_1[0]?.getD undef) by kernel_rfl)), ?_⟩
  intro x hx
  simp only [List.mem_cons, List.not_mem_nil, or_false] at hx
  rcases hx with rfl | rfl
  · exact c0
  · exact c1
set_option maxRecDepth 100000 in
theorem lifted (os : Os) (started : os.Started) (H : Type) (enc : TypeId × Value → H) :
    ReturnsInHanded {} Tryd.checked os 3 .any (fun w args => (Rows.fnExactTonesOfSpec.pre enc Tryd.prog Tryd.f3 Rows.fnExactTonesOfRow.domain false w args ∧ laidMetH Tryd.prog Rows.fnExactTonesOfRow.laid w) ∧ sizedMet enc Tryd.prog Tryd.f3 (OpenSpec.ofChange Rows.fnExactTonesOfSpec) false w args) (Rows.fnExactTonesOfSpec.post enc Tryd.prog Tryd.f3 false true false false) := by
  refine returnsInHanded_of_change_and (C := Tryd.checked) (X := fun w _ => laidMetH Tryd.prog Rows.fnExactTonesOfRow.laid w) (fun _ _ _ hh h => h.of_heap hh) own started (by kernel_rfl) Tryd.func3
    (ChangeSpec.witness_shaped (enc := enc) (C := Tryd.checked) (os := os) (X := fun w _ => laidMetH Tryd.prog Rows.fnExactTonesOfRow.laid w) false (World.doorLaid Tryd.prog 27 os) #[.int .i64 0, .int .i64 0, .slice none 0 0] 8 rfl (World.shaped_of_RefB (by kernel_rfl) (by kernel_rfl)) (by kernel_rfl) (by kernel_rfl) (by kernel_rfl) (door_met os _)) ?_
  intro W base args ds gs before hval0 hW hcnd hsz0 hL _
  have hval : ∀ (j : Nat) t v, Tryd.f3.params[j]? = some t → args[j]? = some v → Value.okWide Tryd.prog W .any base t v := hval0
  have hW' := hW
  obtain ⟨p, q, hA0, hV, rfl, hfz, hnd⟩ := hW
  have hA : DataW.TrodAll enc Tryd.prog W 0 (fun _ => true) true Tryd.f3.params.toList args.toList ds p := hA0
  rw [Tryd.params3] at hA hval
  obtain ⟨v0, vs0, d0, ds0, p0, q0, hargs, rfl, rfl, h0, r0⟩ := trodAll_cons hA
  obtain ⟨v1, vs1, d1, ds1, p1, q1, rfl, rfl, rfl, h1, r1⟩ := trodAll_cons r0
  obtain ⟨v2, vs2, d2, ds2, p2, q2, rfl, rfl, rfl, h2, r2⟩ := trodAll_cons r1
  obtain ⟨rfl, rfl, rfl⟩ := trodAll_nil r2
  obtain rfl : args = #[v0, v1, v2] := by cases args; simp_all
  have hgl : gs.length = 2 := V.trodVars_len hV
  obtain ⟨b0, b1, rfl⟩ : ∃ b0 b1, gs = [b0, b1] := by
    match gs, hgl with
    | [b0, b1], _ => exact ⟨b0, b1, rfl⟩
  have k0 : V.ParOk W (false, [.int .i64]) v0 := V.par_ok (n := 20) (by kernel_rfl) (by kernel_rfl) h0 (hval 0 3 v0 rfl rfl)
  have lt0 : ∀ x ∈ p0, x.block < W.heap.size := by obtain ⟨m, hm⟩ := h0; exact DataW.trod_lt m _ _ _ hm
  have k1 : V.ParOk W (false, [.int .i64]) v1 := V.par_ok (n := 20) (by kernel_rfl) (by kernel_rfl) h1 (hval 1 3 v1 rfl rfl)
  have lt1 : ∀ x ∈ p1, x.block < W.heap.size := by obtain ⟨m, hm⟩ := h1; exact DataW.trod_lt m _ _ _ hm
  have k2 : V.ParOk W (false, [.sl [.int .i64]]) v2 := V.par_ok (n := 20) (by kernel_rfl) (by kernel_rfl) h2 (hval 2 22 v2 rfl rfl)
  have lt2 : ∀ x ∈ p2, x.block < W.heap.size := by obtain ⟨m, hm⟩ := h2; exact DataW.trod_lt m _ _ _ hm
  clear hA0 hval0 hsz0
  obtain ⟨gl1, gl2⟩ := of_laid hL
  refine (V.law_calls (P := Tryd.prog) (ext := V.ext) (tbl := V.tbl) V.sound (vf := V.vf_laws_FnExactTonesOf) (f := 3) (by kernel_rfl) (ps := V.lawPs) (by kernel_rfl) (by kernel_rfl) V.pure_law (w := W) gl1 gl2 (vals := [v0, v1, v2]) (by kernel_rfl) ?_).mono ?_
  · intro i pt v hp hv
    match i with
    | 0 => simp only [V.lawPs, List.getElem?_cons_zero, List.getElem?_cons_succ, Option.some.injEq] at hp hv; subst hp; subst hv; exact k0
    | 1 => simp only [V.lawPs, List.getElem?_cons_zero, List.getElem?_cons_succ, Option.some.injEq] at hp hv; subst hp; subst hv; exact k1
    | 2 => simp only [V.lawPs, List.getElem?_cons_zero, List.getElem?_cons_succ, Option.some.injEq] at hp hv; subst hp; subst hv; exact k2
    | i + 3 => simp [V.lawPs] at hp
  · rintro e W' ⟨he, bel⟩
    subst he
    exact ⟨_, rfl, _, _, _, [], _, _, hW', trodAll_mk1 (shut_bool Tryd.underlying4 _), (trodAll_cons_mk (Below.trod laidOut (by kernel_rfl) (of_decide_eq_true (by kernel_rfl)) h0 bel lt0) (trodAll_cons_mk (Below.trod laidOut (by kernel_rfl) (of_decide_eq_true (by kernel_rfl)) h1 bel lt1) (trodAll_cons_mk (Below.trod laidOut (by kernel_rfl) (of_decide_eq_true (by kernel_rfl)) h2 bel lt2) trodAll_mk0))), Below.trodVars laidOut bel (by kernel_rfl) hV, bel.frame _, fun h => by cases h⟩
theorem over : Rows.fnExactTonesOfRow.holds Tryd.pinned (OpenSpec.ofChange Rows.fnExactTonesOfSpec) :=
  OpenClaim.holds_of_wide 3 Tryd.f3 rfl rfl rfl rfl rfl rfl rfl ⟨rfl, rfl, rfl, rfl, rfl⟩ rfl rfl rfl rfl rfl (by kernel_rfl) Tryd.func3 (by kernel_rfl)
    (of_decide_eq_true (by kernel_rfl)) (by unfold Func.isWrapper; first | (rw [if_pos (by decide +kernel)]; kernel_rfl) | (rw [if_neg (by decide +kernel)]; exact ⟨rfl, rfl⟩))
    (fun os started H enc _ => lifted os started H enc)
theorem proved : Rows.FnExactTonesOfCardSaid :=
  Claim7.holds_tied_plain_at .later [] [.data, .data] true (true, "d20219f7ecdf3669aba5aba9a67dfbac939c4360f32589053a7c4107da716e27") false
    over (fun _ h => by cases h) (by kernel_rfl) (fun _ h => by cases h) fnExactTonesOf_row_tie rfl ⟨rfl, rfl⟩ (by kernel_rfl) rfl
    (fun f fn hf hfn => by
      obtain rfl : f = 3 := Option.some.inj ((show Tryd.prog.funcNamed "loop.example/g00016/laws.FnExactTonesOf" = some 3 by kernel_rfl).symm.trans hf) |>.symm
      obtain rfl : fn = Tryd.f3 := (Option.some.inj (Tryd.func3.symm.trans hfn)).symm
      exact ⟨by kernel_rfl, fun j t ht => by
        rw [Tryd.params3] at ht
        have hm : t ∈ [3, 3, 22] := by simpa using Array.mem_of_getElem? ht
        have hall : ([3, 3, 22].all fun u => !Tryd.prog.wantsStandIn u) = true := by kernel_rfl
        exact (show Tryd.prog.wantsStandIn t = false by simpa using List.all_eq_true.1 hall t hm)⟩)
    (by kernel_rfl)
#print axioms proved
end Go.Proofs.YtamifoopbmjhmaaDoor.fnExactTonesOf
namespace Go.Proofs.YtamifoopbmjhmaaDoor
/-- The law, under a short name, for the claim. -/
theorem fnExactTonesOf_holds : Rows.FnExactTonesOfCardSaid := fnExactTonesOf.proved
end Go.Proofs.YtamifoopbmjhmaaDoor
