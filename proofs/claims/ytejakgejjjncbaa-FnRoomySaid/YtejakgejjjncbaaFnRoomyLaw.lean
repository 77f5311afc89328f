/- The law FnRoomy of the given program holds: whatever its arguments, the program answers true, and the arguments read behind the call as they read before. No condition. -/
import Derived.Test.YtejakgejjjncbaaRows
import Derived.Test.YtejakgejjjncbaaFnRoomyV4
import Derived.WalkKit
import Derived.ProofKit
import Derived.OpenShut
import Derived.ShutString
import Derived.ChangeOld
import Derived.Below
import Derived.SizedLaws
import Derived.KernelRfl
import Derived.HandedShaped
namespace Go.Proofs.Ytejakgejjjncbaa.fnRoomy
open Go.ChangeShapes Go.WideShapes Go.ChangeAt Go.RowKit
open Go.ChangeMaps (open_string shut_string)
set_option linter.unusedVariables false
set_option linter.unusedSimpArgs false
theorem own : ownKnob Try.prog.godebug = none := by kernel_rfl
theorem laidOut : laidOutB Try.prog = true := by kernel_rfl
set_option maxRecDepth 100000 in
theorem lifted (os : Os) (started : os.Started) (H : Type) (enc : TypeId × Value → H) :
    ReturnsInHanded {} Try.checked os 3 .any (Rows.fnRoomySpec.pre6 enc Try.prog Try.f3 Rows.fnRoomyRow.domain false) (Rows.fnRoomySpec.post enc Try.prog Try.f3 false true false false) := by
  refine returnsInHanded_of_change_shaped (C := Try.checked) own started (by kernel_rfl) Try.func3
    (ChangeSpec.witness6 (enc := enc) (C := Try.checked) false ⟨#[], #[.slice none 0 0], []⟩ 8 (by kernel_rfl) (by kernel_rfl) (by kernel_rfl) (by kernel_rfl)) ?_
  intro W base args ds gs before hval0 hW hcnd hsz0 hsh _
  have hval : ∀ (j : Nat) t v, Try.f3.params[j]? = some t → args[j]? = some v → Value.okWide Try.prog W .any base t v := hval0
  have hW' := hW
  obtain ⟨p, q, hA0, hV, rfl, hfz, hnd⟩ := hW
  have hA : DataW.TrodAll enc Try.prog W 0 (fun _ => true) true Try.f3.params.toList args.toList ds p := hA0
  rw [Try.params3] at hA hval
  obtain ⟨v0, vs0, d0, ds0, p0, q0, hargs, rfl, rfl, h0, r0⟩ := trodAll_cons hA
  obtain ⟨rfl, rfl, rfl⟩ := trodAll_nil r0
  obtain rfl : args = #[v0] := by cases args; simp_all
  obtain ⟨rfl, rfl⟩ := trodVars_none hV
  have k0 : V.ParOk W (false, [.sl [.int .u8]]) v0 := V.par_ok (n := 20) (by kernel_rfl) (by kernel_rfl) h0 (hval 0 22 v0 rfl rfl)
  have lt0 : ∀ x ∈ p0, x.block < W.heap.size := by obtain ⟨m, hm⟩ := h0; exact DataW.trod_lt m _ _ _ hm
  clear hA0 hval0 hsz0
  refine (V.law_calls (P := Try.prog) (ext := V.ext) (tbl := V.tbl) V.sound (vf := V.vf_laws_FnRoomy) (f := 3) (by kernel_rfl) (ps := V.lawPs) (by kernel_rfl) (by kernel_rfl) V.pure_law (w := W) (V.gCell_le (V.lays_strings_Contains.s1_3 W hsh)) (V.lays_strings_Contains.s1_3 W hsh) (vals := [v0]) (by kernel_rfl) ?_).mono ?_
  · intro i pt v hp hv
    match i with
    | 0 => simp only [V.lawPs, List.getElem?_cons_zero, List.getElem?_cons_succ, Option.some.injEq] at hp hv; subst hp; subst hv; exact k0
    | i + 1 => simp [V.lawPs] at hp
  · rintro e W' ⟨he, bel⟩
    subst he
    exact ⟨_, rfl, _, _, _, [], _, [], hW', trodAll_mk1 (shut_bool Try.underlying4 _), (trodAll_cons_mk (Below.trod laidOut (by kernel_rfl) (of_decide_eq_true (by kernel_rfl)) h0 bel lt0) trodAll_mk0), rfl, bel.frame _, fun h => by cases h⟩
theorem over : Rows.fnRoomyRow.holds Try.pinned (OpenSpec.ofChange Rows.fnRoomySpec) :=
  OpenClaim.holds_of_wide 3 Try.f3 rfl rfl rfl rfl rfl rfl rfl ⟨rfl, rfl, rfl, rfl, rfl⟩ rfl rfl rfl rfl rfl (by kernel_rfl) Try.func3 (by kernel_rfl)
    (of_decide_eq_true (by kernel_rfl)) (by unfold Func.isWrapper; first | (rw [if_pos (by decide +kernel)]; kernel_rfl) | (rw [if_neg (by decide +kernel)]; exact ⟨rfl, rfl⟩))
    (fun os started H enc _ => lifted os started H enc)
theorem proved : Rows.FnRoomySaid := over
#print axioms proved
end Go.Proofs.Ytejakgejjjncbaa.fnRoomy
namespace Go.Proofs.Ytejakgejjjncbaa
/-- The law, under a short name, for the claim. -/
theorem fnRoomy_holds : Rows.FnRoomySaid := fnRoomy.proved
end Go.Proofs.Ytejakgejjjncbaa
