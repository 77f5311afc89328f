import Derived.Test.YtfmagdeiaanmcaaFnExactWritePartsV4
set_option linter.unusedVariables false
set_option maxRecDepth 100000
namespace Go.Proofs.V
open Go
def rS_Piled (x : S_Piled) : List T := [.lit (.int .i64 x.err), .lit (.int .i64 x.width), .lit (.int .i64 x.height), .sl (x.keys.map rB), .sl (x.steps.map (rI .i64)), .sl (x.parts.map (rL (rI .u8)))]
theorem dec_S_Piled : Dec [.int .i64, .int .i64, .int .i64, .sl [.bool], .sl [.int .i64], .sl [.sl [.int .u8]]] rS_Piled wfS_Piled := by
  intro ts h
  obtain ⟨⟨a0, a1, a2, a3, a4, a5, _⟩, rfl, w0, w1, w2, w3, w4, w5, _⟩ := (dec_app (dec_int .i64) (dec_app (dec_int .i64) (dec_app (dec_int .i64) (dec_app (dec_sl dec_bool) (dec_app (dec_sl (dec_int .i64)) (dec_app (dec_sl (dec_sl (dec_int .u8))) dec_nil)))))) ts h
  exact ⟨⟨a0, a1, a2, a3, a4, a5⟩, rfl, w0, w1, w2, w3, w4, w5, trivial⟩
theorem all_fi : ∀ x ∈ tblL, funcIs Go.Proofs.Try.prog tbl x.1 x.2 = true := by
  simp only [tblL, List.forall_mem_cons]
  exact ⟨fi_laws_szBoolS, fi_laws_szIntS, fi_laws_szByteS, fi_laws_szByteSS, fi_laws_szPiled, fi_laws_toBoolS, fi_laws_toIntS, fi_laws_toByteS, fi_laws_toByteSS, fi_laws_toPiled, fi_spec_l14Sides, fi_spec_l14Mark, fi_spec_l3Four, fi_spec_Crc, fi_spec_l14Part, fi_spec_WriteParts, fi_impl_zrange, fi_impl_zsides, fi_impl_zput4, fi_impl_Crc, fi_impl_zpile, fi_impl_ReadPartsC1, fi_impl_zmagic, fi_impl_zget4, fi_impl_ReadParts, fi_impl_WriteParts, fi_laws_eqByteS, fi_laws_eqBoolS, fi_laws_eqIntS, fi_laws_eqByteSS, fi_laws_eqPiled, fi_laws_markBoolS, fi_laws_markIntS, fi_laws_markByteS, fi_laws_markByteSS, fi_laws_markPiled, fi_laws_heldByteS, fi_laws_FnExactWriteParts, fun _ h => by cases h⟩
theorem all_given : ∀ x ∈ tblL, x.2.given = false := by
  simp only [tblL, List.forall_mem_cons]
  exact ⟨rfl, rfl, rfl, rfl, rfl, rfl, rfl, rfl, rfl, rfl, rfl, rfl, rfl, rfl, rfl, rfl, rfl, rfl, rfl, rfl, rfl, rfl, rfl, rfl, rfl, rfl, rfl, rfl, rfl, rfl, rfl, rfl, rfl, rfl, rfl, rfl, rfl, rfl, fun _ h => by cases h⟩
theorem sound : ∀ n, FSound Go.Proofs.Try.prog tbl (vrun ext tbl n) := table_sound (fun _ => rfl) all_given all_fi ext
def lawPs : List (Bool × List Ty) := [(true, [.int .i64, .int .i64, .int .i64, .sl [.bool], .sl [.int .i64], .sl [.sl [.int .u8]]])]
theorem pure_law : LawPure ext tbl 6 lawPs := by
  intro tss hl hw
  match tss, hl with
  | [t0], _ =>
    obtain ⟨x0, rfl, w0⟩ := dec_S_Piled t0 (hw 0 _ t0 rfl rfl)
    exact ok_laws_FnExactWriteParts x0 true (final_FnExactWriteParts x0 w0)
end Go.Proofs.V
