import Derived.Test.YtfmagdeiaanmcaaFnExactDecodeTonesV4
set_option linter.unusedVariables false
set_option maxRecDepth 100000
namespace Go.Proofs.V
open Go
theorem all_fi : ∀ x ∈ tblL, funcIs Go.Proofs.Try.prog tbl x.1 x.2 = true := by
  simp only [tblL, List.forall_mem_cons]
  exact ⟨fi_laws_toByteS, fi_spec_l1Bit, fi_spec_l1Take, fi_spec_l10R_fail, fi_spec_l10R_take, fi_spec_l10R_mark, fi_spec_l11Head, fi_spec_l11Slots, fi_spec_Unfold, fi_spec_l10R_folded, fi_spec_l10R_fill, fi_spec_DecodeTones, fi_impl_DecodeTonesC1, fi_impl_zmagic, fi_impl_ztake_bit, fi_impl_ztake_take, fi_impl_Unfold, fi_impl_ztake_fill, fi_impl_DecodeTones, fi_laws_eqIntS, fi_laws_eqIntSS, fi_laws_eqTones, fi_laws_eqByteS, fi_laws_markByteS, fi_laws_markIntS, fi_laws_markIntSS, fi_laws_markTones, fi_laws_heldIntS, fi_laws_heldIntSS, fi_laws_heldTones, fi_laws_FnExactDecodeTones, fun _ h => by cases h⟩
theorem all_given : ∀ x ∈ tblL, x.2.given = false := by
  simp only [tblL, List.forall_mem_cons]
  exact ⟨rfl, rfl, rfl, rfl, rfl, rfl, rfl, rfl, rfl, rfl, rfl, rfl, rfl, rfl, rfl, rfl, rfl, rfl, rfl, rfl, rfl, rfl, rfl, rfl, rfl, rfl, rfl, rfl, rfl, rfl, rfl, fun _ h => by cases h⟩
theorem sound : ∀ n, FSound Go.Proofs.Try.prog tbl (vrun ext tbl n) := table_sound (fun _ => rfl) all_given all_fi ext
def lawPs : List (Bool × List Ty) := [(false, [.sl [.int .u8]])]
theorem pure_law : LawPure ext tbl 4 lawPs := by
  intro tss hl hw
  match tss, hl with
  | [t0], _ =>
    obtain ⟨x0, rfl, w0⟩ := (dec_sl (dec_int .u8)) t0 (hw 0 _ t0 rfl rfl)
    exact ok_laws_FnExactDecodeTones x0 true (final_FnExactDecodeTones x0 w0)
end Go.Proofs.V
