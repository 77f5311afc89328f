/- printed by a program: the plain functions, the code and the proofs of one law -/
import Derived.Test.YtfmagdeiaanmcaaFnExactDecodeTonesV3
import Derived.KernelRfl
set_option linter.unusedVariables false
set_option maxRecDepth 100000
namespace Go.Proofs.V
open Go
def as_laws_toByteS (p0 : (List Int)) : List Arg := [.v false [.sl (p0.map (rI .u8))]]
def res_laws_toByteS (r : (List Int)) : FRes := ⟨[.v false [.sl (r.map (rI .u8))]], []⟩
def as_spec_l1Bit (p0 : (List Int)) (p1 : Int) (p2 : Bool) : List Arg := [.v false [.sl (p0.map (rI .u8))], .v false [.lit (.int .i64 p1)], .v false [.lit (.bool p2)]]
def res_spec_l1Bit (r : Int) : FRes := ⟨[.v false [.lit (.int .u64 r)]], []⟩
def as_spec_l1Take (p0 : (List Int)) (p1 : Int) (p2 : Int) (p3 : Bool) : List Arg := [.v false [.sl (p0.map (rI .u8))], .v false [.lit (.int .i64 p1)], .v false [.lit (.int .i64 p2)], .v false [.lit (.bool p3)]]
def res_spec_l1Take (r : S_Number) : FRes := ⟨[.v true [.lit (.bool r.ok), .lit (.int .u64 r.value), .lit (.int .i64 r.next)]], []⟩
def as_spec_l10R_fail (p0 : S_l10R) (p1 : Int) : List Arg := [.m (.pt [.sl (p0.data.map (rI .u8)), .lit (.int .i64 p0.at_), .lit (.int .i64 p0.err)]), .v false [.lit (.int .i64 p1)]]
def res_spec_l10R_fail (r : S_l10R) : FRes := ⟨[], [.pt [.sl (r.data.map (rI .u8)), .lit (.int .i64 r.at_), .lit (.int .i64 r.err)]]⟩
def as_spec_l10R_take (p0 : S_l10R) (p1 : Int) : List Arg := [.m (.pt [.sl (p0.data.map (rI .u8)), .lit (.int .i64 p0.at_), .lit (.int .i64 p0.err)]), .v false [.lit (.int .i64 p1)]]
def res_spec_l10R_take (r : Int × S_l10R) : FRes := ⟨[.v false [.lit (.int .i64 r.1)]], [.pt [.sl (r.2.data.map (rI .u8)), .lit (.int .i64 r.2.at_), .lit (.int .i64 r.2.err)]]⟩
def as_spec_l10R_mark (p0 : S_l10R) (p1 : (List Int)) : List Arg := [.m (.pt [.sl (p0.data.map (rI .u8)), .lit (.int .i64 p0.at_), .lit (.int .i64 p0.err)]), .v false [.sl (p1.map (rI .u8))]]
def res_spec_l10R_mark (r : S_l10R) : FRes := ⟨[], [.pt [.sl (r.data.map (rI .u8)), .lit (.int .i64 r.at_), .lit (.int .i64 r.err)]]⟩
def as_spec_l11Head (p0 : Int) (p1 : Int) (p2 : Int) : List Arg := [.v false [.lit (.int .i64 p0)], .v false [.lit (.int .i64 p1)], .v false [.lit (.int .i64 p2)]]
def res_spec_l11Head (r : Bool) : FRes := ⟨[.v false [.lit (.bool r)]], []⟩
def as_spec_l11Slots (p0 : Int) : List Arg := [.v false [.lit (.int .i64 p0)]]
def res_spec_l11Slots (r : Int) : FRes := ⟨[.v false [.lit (.int .i64 r)]], []⟩
def as_spec_Unfold (p0 : Int) : List Arg := [.v false [.lit (.int .u64 p0)]]
def res_spec_Unfold (r : Int) : FRes := ⟨[.v false [.lit (.int .i64 r)]], []⟩
def as_spec_l10R_folded (p0 : S_l10R) (p1 : Int) : List Arg := [.m (.pt [.sl (p0.data.map (rI .u8)), .lit (.int .i64 p0.at_), .lit (.int .i64 p0.err)]), .v false [.lit (.int .i64 p1)]]
def res_spec_l10R_folded (r : Int × S_l10R) : FRes := ⟨[.v false [.lit (.int .i64 r.1)]], [.pt [.sl (r.2.data.map (rI .u8)), .lit (.int .i64 r.2.at_), .lit (.int .i64 r.2.err)]]⟩
def as_spec_l10R_fill (p0 : S_l10R) : List Arg := [.m (.pt [.sl (p0.data.map (rI .u8)), .lit (.int .i64 p0.at_), .lit (.int .i64 p0.err)])]
def res_spec_l10R_fill (r : S_l10R) : FRes := ⟨[], [.pt [.sl (r.data.map (rI .u8)), .lit (.int .i64 r.at_), .lit (.int .i64 r.err)]]⟩
def as_spec_DecodeTones (p0 : (List Int)) : List Arg := [.v false [.sl (p0.map (rI .u8))]]
def res_spec_DecodeTones (r : Int × S_Tones) : FRes := ⟨[.v false [.lit (.int .i64 r.1)], .v true [.lit (.int .i64 r.2.rate), .lit (.int .i64 r.2.quality), .lit (.int .i64 r.2.length), .sl (r.2.slots.map (rL (rI .i64))), .sl (r.2.grades.map (rL (rI .i64)))]], []⟩
def as_impl_DecodeTonesC1 (p0 : Int) : List Arg := [.v false [.lit (.int .i64 p0)]]
def res_impl_DecodeTonesC1 (r : Int × S_Tones) : FRes := ⟨[.v false [.lit (.int .i64 r.1)], .v true [.lit (.int .i64 r.2.rate), .lit (.int .i64 r.2.quality), .lit (.int .i64 r.2.length), .sl (r.2.slots.map (rL (rI .i64))), .sl (r.2.grades.map (rL (rI .i64)))]], []⟩
def as_impl_zmagic (p0 : (List Int)) (p1 : ByteArray) : List Arg := [.v false [.sl (p0.map (rI .u8))], .v false [.lit (.string p1)]]
def res_impl_zmagic (r : Int) : FRes := ⟨[.v false [.lit (.int .i64 r)]], []⟩
def as_impl_ztake_bit (p0 : S_ztake) : List Arg := [.m (.pt [.sl (p0.b.map (rI .u8)), .lit (.int .i64 p0.at_), .lit (.bool p0.short)])]
def res_impl_ztake_bit (r : Int × S_ztake) : FRes := ⟨[.v false [.lit (.int .i64 r.1)]], [.pt [.sl (r.2.b.map (rI .u8)), .lit (.int .i64 r.2.at_), .lit (.bool r.2.short)]]⟩
def as_impl_ztake_take (p0 : S_ztake) (p1 : Int) : List Arg := [.m (.pt [.sl (p0.b.map (rI .u8)), .lit (.int .i64 p0.at_), .lit (.bool p0.short)]), .v false [.lit (.int .i64 p1)]]
def res_impl_ztake_take (r : Int × S_ztake) : FRes := ⟨[.v false [.lit (.int .u64 r.1)]], [.pt [.sl (r.2.b.map (rI .u8)), .lit (.int .i64 r.2.at_), .lit (.bool r.2.short)]]⟩
def as_impl_Unfold (p0 : Int) : List Arg := [.v false [.lit (.int .u64 p0)]]
def res_impl_Unfold (r : Int) : FRes := ⟨[.v false [.lit (.int .i64 r)]], []⟩
def as_impl_ztake_fill (p0 : S_ztake) : List Arg := [.m (.pt [.sl (p0.b.map (rI .u8)), .lit (.int .i64 p0.at_), .lit (.bool p0.short)])]
def res_impl_ztake_fill (r : Bool × S_ztake) : FRes := ⟨[.v false [.lit (.bool r.1)]], [.pt [.sl (r.2.b.map (rI .u8)), .lit (.int .i64 r.2.at_), .lit (.bool r.2.short)]]⟩
def as_impl_DecodeTones (p0 : (List Int)) : List Arg := [.v false [.sl (p0.map (rI .u8))]]
def res_impl_DecodeTones (r : Int × S_Tones) : FRes := ⟨[.v false [.lit (.int .i64 r.1)], .v true [.lit (.int .i64 r.2.rate), .lit (.int .i64 r.2.quality), .lit (.int .i64 r.2.length), .sl (r.2.slots.map (rL (rI .i64))), .sl (r.2.grades.map (rL (rI .i64)))]], []⟩
def as_laws_eqIntS (p0 : (List Int)) (p1 : (List Int)) : List Arg := [.v false [.sl (p0.map (rI .i64))], .v false [.sl (p1.map (rI .i64))]]
def res_laws_eqIntS (r : Bool) : FRes := ⟨[.v false [.lit (.bool r)]], []⟩
def as_laws_eqIntSS (p0 : (List (List Int))) (p1 : (List (List Int))) : List Arg := [.v false [.sl (p0.map (rL (rI .i64)))], .v false [.sl (p1.map (rL (rI .i64)))]]
def res_laws_eqIntSS (r : Bool) : FRes := ⟨[.v false [.lit (.bool r)]], []⟩
def as_laws_eqTones (p0 : S_Tones) (p1 : S_Tones) : List Arg := [.v true [.lit (.int .i64 p0.rate), .lit (.int .i64 p0.quality), .lit (.int .i64 p0.length), .sl (p0.slots.map (rL (rI .i64))), .sl (p0.grades.map (rL (rI .i64)))], .v true [.lit (.int .i64 p1.rate), .lit (.int .i64 p1.quality), .lit (.int .i64 p1.length), .sl (p1.slots.map (rL (rI .i64))), .sl (p1.grades.map (rL (rI .i64)))]]
def res_laws_eqTones (r : Bool) : FRes := ⟨[.v false [.lit (.bool r)]], []⟩
def as_laws_eqByteS (p0 : (List Int)) (p1 : (List Int)) : List Arg := [.v false [.sl (p0.map (rI .u8))], .v false [.sl (p1.map (rI .u8))]]
def res_laws_eqByteS (r : Bool) : FRes := ⟨[.v false [.lit (.bool r)]], []⟩
def as_laws_markByteS (p0 : (List Int)) (p1 : Int) : List Arg := [.m (.sl (p0.map (rI .u8))), .v false [.lit (.int .i64 p1)]]
def res_laws_markByteS (r : Int × (List Int)) : FRes := ⟨[.v false [.lit (.int .i64 r.1)]], [.sl (r.2.map (rI .u8))]⟩
def as_laws_markIntS (p0 : (List Int)) (p1 : Int) : List Arg := [.m (.sl (p0.map (rI .i64))), .v false [.lit (.int .i64 p1)]]
def res_laws_markIntS (r : Int × (List Int)) : FRes := ⟨[.v false [.lit (.int .i64 r.1)]], [.sl (r.2.map (rI .i64))]⟩
def as_laws_markIntSS (p0 : (List (List Int))) (p1 : Int) : List Arg := [.m (.sl (p0.map (rL (rI .i64)))), .v false [.lit (.int .i64 p1)]]
def res_laws_markIntSS (r : Int × (List (List Int))) : FRes := ⟨[.v false [.lit (.int .i64 r.1)]], [.sl (r.2.map (rL (rI .i64)))]⟩
def as_laws_markTones (p0 : S_Tones) (p1 : Int) : List Arg := [.v true [.lit (.int .i64 p0.rate), .lit (.int .i64 p0.quality), .lit (.int .i64 p0.length), .sl (p0.slots.map (rL (rI .i64))), .sl (p0.grades.map (rL (rI .i64)))], .v false [.lit (.int .i64 p1)]]
def res_laws_markTones (r : Int × S_Tones) : FRes := ⟨[.v false [.lit (.int .i64 r.1)]], [.sl (r.2.slots.map (rL (rI .i64))), .sl (r.2.grades.map (rL (rI .i64)))]⟩
def as_laws_heldIntS (p0 : (List Int)) (p1 : Int) : List Arg := [.v false [.sl (p0.map (rI .i64))], .v false [.lit (.int .i64 p1)]]
def res_laws_heldIntS (r : Int) : FRes := ⟨[.v false [.lit (.int .i64 r)]], []⟩
def as_laws_heldIntSS (p0 : (List (List Int))) (p1 : Int) : List Arg := [.v false [.sl (p0.map (rL (rI .i64)))], .v false [.lit (.int .i64 p1)]]
def res_laws_heldIntSS (r : Int) : FRes := ⟨[.v false [.lit (.int .i64 r)]], []⟩
def as_laws_heldTones (p0 : S_Tones) (p1 : Int) : List Arg := [.v true [.lit (.int .i64 p0.rate), .lit (.int .i64 p0.quality), .lit (.int .i64 p0.length), .sl (p0.slots.map (rL (rI .i64))), .sl (p0.grades.map (rL (rI .i64)))], .v false [.lit (.int .i64 p1)]]
def res_laws_heldTones (r : Int) : FRes := ⟨[.v false [.lit (.int .i64 r)]], []⟩
def as_laws_FnExactDecodeTones (p0 : (List Int)) : List Arg := [.v false [.sl (p0.map (rI .u8))]]
def res_laws_FnExactDecodeTones (r : Bool) : FRes := ⟨[.v false [.lit (.bool r)]], []⟩
def K_laws_toByteS_19 : List Fr := []
def s_laws_toByteS_19 (l19_0 : (List Int)) : St :=
  ⟨mkSl 22 [(3, .v false [.ref 0 [] 0 l19_0.length])], [some ⟨[.sc], (List.map (rI .u8) l19_0)⟩], []⟩
def K_laws_toByteS_9 : List Fr := [.lp [0, 3, 4] c_laws_toByteS_9, .bk 0, .sq (.kp [3] c_laws_toByteS_19)]
def s_laws_toByteS_9 (p0 : (List Int)) (i9_0 : Int) (l9_1 : (List Int)) : St :=
  ⟨mkSl 22 [(0, .v false [.ro [.sc] (p0.map (rI .u8))]), (3, .v false [.ref 0 [] 0 l9_1.length]), (4, .v false [.lit (.int .i64 i9_0)])], [some ⟨[.sc], (List.map (rI .u8) l9_1)⟩], []⟩
def K_laws_toByteS_0 : List Fr := []
def s_laws_toByteS_0 (p0 : (List Int)) : St :=
  ⟨mkSl 22 [(0, .v false [.ro [.sc] (p0.map (rI .u8))])], [], []⟩
def K_spec_l1Bit_0 : List Fr := []
def s_spec_l1Bit_0 (p0 : (List Int)) (p1 : Int) (p2 : Bool) : St :=
  ⟨mkSl 31 [(0, .v false [.ro [.sc] (p0.map (rI .u8))]), (1, .v false [.lit (.int .i64 p1)]), (2, .v false [.lit (.bool p2)])], [], []⟩
def K_spec_l1Take_33 : List Fr := []
def s_spec_l1Take_33 (p1 : Int) (p2 : Int) (i33_0 : Int) : St :=
  ⟨mkSl 66 [(1, .v false [.lit (.int .i64 p1)]), (2, .v false [.lit (.int .i64 p2)]), (8, .v false [.vptr 0 0]), (9, .v false [.lit (.int .u64 i33_0)])], [], [some [.lit (.bool false), .lit (.int .u64 0), .lit (.int .i64 0)]]⟩
def K_spec_l1Take_17 : List Fr := [.lp [0, 1, 2, 3, 8, 9, 10] c_spec_l1Take_17, .bk 0, .sq (.kp [1, 2, 8, 9] c_spec_l1Take_33)]
def s_spec_l1Take_17 (p0 : (List Int)) (p1 : Int) (p2 : Int) (p3 : Bool) (i17_0 : Int) (i17_1 : Int) : St :=
  ⟨mkSl 66 [(0, .v false [.ro [.sc] (p0.map (rI .u8))]), (1, .v false [.lit (.int .i64 p1)]), (2, .v false [.lit (.int .i64 p2)]), (3, .v false [.lit (.bool p3)]), (8, .v false [.vptr 0 0]), (9, .v false [.lit (.int .u64 i17_0)]), (10, .v false [.lit (.int .i64 i17_1)])], [], [some [.lit (.bool false), .lit (.int .u64 0), .lit (.int .i64 0)]]⟩
def K_spec_l1Take_5 : List Fr := [.sq c_spec_l1Take_10]
def s_spec_l1Take_5 (p0 : (List Int)) (p1 : Int) (p2 : Int) (p3 : Bool) (b5_0 : Bool) : St :=
  ⟨mkSl 66 [(0, .v false [.ro [.sc] (p0.map (rI .u8))]), (1, .v false [.lit (.int .i64 p1)]), (2, .v false [.lit (.int .i64 p2)]), (3, .v false [.lit (.bool p3)]), (8, .v false [.vptr 0 0]), (37, .v false [.lit (.bool b5_0)])], [], [some [.lit (.bool false), .lit (.int .u64 0), .lit (.int .i64 0)]]⟩
def K_spec_l1Take_0 : List Fr := []
def s_spec_l1Take_0 (p0 : (List Int)) (p1 : Int) (p2 : Int) (p3 : Bool) : St :=
  ⟨mkSl 66 [(0, .v false [.ro [.sc] (p0.map (rI .u8))]), (1, .v false [.lit (.int .i64 p1)]), (2, .v false [.lit (.int .i64 p2)]), (3, .v false [.lit (.bool p3)])], [], []⟩
def K_spec_l10R_fail_0 : List Fr := []
def s_spec_l10R_fail_0 (p1 : Int) (p0 : S_l10R) : St :=
  ⟨mkSl 13 [(0, .v false [.vptr 0 0]), (1, .v false [.lit (.int .i64 p1)])], [], [some [.ro [.sc] (p0.data.map (rI .u8)), .lit (.int .i64 p0.at_), .lit (.int .i64 p0.err)]]⟩
def K_spec_l10R_take_10 : List Fr := []
def s_spec_l10R_take_10 (x0_0 : S_Number) (l10_0 : (List Int)) (i10_1 : Int) (i10_2 : Int) : St :=
  ⟨mkSl 34 [(0, .v false [.vptr 0 0]), (5, .v false [.vptr 1 0])], [], [some [.ro [.sc] (l10_0.map (rI .u8)), .lit (.int .i64 i10_1), .lit (.int .i64 i10_2)], some [.lit (.bool x0_0.ok), .lit (.int .u64 x0_0.value), .lit (.int .i64 x0_0.next)]]⟩
def K_spec_l10R_take_0 : List Fr := []
def s_spec_l10R_take_0 (p1 : Int) (p0 : S_l10R) : St :=
  ⟨mkSl 34 [(0, .v false [.vptr 0 0]), (1, .v false [.lit (.int .i64 p1)])], [], [some [.ro [.sc] (p0.data.map (rI .u8)), .lit (.int .i64 p0.at_), .lit (.int .i64 p0.err)]]⟩
def K_spec_l10R_mark_18 : List Fr := [.bk 1, .sq c_spec_l10R_mark_21, .lp [0, 7, 8, 9] c_spec_l10R_mark_4, .bk 0]
def s_spec_l10R_mark_18 (p1 : (List Int)) (i4_0 : Int) (x4_2 : Int × S_l10R) (b18_0 : Bool) : St :=
  ⟨mkSl 29 [(0, .v false [.vptr 0 0]), (7, .v false [.ro [.sc] (p1.map (rI .u8))]), (8, .v false [.lit (.int .i64 (p1.length : Int))]), (9, .v false [.lit (.int .i64 i4_0)]), (25, .v false [.lit (.bool b18_0)])], [], [some [.ro [.sc] (x4_2.2.data.map (rI .u8)), .lit (.int .i64 x4_2.2.at_), .lit (.int .i64 x4_2.2.err)]]⟩
def K_spec_l10R_mark_4 : List Fr := [.lp [0, 7, 8, 9] c_spec_l10R_mark_4, .bk 0]
def s_spec_l10R_mark_4 (p1 : (List Int)) (i4_0 : Int) (l4_1 : (List Int)) (i4_2 : Int) (i4_3 : Int) : St :=
  ⟨mkSl 29 [(0, .v false [.vptr 0 0]), (7, .v false [.ro [.sc] (p1.map (rI .u8))]), (8, .v false [.lit (.int .i64 (p1.length : Int))]), (9, .v false [.lit (.int .i64 i4_0)])], [], [some [.ro [.sc] (l4_1.map (rI .u8)), .lit (.int .i64 i4_2), .lit (.int .i64 i4_3)]]⟩
def K_spec_l10R_mark_0 : List Fr := []
def s_spec_l10R_mark_0 (p1 : (List Int)) (p0 : S_l10R) : St :=
  ⟨mkSl 29 [(0, .v false [.vptr 0 0]), (1, .v false [.ro [.sc] (p1.map (rI .u8))])], [], [some [.ro [.sc] (p0.data.map (rI .u8)), .lit (.int .i64 p0.at_), .lit (.int .i64 p0.err)]]⟩
def K_spec_l11Head_0 : List Fr := []
def s_spec_l11Head_0 (p0 : Int) (p1 : Int) (p2 : Int) : St :=
  ⟨mkSl 29 [(0, .v false [.lit (.int .i64 p0)]), (1, .v false [.lit (.int .i64 p1)]), (2, .v false [.lit (.int .i64 p2)])], [], []⟩
def K_spec_l11Slots_0 : List Fr := []
def s_spec_l11Slots_0 (p0 : Int) : St :=
  ⟨mkSl 7 [(0, .v false [.lit (.int .i64 p0)])], [], []⟩
def K_spec_Unfold_0 : List Fr := []
def s_spec_Unfold_0 (p0 : Int) : St :=
  ⟨mkSl 14 [(0, .v false [.lit (.int .u64 p0)])], [], []⟩
def K_spec_l10R_folded_31 : List Fr := []
def s_spec_l10R_folded_31 (i28_0 : Int) (l31_0 : (List Int)) (i31_1 : Int) (i31_2 : Int) : St :=
  ⟨mkSl 50 [(0, .v false [.vptr 0 0]), (7, .v false [.lit (.int .i64 i28_0)])], [], [some [.ro [.sc] (l31_0.map (rI .u8)), .lit (.int .i64 i31_1), .lit (.int .i64 i31_2)]]⟩
def K_spec_l10R_folded_28 : List Fr := [.sq (.kp [0, 7] c_spec_l10R_folded_31)]
def s_spec_l10R_folded_28 (x21_0 : Int × S_l10R) (i28_0 : Int) (b28_1 : Bool) : St :=
  ⟨mkSl 50 [(0, .v false [.vptr 0 0]), (7, .v false [.lit (.int .i64 i28_0)]), (44, .v false [.lit (.bool b28_1)])], [], [some [.ro [.sc] (x21_0.2.data.map (rI .u8)), .lit (.int .i64 x21_0.2.at_), .lit (.int .i64 x21_0.2.err)]]⟩
def K_spec_l10R_folded_21 : List Fr := []
def s_spec_l10R_folded_21 (p1 : Int) (i21_0 : Int) (l21_1 : (List Int)) (i21_2 : Int) (i21_3 : Int) : St :=
  ⟨mkSl 50 [(0, .v false [.vptr 0 0]), (1, .v false [.lit (.int .i64 p1)]), (5, .v false [.lit (.int .i64 i21_0)])], [], [some [.ro [.sc] (l21_1.map (rI .u8)), .lit (.int .i64 i21_2), .lit (.int .i64 i21_3)]]⟩
def K_spec_l10R_folded_7 : List Fr := [.lp [0, 1, 5] c_spec_l10R_folded_7, .bk 0, .sq (.kp [0, 1, 5] c_spec_l10R_folded_21)]
def s_spec_l10R_folded_7 (p1 : Int) (i7_0 : Int) (l7_1 : (List Int)) (i7_2 : Int) (i7_3 : Int) : St :=
  ⟨mkSl 50 [(0, .v false [.vptr 0 0]), (1, .v false [.lit (.int .i64 p1)]), (5, .v false [.lit (.int .i64 i7_0)])], [], [some [.ro [.sc] (l7_1.map (rI .u8)), .lit (.int .i64 i7_2), .lit (.int .i64 i7_3)]]⟩
def K_spec_l10R_folded_0 : List Fr := []
def s_spec_l10R_folded_0 (p1 : Int) (p0 : S_l10R) : St :=
  ⟨mkSl 50 [(0, .v false [.vptr 0 0]), (1, .v false [.lit (.int .i64 p1)])], [], [some [.ro [.sc] (p0.data.map (rI .u8)), .lit (.int .i64 p0.at_), .lit (.int .i64 p0.err)]]⟩
def K_spec_l10R_fill_2 : List Fr := [.lp [0] c_spec_l10R_fill_2, .bk 0]
def s_spec_l10R_fill_2 (l2_0 : (List Int)) (i2_1 : Int) (i2_2 : Int) : St :=
  ⟨mkSl 20 [(0, .v false [.vptr 0 0])], [], [some [.ro [.sc] (l2_0.map (rI .u8)), .lit (.int .i64 i2_1), .lit (.int .i64 i2_2)]]⟩
def K_spec_l10R_fill_0 : List Fr := []
def s_spec_l10R_fill_0 (p0 : S_l10R) : St :=
  ⟨mkSl 20 [(0, .v false [.vptr 0 0])], [], [some [.ro [.sc] (p0.data.map (rI .u8)), .lit (.int .i64 p0.at_), .lit (.int .i64 p0.err)]]⟩
def K_spec_DecodeTones_72 : List Fr := [.bk 3, .sq c_spec_DecodeTones_75, .lp [0, 3, 4, 5, 7, 8, 82, 83] c_spec_DecodeTones_58, .bk 2, .sq (.kp [0, 3, 4, 5, 7, 8] c_spec_DecodeTones_76), .bk 1, .sq c_spec_DecodeTones_104, .lp [0, 3, 4, 5, 7] c_spec_DecodeTones_43, .bk 0, .sq (.kp [0, 3, 4, 5] c_spec_DecodeTones_105)]
def s_spec_DecodeTones_72 (p0 : (List Int)) (i43_0 : Int) (i58_0 : Int) (i58_1 : Int) (x58_1 : Int × S_l10R) (x0_2 : Int × S_l10R) (x0_3 : Int × S_l10R) (x0_4 : Int × S_l10R) (l43_4 : (List (List Int))) (l43_5 : (List (List Int))) (b72_0 : Bool) (l72_1 : (List Int)) : St :=
  ⟨mkSl 179 [(0, .v false [.ro [.sc] (p0.map (rI .u8))]), (3, .v false [.vptr 0 0]), (4, .v false [.vptr 1 0]), (5, .v false [.vptr 2 0]), (7, .v false [.lit (.int .i64 i43_0)]), (8, .v false [.ref 0 [] 0 l72_1.length]), (82, .v false [.lit (.int .i64 i58_0)]), (83, .v false [.lit (.int .i64 i58_1)]), (102, .v false [.lit (.bool b72_0)])], [some ⟨[.sc], (List.map (rI .i64) l72_1)⟩, some ⟨[.own [.sc]], (List.map (rL (rI .i64)) ([] : List (List Int)))⟩, some ⟨[.own [.sc]], (List.map (rL (rI .i64)) ([] : List (List Int)))⟩, some ⟨[.own [.sc]], (List.map (rL (rI .i64)) l43_4)⟩, some ⟨[.own [.sc]], (List.map (rL (rI .i64)) l43_5)⟩], [some [.lit (.int .i64 0), .lit (.int .i64 0), .lit (.int .i64 0), .ref 1 [] 0 (([] : List (List Int)).length), .ref 2 [] 0 (([] : List (List Int)).length)], some [.ro [.sc] (x58_1.2.data.map (rI .u8)), .lit (.int .i64 x58_1.2.at_), .lit (.int .i64 x58_1.2.err)], some [.lit (.int .i64 x0_2.1), .lit (.int .i64 x0_3.1), .lit (.int .i64 x0_4.1), .ref 3 [] 0 l43_4.length, .ref 4 [] 0 l43_5.length]]⟩
def K_spec_DecodeTones_101 : List Fr := [.bk 1, .sq c_spec_DecodeTones_104, .lp [0, 3, 4, 5, 7] c_spec_DecodeTones_43, .bk 0, .sq (.kp [0, 3, 4, 5] c_spec_DecodeTones_105)]
def s_spec_DecodeTones_101 (p0 : (List Int)) (i43_0 : Int) (x0_2 : Int × S_l10R) (x0_3 : Int × S_l10R) (x0_4 : Int × S_l10R) (l76_3 : (List Int)) (l43_4 : (List (List Int))) (l43_5 : (List (List Int))) (l101_0 : (List Int)) (i101_1 : Int) (i101_2 : Int) (l101_3 : (List Int)) : St :=
  ⟨mkSl 179 [(0, .v false [.ro [.sc] (p0.map (rI .u8))]), (3, .v false [.vptr 0 0]), (4, .v false [.vptr 1 0]), (5, .v false [.vptr 2 0]), (7, .v false [.lit (.int .i64 i43_0)]), (8, .v false [.ref 0 [] 0 l76_3.length]), (11, .v false [.ref 1 [] 0 l101_3.length])], [some ⟨[.sc], (List.map (rI .i64) l76_3)⟩, some ⟨[.sc], (List.map (rI .i64) l101_3)⟩, some ⟨[.own [.sc]], (List.map (rL (rI .i64)) ([] : List (List Int)))⟩, some ⟨[.own [.sc]], (List.map (rL (rI .i64)) ([] : List (List Int)))⟩, some ⟨[.own [.sc]], (List.map (rL (rI .i64)) l43_4)⟩, some ⟨[.own [.sc]], (List.map (rL (rI .i64)) l43_5)⟩], [some [.lit (.int .i64 0), .lit (.int .i64 0), .lit (.int .i64 0), .ref 2 [] 0 (([] : List (List Int)).length), .ref 3 [] 0 (([] : List (List Int)).length)], some [.ro [.sc] (l101_0.map (rI .u8)), .lit (.int .i64 i101_1), .lit (.int .i64 i101_2)], some [.lit (.int .i64 x0_2.1), .lit (.int .i64 x0_3.1), .lit (.int .i64 x0_4.1), .ref 4 [] 0 l43_4.length, .ref 5 [] 0 l43_5.length]]⟩
def K_spec_DecodeTones_91 : List Fr := [.lp [0, 3, 4, 5, 7, 8, 10, 11, 12] c_spec_DecodeTones_91, .bk 4, .sq (.kp [0, 3, 4, 5, 7, 8, 11] c_spec_DecodeTones_101), .bk 1, .sq c_spec_DecodeTones_104, .lp [0, 3, 4, 5, 7] c_spec_DecodeTones_43, .bk 0, .sq (.kp [0, 3, 4, 5] c_spec_DecodeTones_105)]
def s_spec_DecodeTones_91 (p0 : (List Int)) (i43_0 : Int) (x76_0 : Int × S_l10R) (x0_2 : Int × S_l10R) (x0_3 : Int × S_l10R) (x0_4 : Int × S_l10R) (l76_3 : (List Int)) (l43_4 : (List (List Int))) (l43_5 : (List (List Int))) (i91_0 : Int) (l91_1 : (List Int)) (i91_2 : Int) (i91_3 : Int) (l91_4 : (List Int)) : St :=
  ⟨mkSl 179 [(0, .v false [.ro [.sc] (p0.map (rI .u8))]), (3, .v false [.vptr 0 0]), (4, .v false [.vptr 1 0]), (5, .v false [.vptr 2 0]), (7, .v false [.lit (.int .i64 i43_0)]), (8, .v false [.ref 0 [] 0 l76_3.length]), (10, .v false [.lit (.int .i64 x76_0.1)]), (11, .v false [.ref 1 [] 0 l91_4.length]), (12, .v false [.lit (.int .i64 i91_0)])], [some ⟨[.sc], (List.map (rI .i64) l76_3)⟩, some ⟨[.sc], (List.map (rI .i64) l91_4)⟩, some ⟨[.own [.sc]], (List.map (rL (rI .i64)) ([] : List (List Int)))⟩, some ⟨[.own [.sc]], (List.map (rL (rI .i64)) ([] : List (List Int)))⟩, some ⟨[.own [.sc]], (List.map (rL (rI .i64)) l43_4)⟩, some ⟨[.own [.sc]], (List.map (rL (rI .i64)) l43_5)⟩], [some [.lit (.int .i64 0), .lit (.int .i64 0), .lit (.int .i64 0), .ref 2 [] 0 (([] : List (List Int)).length), .ref 3 [] 0 (([] : List (List Int)).length)], some [.ro [.sc] (l91_1.map (rI .u8)), .lit (.int .i64 i91_2), .lit (.int .i64 i91_3)], some [.lit (.int .i64 x0_2.1), .lit (.int .i64 x0_3.1), .lit (.int .i64 x0_4.1), .ref 4 [] 0 l43_4.length, .ref 5 [] 0 l43_5.length]]⟩
def K_spec_DecodeTones_84 : List Fr := [.bk 1, .sq c_spec_DecodeTones_104, .lp [0, 3, 4, 5, 7] c_spec_DecodeTones_43, .bk 0, .sq (.kp [0, 3, 4, 5] c_spec_DecodeTones_105)]
def s_spec_DecodeTones_84 (p0 : (List Int)) (i43_0 : Int) (x76_0 : Int × S_l10R) (x0_2 : Int × S_l10R) (x0_3 : Int × S_l10R) (x0_4 : Int × S_l10R) (l76_3 : (List Int)) (l43_4 : (List (List Int))) (l43_5 : (List (List Int))) (l84_0 : (List Int)) (i84_1 : Int) (i84_2 : Int) : St :=
  ⟨mkSl 179 [(0, .v false [.ro [.sc] (p0.map (rI .u8))]), (3, .v false [.vptr 0 0]), (4, .v false [.vptr 1 0]), (5, .v false [.vptr 2 0]), (7, .v false [.lit (.int .i64 i43_0)]), (8, .v false [.ref 0 [] 0 l76_3.length]), (10, .v false [.lit (.int .i64 x76_0.1)])], [some ⟨[.sc], (List.map (rI .i64) l76_3)⟩, some ⟨[.own [.sc]], (List.map (rL (rI .i64)) ([] : List (List Int)))⟩, some ⟨[.own [.sc]], (List.map (rL (rI .i64)) ([] : List (List Int)))⟩, some ⟨[.own [.sc]], (List.map (rL (rI .i64)) l43_4)⟩, some ⟨[.own [.sc]], (List.map (rL (rI .i64)) l43_5)⟩], [some [.lit (.int .i64 0), .lit (.int .i64 0), .lit (.int .i64 0), .ref 1 [] 0 (([] : List (List Int)).length), .ref 2 [] 0 (([] : List (List Int)).length)], some [.ro [.sc] (l84_0.map (rI .u8)), .lit (.int .i64 i84_1), .lit (.int .i64 i84_2)], some [.lit (.int .i64 x0_2.1), .lit (.int .i64 x0_3.1), .lit (.int .i64 x0_4.1), .ref 3 [] 0 l43_4.length, .ref 4 [] 0 l43_5.length]]⟩
def K_spec_DecodeTones_81 : List Fr := [.sq (.kp [0, 3, 4, 5, 7, 8, 10] c_spec_DecodeTones_84), .bk 1, .sq c_spec_DecodeTones_104, .lp [0, 3, 4, 5, 7] c_spec_DecodeTones_43, .bk 0, .sq (.kp [0, 3, 4, 5] c_spec_DecodeTones_105)]
def s_spec_DecodeTones_81 (p0 : (List Int)) (i43_0 : Int) (x76_0 : Int × S_l10R) (x0_2 : Int × S_l10R) (x0_3 : Int × S_l10R) (x0_4 : Int × S_l10R) (l76_3 : (List Int)) (l43_4 : (List (List Int))) (l43_5 : (List (List Int))) (b81_0 : Bool) : St :=
  ⟨mkSl 179 [(0, .v false [.ro [.sc] (p0.map (rI .u8))]), (3, .v false [.vptr 0 0]), (4, .v false [.vptr 1 0]), (5, .v false [.vptr 2 0]), (7, .v false [.lit (.int .i64 i43_0)]), (8, .v false [.ref 0 [] 0 l76_3.length]), (10, .v false [.lit (.int .i64 x76_0.1)]), (116, .v false [.lit (.bool b81_0)])], [some ⟨[.sc], (List.map (rI .i64) l76_3)⟩, some ⟨[.own [.sc]], (List.map (rL (rI .i64)) ([] : List (List Int)))⟩, some ⟨[.own [.sc]], (List.map (rL (rI .i64)) ([] : List (List Int)))⟩, some ⟨[.own [.sc]], (List.map (rL (rI .i64)) l43_4)⟩, some ⟨[.own [.sc]], (List.map (rL (rI .i64)) l43_5)⟩], [some [.lit (.int .i64 0), .lit (.int .i64 0), .lit (.int .i64 0), .ref 1 [] 0 (([] : List (List Int)).length), .ref 2 [] 0 (([] : List (List Int)).length)], some [.ro [.sc] (x76_0.2.data.map (rI .u8)), .lit (.int .i64 x76_0.2.at_), .lit (.int .i64 x76_0.2.err)], some [.lit (.int .i64 x0_2.1), .lit (.int .i64 x0_3.1), .lit (.int .i64 x0_4.1), .ref 3 [] 0 l43_4.length, .ref 4 [] 0 l43_5.length]]⟩
def K_spec_DecodeTones_76 : List Fr := [.bk 1, .sq c_spec_DecodeTones_104, .lp [0, 3, 4, 5, 7] c_spec_DecodeTones_43, .bk 0, .sq (.kp [0, 3, 4, 5] c_spec_DecodeTones_105)]
def s_spec_DecodeTones_76 (p0 : (List Int)) (i43_0 : Int) (x0_2 : Int × S_l10R) (x0_3 : Int × S_l10R) (x0_4 : Int × S_l10R) (l43_4 : (List (List Int))) (l43_5 : (List (List Int))) (l76_0 : (List Int)) (i76_1 : Int) (i76_2 : Int) (l76_3 : (List Int)) : St :=
  ⟨mkSl 179 [(0, .v false [.ro [.sc] (p0.map (rI .u8))]), (3, .v false [.vptr 0 0]), (4, .v false [.vptr 1 0]), (5, .v false [.vptr 2 0]), (7, .v false [.lit (.int .i64 i43_0)]), (8, .v false [.ref 0 [] 0 l76_3.length])], [some ⟨[.sc], (List.map (rI .i64) l76_3)⟩, some ⟨[.own [.sc]], (List.map (rL (rI .i64)) ([] : List (List Int)))⟩, some ⟨[.own [.sc]], (List.map (rL (rI .i64)) ([] : List (List Int)))⟩, some ⟨[.own [.sc]], (List.map (rL (rI .i64)) l43_4)⟩, some ⟨[.own [.sc]], (List.map (rL (rI .i64)) l43_5)⟩], [some [.lit (.int .i64 0), .lit (.int .i64 0), .lit (.int .i64 0), .ref 1 [] 0 (([] : List (List Int)).length), .ref 2 [] 0 (([] : List (List Int)).length)], some [.ro [.sc] (l76_0.map (rI .u8)), .lit (.int .i64 i76_1), .lit (.int .i64 i76_2)], some [.lit (.int .i64 x0_2.1), .lit (.int .i64 x0_3.1), .lit (.int .i64 x0_4.1), .ref 3 [] 0 l43_4.length, .ref 4 [] 0 l43_5.length]]⟩
def K_spec_DecodeTones_58 : List Fr := [.lp [0, 3, 4, 5, 7, 8, 82, 83] c_spec_DecodeTones_58, .bk 2, .sq (.kp [0, 3, 4, 5, 7, 8] c_spec_DecodeTones_76), .bk 1, .sq c_spec_DecodeTones_104, .lp [0, 3, 4, 5, 7] c_spec_DecodeTones_43, .bk 0, .sq (.kp [0, 3, 4, 5] c_spec_DecodeTones_105)]
def s_spec_DecodeTones_58 (p0 : (List Int)) (i43_0 : Int) (x0_2 : Int × S_l10R) (x0_3 : Int × S_l10R) (x0_4 : Int × S_l10R) (l43_4 : (List (List Int))) (l43_5 : (List (List Int))) (i58_0 : Int) (i58_1 : Int) (l58_2 : (List Int)) (i58_3 : Int) (i58_4 : Int) (l58_5 : (List Int)) : St :=
  ⟨mkSl 179 [(0, .v false [.ro [.sc] (p0.map (rI .u8))]), (3, .v false [.vptr 0 0]), (4, .v false [.vptr 1 0]), (5, .v false [.vptr 2 0]), (7, .v false [.lit (.int .i64 i43_0)]), (8, .v false [.ref 0 [] 0 l58_5.length]), (82, .v false [.lit (.int .i64 i58_0)]), (83, .v false [.lit (.int .i64 i58_1)])], [some ⟨[.sc], (List.map (rI .i64) l58_5)⟩, some ⟨[.own [.sc]], (List.map (rL (rI .i64)) ([] : List (List Int)))⟩, some ⟨[.own [.sc]], (List.map (rL (rI .i64)) ([] : List (List Int)))⟩, some ⟨[.own [.sc]], (List.map (rL (rI .i64)) l43_4)⟩, some ⟨[.own [.sc]], (List.map (rL (rI .i64)) l43_5)⟩], [some [.lit (.int .i64 0), .lit (.int .i64 0), .lit (.int .i64 0), .ref 1 [] 0 (([] : List (List Int)).length), .ref 2 [] 0 (([] : List (List Int)).length)], some [.ro [.sc] (l58_2.map (rI .u8)), .lit (.int .i64 i58_3), .lit (.int .i64 i58_4)], some [.lit (.int .i64 x0_2.1), .lit (.int .i64 x0_3.1), .lit (.int .i64 x0_4.1), .ref 3 [] 0 l43_4.length, .ref 4 [] 0 l43_5.length]]⟩
def K_spec_DecodeTones_113 : List Fr := []
def s_spec_DecodeTones_113 (x0_2 : Int × S_l10R) (x0_3 : Int × S_l10R) (x0_4 : Int × S_l10R) (l105_3 : (List (List Int))) (l105_4 : (List (List Int))) (l113_0 : (List Int)) (i113_1 : Int) (i113_2 : Int) : St :=
  ⟨mkSl 179 [(3, .v false [.vptr 0 0]), (4, .v false [.vptr 1 0]), (5, .v false [.vptr 2 0])], [some ⟨[.own [.sc]], (List.map (rL (rI .i64)) ([] : List (List Int)))⟩, some ⟨[.own [.sc]], (List.map (rL (rI .i64)) ([] : List (List Int)))⟩, some ⟨[.own [.sc]], (List.map (rL (rI .i64)) l105_3)⟩, some ⟨[.own [.sc]], (List.map (rL (rI .i64)) l105_4)⟩], [some [.lit (.int .i64 0), .lit (.int .i64 0), .lit (.int .i64 0), .ref 0 [] 0 (([] : List (List Int)).length), .ref 1 [] 0 (([] : List (List Int)).length)], some [.ro [.sc] (l113_0.map (rI .u8)), .lit (.int .i64 i113_1), .lit (.int .i64 i113_2)], some [.lit (.int .i64 x0_2.1), .lit (.int .i64 x0_3.1), .lit (.int .i64 x0_4.1), .ref 2 [] 0 l105_3.length, .ref 3 [] 0 l105_4.length]]⟩
def K_spec_DecodeTones_110 : List Fr := [.sq (.kp [3, 4, 5] c_spec_DecodeTones_113)]
def s_spec_DecodeTones_110 (x105_0 : S_l10R) (x0_2 : Int × S_l10R) (x0_3 : Int × S_l10R) (x0_4 : Int × S_l10R) (l105_3 : (List (List Int))) (l105_4 : (List (List Int))) (b110_0 : Bool) : St :=
  ⟨mkSl 179 [(3, .v false [.vptr 0 0]), (4, .v false [.vptr 1 0]), (5, .v false [.vptr 2 0]), (165, .v false [.lit (.bool b110_0)])], [some ⟨[.own [.sc]], (List.map (rL (rI .i64)) ([] : List (List Int)))⟩, some ⟨[.own [.sc]], (List.map (rL (rI .i64)) ([] : List (List Int)))⟩, some ⟨[.own [.sc]], (List.map (rL (rI .i64)) l105_3)⟩, some ⟨[.own [.sc]], (List.map (rL (rI .i64)) l105_4)⟩], [some [.lit (.int .i64 0), .lit (.int .i64 0), .lit (.int .i64 0), .ref 0 [] 0 (([] : List (List Int)).length), .ref 1 [] 0 (([] : List (List Int)).length)], some [.ro [.sc] (x105_0.data.map (rI .u8)), .lit (.int .i64 x105_0.at_), .lit (.int .i64 x105_0.err)], some [.lit (.int .i64 x0_2.1), .lit (.int .i64 x0_3.1), .lit (.int .i64 x0_4.1), .ref 2 [] 0 l105_3.length, .ref 3 [] 0 l105_4.length]]⟩
def K_spec_DecodeTones_105 : List Fr := []
def s_spec_DecodeTones_105 (p0 : (List Int)) (x0_2 : Int × S_l10R) (x0_3 : Int × S_l10R) (x0_4 : Int × S_l10R) (l105_0 : (List Int)) (i105_1 : Int) (i105_2 : Int) (l105_3 : (List (List Int))) (l105_4 : (List (List Int))) : St :=
  ⟨mkSl 179 [(0, .v false [.ro [.sc] (p0.map (rI .u8))]), (3, .v false [.vptr 0 0]), (4, .v false [.vptr 1 0]), (5, .v false [.vptr 2 0])], [some ⟨[.own [.sc]], (List.map (rL (rI .i64)) ([] : List (List Int)))⟩, some ⟨[.own [.sc]], (List.map (rL (rI .i64)) ([] : List (List Int)))⟩, some ⟨[.own [.sc]], (List.map (rL (rI .i64)) l105_3)⟩, some ⟨[.own [.sc]], (List.map (rL (rI .i64)) l105_4)⟩], [some [.lit (.int .i64 0), .lit (.int .i64 0), .lit (.int .i64 0), .ref 0 [] 0 (([] : List (List Int)).length), .ref 1 [] 0 (([] : List (List Int)).length)], some [.ro [.sc] (l105_0.map (rI .u8)), .lit (.int .i64 i105_1), .lit (.int .i64 i105_2)], some [.lit (.int .i64 x0_2.1), .lit (.int .i64 x0_3.1), .lit (.int .i64 x0_4.1), .ref 2 [] 0 l105_3.length, .ref 3 [] 0 l105_4.length]]⟩
def K_spec_DecodeTones_43 : List Fr := [.lp [0, 3, 4, 5, 7] c_spec_DecodeTones_43, .bk 0, .sq (.kp [0, 3, 4, 5] c_spec_DecodeTones_105)]
def s_spec_DecodeTones_43 (p0 : (List Int)) (x0_2 : Int × S_l10R) (x0_3 : Int × S_l10R) (x0_4 : Int × S_l10R) (i43_0 : Int) (l43_1 : (List Int)) (i43_2 : Int) (i43_3 : Int) (l43_4 : (List (List Int))) (l43_5 : (List (List Int))) : St :=
  ⟨mkSl 179 [(0, .v false [.ro [.sc] (p0.map (rI .u8))]), (3, .v false [.vptr 0 0]), (4, .v false [.vptr 1 0]), (5, .v false [.vptr 2 0]), (7, .v false [.lit (.int .i64 i43_0)])], [some ⟨[.own [.sc]], (List.map (rL (rI .i64)) ([] : List (List Int)))⟩, some ⟨[.own [.sc]], (List.map (rL (rI .i64)) ([] : List (List Int)))⟩, some ⟨[.own [.sc]], (List.map (rL (rI .i64)) l43_4)⟩, some ⟨[.own [.sc]], (List.map (rL (rI .i64)) l43_5)⟩], [some [.lit (.int .i64 0), .lit (.int .i64 0), .lit (.int .i64 0), .ref 0 [] 0 (([] : List (List Int)).length), .ref 1 [] 0 (([] : List (List Int)).length)], some [.ro [.sc] (l43_1.map (rI .u8)), .lit (.int .i64 i43_2), .lit (.int .i64 i43_3)], some [.lit (.int .i64 x0_2.1), .lit (.int .i64 x0_3.1), .lit (.int .i64 x0_4.1), .ref 2 [] 0 l43_4.length, .ref 3 [] 0 l43_5.length]]⟩
def K_spec_DecodeTones_30 : List Fr := []
def s_spec_DecodeTones_30 (p0 : (List Int)) (x0_2 : Int × S_l10R) (x0_3 : Int × S_l10R) (x0_4 : Int × S_l10R) (l30_0 : (List Int)) (i30_1 : Int) (i30_2 : Int) : St :=
  ⟨mkSl 179 [(0, .v false [.ro [.sc] (p0.map (rI .u8))]), (3, .v false [.vptr 0 0]), (4, .v false [.vptr 1 0]), (5, .v false [.vptr 2 0])], [some ⟨[.own [.sc]], (List.map (rL (rI .i64)) ([] : List (List Int)))⟩, some ⟨[.own [.sc]], (List.map (rL (rI .i64)) ([] : List (List Int)))⟩, some ⟨[.own [.sc]], (List.map (rL (rI .i64)) ([] : List (List Int)))⟩, some ⟨[.own [.sc]], (List.map (rL (rI .i64)) ([] : List (List Int)))⟩], [some [.lit (.int .i64 0), .lit (.int .i64 0), .lit (.int .i64 0), .ref 0 [] 0 (([] : List (List Int)).length), .ref 1 [] 0 (([] : List (List Int)).length)], some [.ro [.sc] (l30_0.map (rI .u8)), .lit (.int .i64 i30_1), .lit (.int .i64 i30_2)], some [.lit (.int .i64 x0_2.1), .lit (.int .i64 x0_3.1), .lit (.int .i64 x0_4.1), .ref 2 [] 0 (([] : List (List Int)).length), .ref 3 [] 0 (([] : List (List Int)).length)]]⟩
def K_spec_DecodeTones_27 : List Fr := [.sq (.kp [0, 3, 4, 5] c_spec_DecodeTones_30)]
def s_spec_DecodeTones_27 (p0 : (List Int)) (x0_5 : Int × S_l10R) (x0_2 : Int × S_l10R) (x0_3 : Int × S_l10R) (x0_4 : Int × S_l10R) (b27_0 : Bool) : St :=
  ⟨mkSl 179 [(0, .v false [.ro [.sc] (p0.map (rI .u8))]), (3, .v false [.vptr 0 0]), (4, .v false [.vptr 1 0]), (5, .v false [.vptr 2 0]), (53, .v false [.lit (.bool b27_0)])], [some ⟨[.own [.sc]], (List.map (rL (rI .i64)) ([] : List (List Int)))⟩, some ⟨[.own [.sc]], (List.map (rL (rI .i64)) ([] : List (List Int)))⟩, some ⟨[.own [.sc]], (List.map (rL (rI .i64)) ([] : List (List Int)))⟩, some ⟨[.own [.sc]], (List.map (rL (rI .i64)) ([] : List (List Int)))⟩], [some [.lit (.int .i64 0), .lit (.int .i64 0), .lit (.int .i64 0), .ref 0 [] 0 (([] : List (List Int)).length), .ref 1 [] 0 (([] : List (List Int)).length)], some [.ro [.sc] (x0_5.2.data.map (rI .u8)), .lit (.int .i64 x0_5.2.at_), .lit (.int .i64 x0_5.2.err)], some [.lit (.int .i64 x0_2.1), .lit (.int .i64 x0_3.1), .lit (.int .i64 x0_4.1), .ref 2 [] 0 (([] : List (List Int)).length), .ref 3 [] 0 (([] : List (List Int)).length)]]⟩
def K_spec_DecodeTones_0 : List Fr := []
def s_spec_DecodeTones_0 (p0 : (List Int)) : St :=
  ⟨mkSl 179 [(0, .v false [.ro [.sc] (p0.map (rI .u8))])], [], []⟩
def K_impl_DecodeTonesC1_0 : List Fr := []
def s_impl_DecodeTonesC1_0 (p0 : Int) : St :=
  ⟨mkSl 6 [(0, .v false [.lit (.int .i64 p0)])], [], []⟩
def K_impl_zmagic_33 : List Fr := []
def s_impl_zmagic_33 : St :=
  ⟨mkSl 24 [], [], []⟩
def K_impl_zmagic_7 : List Fr := [.lp [0, 1, 7, 8] c_impl_zmagic_7, .bk 0, .sq (.kp [] c_impl_zmagic_33)]
def s_impl_zmagic_7 (p0 : (List Int)) (p1 : ByteArray) (i7_0 : Int) : St :=
  ⟨mkSl 24 [(0, .v false [.ro [.sc] (p0.map (rI .u8))]), (1, .v false [.lit (.string p1)]), (7, .v false [.lit (.int .i64 (p1.size : Int))]), (8, .v false [.lit (.int .i64 i7_0)])], [], []⟩
def K_impl_zmagic_0 : List Fr := []
def s_impl_zmagic_0 (p0 : (List Int)) (p1 : ByteArray) : St :=
  ⟨mkSl 24 [(0, .v false [.ro [.sc] (p0.map (rI .u8))]), (1, .v false [.lit (.string p1)])], [], []⟩
def K_impl_ztake_bit_0 : List Fr := []
def s_impl_ztake_bit_0 (p0 : S_ztake) : St :=
  ⟨mkSl 46 [(0, .v false [.vptr 0 0])], [], [some [.ro [.sc] (p0.b.map (rI .u8)), .lit (.int .i64 p0.at_), .lit (.bool p0.short)]]⟩
def K_impl_ztake_take_19 : List Fr := []
def s_impl_ztake_take_19 (i19_0 : Int) (l19_1 : (List Int)) (i19_2 : Int) (b19_3 : Bool) : St :=
  ⟨mkSl 17 [(0, .v false [.vptr 0 0]), (5, .v false [.lit (.int .u64 i19_0)])], [], [some [.ro [.sc] (l19_1.map (rI .u8)), .lit (.int .i64 i19_2), .lit (.bool b19_3)]]⟩
def K_impl_ztake_take_9 : List Fr := [.lp [0, 5, 6, 7] c_impl_ztake_take_9, .bk 0, .sq (.kp [0, 5] c_impl_ztake_take_19)]
def s_impl_ztake_take_9 (p1 : Int) (i9_0 : Int) (i9_1 : Int) (l9_2 : (List Int)) (i9_3 : Int) (b9_4 : Bool) : St :=
  ⟨mkSl 17 [(0, .v false [.vptr 0 0]), (5, .v false [.lit (.int .u64 i9_0)]), (6, .v false [.lit (.int .i64 p1)]), (7, .v false [.lit (.int .i64 i9_1)])], [], [some [.ro [.sc] (l9_2.map (rI .u8)), .lit (.int .i64 i9_3), .lit (.bool b9_4)]]⟩
def K_impl_ztake_take_0 : List Fr := []
def s_impl_ztake_take_0 (p1 : Int) (p0 : S_ztake) : St :=
  ⟨mkSl 17 [(0, .v false [.vptr 0 0]), (1, .v false [.lit (.int .i64 p1)])], [], [some [.ro [.sc] (p0.b.map (rI .u8)), .lit (.int .i64 p0.at_), .lit (.bool p0.short)]]⟩
def K_impl_Unfold_0 : List Fr := []
def s_impl_Unfold_0 (p0 : Int) : St :=
  ⟨mkSl 11 [(0, .v false [.lit (.int .u64 p0)])], [], []⟩
def K_impl_ztake_fill_15 : List Fr := []
def s_impl_ztake_fill_15 (b15_0 : Bool) (l15_1 : (List Int)) (i15_2 : Int) (b15_3 : Bool) : St :=
  ⟨mkSl 17 [(0, .v false [.vptr 0 0]), (3, .v false [.lit (.bool b15_0)])], [], [some [.ro [.sc] (l15_1.map (rI .u8)), .lit (.int .i64 i15_2), .lit (.bool b15_3)]]⟩
def K_impl_ztake_fill_7 : List Fr := [.lp [0, 3] c_impl_ztake_fill_7, .bk 0, .sq (.kp [0, 3] c_impl_ztake_fill_15)]
def s_impl_ztake_fill_7 (b7_0 : Bool) (l7_1 : (List Int)) (i7_2 : Int) (b7_3 : Bool) : St :=
  ⟨mkSl 17 [(0, .v false [.vptr 0 0]), (3, .v false [.lit (.bool b7_0)])], [], [some [.ro [.sc] (l7_1.map (rI .u8)), .lit (.int .i64 i7_2), .lit (.bool b7_3)]]⟩
def K_impl_ztake_fill_0 : List Fr := []
def s_impl_ztake_fill_0 (p0 : S_ztake) : St :=
  ⟨mkSl 17 [(0, .v false [.vptr 0 0])], [], [some [.ro [.sc] (p0.b.map (rI .u8)), .lit (.int .i64 p0.at_), .lit (.bool p0.short)]]⟩
def K_impl_DecodeTones_137 : List Fr := [.bk 6, .sq c_impl_DecodeTones_156, .lp [0, 3, 4, 5, 6, 7, 8, 10, 78, 79, 122] c_impl_DecodeTones_108, .bk 5, .sq (.kp [0, 3, 4, 5, 6, 7, 8, 78, 79] c_impl_DecodeTones_157), .bk 2, .sq c_impl_DecodeTones_160, .lp [0, 3, 4, 5, 6, 78, 79] c_impl_DecodeTones_42, .bk 1, .sq (.kp [0, 3, 4, 5, 6] c_impl_DecodeTones_161)]
def s_impl_DecodeTones_137 (p0 : (List Int)) (i108_0 : Int) (i42_0 : Int) (i42_1 : Int) (i108_1 : Int) (i32_1 : Int) (i32_2 : Int) (i32_3 : Int) (l85_3 : (List Int)) (l108_5 : (List Int)) (l42_5 : (List (List Int))) (l42_6 : (List (List Int))) (i137_0 : Int) (l137_1 : (List Int)) (i137_2 : Int) (b137_3 : Bool) : St :=
  ⟨mkSl 204 [(0, .v false [.ro [.sc] (p0.map (rI .u8))]), (3, .v false [.vptr 0 0]), (4, .v false [.clo 88 []]), (5, .v false [.vptr 1 0]), (6, .v false [.vptr 2 0]), (7, .v false [.ref 0 [] 0 l85_3.length]), (8, .v false [.ref 1 [] 0 l108_5.length]), (10, .v false [.lit (.int .i64 i108_0)]), (11, .v false [.lit (.int .u64 i137_0)]), (78, .v false [.lit (.int .i64 i42_0)]), (79, .v false [.lit (.int .i64 i42_1)]), (122, .v false [.lit (.int .i64 i108_1)])], [some ⟨[.sc], (List.map (rI .i64) l85_3)⟩, some ⟨[.sc], (List.map (rI .i64) l108_5)⟩, some ⟨[.own [.sc]], (List.map (rL (rI .i64)) ([] : List (List Int)))⟩, some ⟨[.own [.sc]], (List.map (rL (rI .i64)) ([] : List (List Int)))⟩, some ⟨[.own [.sc]], (List.map (rL (rI .i64)) l42_5)⟩, some ⟨[.own [.sc]], (List.map (rL (rI .i64)) l42_6)⟩], [some [.lit (.int .i64 0), .lit (.int .i64 0), .lit (.int .i64 0), .ref 2 [] 0 (([] : List (List Int)).length), .ref 3 [] 0 (([] : List (List Int)).length)], some [.ro [.sc] (l137_1.map (rI .u8)), .lit (.int .i64 i137_2), .lit (.bool b137_3)], some [.lit (.int .i64 i32_1), .lit (.int .i64 i32_2), .lit (.int .i64 i32_3), .ref 4 [] 0 l42_5.length, .ref 5 [] 0 l42_6.length]]⟩
def K_impl_DecodeTones_121 : List Fr := [.lp [0, 3, 4, 5, 6, 7, 8, 10, 11, 78, 79, 122] c_impl_DecodeTones_121, .bk 7, .sq (.kp [0, 3, 4, 5, 6, 7, 8, 10, 11, 78, 79, 122] c_impl_DecodeTones_137), .bk 6, .sq c_impl_DecodeTones_156, .lp [0, 3, 4, 5, 6, 7, 8, 10, 78, 79, 122] c_impl_DecodeTones_108, .bk 5, .sq (.kp [0, 3, 4, 5, 6, 7, 8, 78, 79] c_impl_DecodeTones_157), .bk 2, .sq c_impl_DecodeTones_160, .lp [0, 3, 4, 5, 6, 78, 79] c_impl_DecodeTones_42, .bk 1, .sq (.kp [0, 3, 4, 5, 6] c_impl_DecodeTones_161)]
def s_impl_DecodeTones_121 (p0 : (List Int)) (i108_0 : Int) (i42_0 : Int) (i42_1 : Int) (i108_1 : Int) (i32_1 : Int) (i32_2 : Int) (i32_3 : Int) (l85_3 : (List Int)) (l108_5 : (List Int)) (l42_5 : (List (List Int))) (l42_6 : (List (List Int))) (i121_0 : Int) (l121_1 : (List Int)) (i121_2 : Int) (b121_3 : Bool) : St :=
  ⟨mkSl 204 [(0, .v false [.ro [.sc] (p0.map (rI .u8))]), (3, .v false [.vptr 0 0]), (4, .v false [.clo 88 []]), (5, .v false [.vptr 1 0]), (6, .v false [.vptr 2 0]), (7, .v false [.ref 0 [] 0 l85_3.length]), (8, .v false [.ref 1 [] 0 l108_5.length]), (10, .v false [.lit (.int .i64 i108_0)]), (11, .v false [.lit (.int .u64 i121_0)]), (78, .v false [.lit (.int .i64 i42_0)]), (79, .v false [.lit (.int .i64 i42_1)]), (122, .v false [.lit (.int .i64 i108_1)])], [some ⟨[.sc], (List.map (rI .i64) l85_3)⟩, some ⟨[.sc], (List.map (rI .i64) l108_5)⟩, some ⟨[.own [.sc]], (List.map (rL (rI .i64)) ([] : List (List Int)))⟩, some ⟨[.own [.sc]], (List.map (rL (rI .i64)) ([] : List (List Int)))⟩, some ⟨[.own [.sc]], (List.map (rL (rI .i64)) l42_5)⟩, some ⟨[.own [.sc]], (List.map (rL (rI .i64)) l42_6)⟩], [some [.lit (.int .i64 0), .lit (.int .i64 0), .lit (.int .i64 0), .ref 2 [] 0 (([] : List (List Int)).length), .ref 3 [] 0 (([] : List (List Int)).length)], some [.ro [.sc] (l121_1.map (rI .u8)), .lit (.int .i64 i121_2), .lit (.bool b121_3)], some [.lit (.int .i64 i32_1), .lit (.int .i64 i32_2), .lit (.int .i64 i32_3), .ref 4 [] 0 l42_5.length, .ref 5 [] 0 l42_6.length]]⟩
def K_impl_DecodeTones_157 : List Fr := [.bk 2, .sq c_impl_DecodeTones_160, .lp [0, 3, 4, 5, 6, 78, 79] c_impl_DecodeTones_42, .bk 1, .sq (.kp [0, 3, 4, 5, 6] c_impl_DecodeTones_161)]
def s_impl_DecodeTones_157 (p0 : (List Int)) (i42_0 : Int) (i42_1 : Int) (i32_1 : Int) (i32_2 : Int) (i32_3 : Int) (l85_3 : (List Int)) (l42_5 : (List (List Int))) (l42_6 : (List (List Int))) (l157_0 : (List Int)) (i157_1 : Int) (b157_2 : Bool) (l157_3 : (List Int)) : St :=
  ⟨mkSl 204 [(0, .v false [.ro [.sc] (p0.map (rI .u8))]), (3, .v false [.vptr 0 0]), (4, .v false [.clo 88 []]), (5, .v false [.vptr 1 0]), (6, .v false [.vptr 2 0]), (7, .v false [.ref 0 [] 0 l85_3.length]), (8, .v false [.ref 1 [] 0 l157_3.length]), (78, .v false [.lit (.int .i64 i42_0)]), (79, .v false [.lit (.int .i64 i42_1)])], [some ⟨[.sc], (List.map (rI .i64) l85_3)⟩, some ⟨[.sc], (List.map (rI .i64) l157_3)⟩, some ⟨[.own [.sc]], (List.map (rL (rI .i64)) ([] : List (List Int)))⟩, some ⟨[.own [.sc]], (List.map (rL (rI .i64)) ([] : List (List Int)))⟩, some ⟨[.own [.sc]], (List.map (rL (rI .i64)) l42_5)⟩, some ⟨[.own [.sc]], (List.map (rL (rI .i64)) l42_6)⟩], [some [.lit (.int .i64 0), .lit (.int .i64 0), .lit (.int .i64 0), .ref 2 [] 0 (([] : List (List Int)).length), .ref 3 [] 0 (([] : List (List Int)).length)], some [.ro [.sc] (l157_0.map (rI .u8)), .lit (.int .i64 i157_1), .lit (.bool b157_2)], some [.lit (.int .i64 i32_1), .lit (.int .i64 i32_2), .lit (.int .i64 i32_3), .ref 4 [] 0 l42_5.length, .ref 5 [] 0 l42_6.length]]⟩
def K_impl_DecodeTones_108 : List Fr := [.lp [0, 3, 4, 5, 6, 7, 8, 10, 78, 79, 122] c_impl_DecodeTones_108, .bk 5, .sq (.kp [0, 3, 4, 5, 6, 7, 8, 78, 79] c_impl_DecodeTones_157), .bk 2, .sq c_impl_DecodeTones_160, .lp [0, 3, 4, 5, 6, 78, 79] c_impl_DecodeTones_42, .bk 1, .sq (.kp [0, 3, 4, 5, 6] c_impl_DecodeTones_161)]
def s_impl_DecodeTones_108 (p0 : (List Int)) (i42_0 : Int) (i42_1 : Int) (i32_1 : Int) (i32_2 : Int) (i32_3 : Int) (l85_3 : (List Int)) (l42_5 : (List (List Int))) (l42_6 : (List (List Int))) (i108_0 : Int) (i108_1 : Int) (l108_2 : (List Int)) (i108_3 : Int) (b108_4 : Bool) (l108_5 : (List Int)) : St :=
  ⟨mkSl 204 [(0, .v false [.ro [.sc] (p0.map (rI .u8))]), (3, .v false [.vptr 0 0]), (4, .v false [.clo 88 []]), (5, .v false [.vptr 1 0]), (6, .v false [.vptr 2 0]), (7, .v false [.ref 0 [] 0 l85_3.length]), (8, .v false [.ref 1 [] 0 l108_5.length]), (10, .v false [.lit (.int .i64 i108_0)]), (78, .v false [.lit (.int .i64 i42_0)]), (79, .v false [.lit (.int .i64 i42_1)]), (122, .v false [.lit (.int .i64 i108_1)])], [some ⟨[.sc], (List.map (rI .i64) l85_3)⟩, some ⟨[.sc], (List.map (rI .i64) l108_5)⟩, some ⟨[.own [.sc]], (List.map (rL (rI .i64)) ([] : List (List Int)))⟩, some ⟨[.own [.sc]], (List.map (rL (rI .i64)) ([] : List (List Int)))⟩, some ⟨[.own [.sc]], (List.map (rL (rI .i64)) l42_5)⟩, some ⟨[.own [.sc]], (List.map (rL (rI .i64)) l42_6)⟩], [some [.lit (.int .i64 0), .lit (.int .i64 0), .lit (.int .i64 0), .ref 2 [] 0 (([] : List (List Int)).length), .ref 3 [] 0 (([] : List (List Int)).length)], some [.ro [.sc] (l108_2.map (rI .u8)), .lit (.int .i64 i108_3), .lit (.bool b108_4)], some [.lit (.int .i64 i32_1), .lit (.int .i64 i32_2), .lit (.int .i64 i32_3), .ref 4 [] 0 l42_5.length, .ref 5 [] 0 l42_6.length]]⟩
def K_impl_DecodeTones_85 : List Fr := [.bk 2, .sq c_impl_DecodeTones_160, .lp [0, 3, 4, 5, 6, 78, 79] c_impl_DecodeTones_42, .bk 1, .sq (.kp [0, 3, 4, 5, 6] c_impl_DecodeTones_161)]
def s_impl_DecodeTones_85 (p0 : (List Int)) (i42_0 : Int) (i42_1 : Int) (i32_1 : Int) (i32_2 : Int) (i32_3 : Int) (l42_5 : (List (List Int))) (l42_6 : (List (List Int))) (l85_0 : (List Int)) (i85_1 : Int) (b85_2 : Bool) (l85_3 : (List Int)) : St :=
  ⟨mkSl 204 [(0, .v false [.ro [.sc] (p0.map (rI .u8))]), (3, .v false [.vptr 0 0]), (4, .v false [.clo 88 []]), (5, .v false [.vptr 1 0]), (6, .v false [.vptr 2 0]), (7, .v false [.ref 0 [] 0 l85_3.length]), (8, .v false [.ref 1 [] 0 (([] : List Int).length)]), (78, .v false [.lit (.int .i64 i42_0)]), (79, .v false [.lit (.int .i64 i42_1)])], [some ⟨[.sc], (List.map (rI .i64) l85_3)⟩, some ⟨[.sc], (List.map (rI .i64) ([] : List Int))⟩, some ⟨[.own [.sc]], (List.map (rL (rI .i64)) ([] : List (List Int)))⟩, some ⟨[.own [.sc]], (List.map (rL (rI .i64)) ([] : List (List Int)))⟩, some ⟨[.own [.sc]], (List.map (rL (rI .i64)) l42_5)⟩, some ⟨[.own [.sc]], (List.map (rL (rI .i64)) l42_6)⟩], [some [.lit (.int .i64 0), .lit (.int .i64 0), .lit (.int .i64 0), .ref 2 [] 0 (([] : List (List Int)).length), .ref 3 [] 0 (([] : List (List Int)).length)], some [.ro [.sc] (l85_0.map (rI .u8)), .lit (.int .i64 i85_1), .lit (.bool b85_2)], some [.lit (.int .i64 i32_1), .lit (.int .i64 i32_2), .lit (.int .i64 i32_3), .ref 4 [] 0 l42_5.length, .ref 5 [] 0 l42_6.length]]⟩
def K_impl_DecodeTones_57 : List Fr := [.lp [0, 3, 4, 5, 6, 7, 8, 78, 79, 81] c_impl_DecodeTones_57, .bk 3, .sq (.kp [0, 3, 4, 5, 6, 7, 8, 78, 79] c_impl_DecodeTones_85), .bk 2, .sq c_impl_DecodeTones_160, .lp [0, 3, 4, 5, 6, 78, 79] c_impl_DecodeTones_42, .bk 1, .sq (.kp [0, 3, 4, 5, 6] c_impl_DecodeTones_161)]
def s_impl_DecodeTones_57 (p0 : (List Int)) (i42_0 : Int) (i42_1 : Int) (i32_1 : Int) (i32_2 : Int) (i32_3 : Int) (l42_5 : (List (List Int))) (l42_6 : (List (List Int))) (i57_0 : Int) (l57_1 : (List Int)) (i57_2 : Int) (b57_3 : Bool) (l57_4 : (List Int)) : St :=
  ⟨mkSl 204 [(0, .v false [.ro [.sc] (p0.map (rI .u8))]), (3, .v false [.vptr 0 0]), (4, .v false [.clo 88 []]), (5, .v false [.vptr 1 0]), (6, .v false [.vptr 2 0]), (7, .v false [.ref 0 [] 0 l57_4.length]), (8, .v false [.ref 1 [] 0 (([] : List Int).length)]), (78, .v false [.lit (.int .i64 i42_0)]), (79, .v false [.lit (.int .i64 i42_1)]), (81, .v false [.lit (.int .i64 i57_0)])], [some ⟨[.sc], (List.map (rI .i64) l57_4)⟩, some ⟨[.sc], (List.map (rI .i64) ([] : List Int))⟩, some ⟨[.own [.sc]], (List.map (rL (rI .i64)) ([] : List (List Int)))⟩, some ⟨[.own [.sc]], (List.map (rL (rI .i64)) ([] : List (List Int)))⟩, some ⟨[.own [.sc]], (List.map (rL (rI .i64)) l42_5)⟩, some ⟨[.own [.sc]], (List.map (rL (rI .i64)) l42_6)⟩], [some [.lit (.int .i64 0), .lit (.int .i64 0), .lit (.int .i64 0), .ref 2 [] 0 (([] : List (List Int)).length), .ref 3 [] 0 (([] : List (List Int)).length)], some [.ro [.sc] (l57_1.map (rI .u8)), .lit (.int .i64 i57_2), .lit (.bool b57_3)], some [.lit (.int .i64 i32_1), .lit (.int .i64 i32_2), .lit (.int .i64 i32_3), .ref 4 [] 0 l42_5.length, .ref 5 [] 0 l42_6.length]]⟩
def K_impl_DecodeTones_161 : List Fr := []
def s_impl_DecodeTones_161 (p0 : (List Int)) (i32_1 : Int) (i32_2 : Int) (i32_3 : Int) (l161_0 : (List Int)) (i161_1 : Int) (b161_2 : Bool) (l161_3 : (List (List Int))) (l161_4 : (List (List Int))) : St :=
  ⟨mkSl 204 [(0, .v false [.ro [.sc] (p0.map (rI .u8))]), (3, .v false [.vptr 0 0]), (4, .v false [.clo 88 []]), (5, .v false [.vptr 1 0]), (6, .v false [.vptr 2 0])], [some ⟨[.own [.sc]], (List.map (rL (rI .i64)) ([] : List (List Int)))⟩, some ⟨[.own [.sc]], (List.map (rL (rI .i64)) ([] : List (List Int)))⟩, some ⟨[.own [.sc]], (List.map (rL (rI .i64)) l161_3)⟩, some ⟨[.own [.sc]], (List.map (rL (rI .i64)) l161_4)⟩], [some [.lit (.int .i64 0), .lit (.int .i64 0), .lit (.int .i64 0), .ref 0 [] 0 (([] : List (List Int)).length), .ref 1 [] 0 (([] : List (List Int)).length)], some [.ro [.sc] (l161_0.map (rI .u8)), .lit (.int .i64 i161_1), .lit (.bool b161_2)], some [.lit (.int .i64 i32_1), .lit (.int .i64 i32_2), .lit (.int .i64 i32_3), .ref 2 [] 0 l161_3.length, .ref 3 [] 0 l161_4.length]]⟩
def K_impl_DecodeTones_42 : List Fr := [.lp [0, 3, 4, 5, 6, 78, 79] c_impl_DecodeTones_42, .bk 1, .sq (.kp [0, 3, 4, 5, 6] c_impl_DecodeTones_161)]
def s_impl_DecodeTones_42 (p0 : (List Int)) (i32_1 : Int) (i32_2 : Int) (i32_3 : Int) (i42_0 : Int) (i42_1 : Int) (l42_2 : (List Int)) (i42_3 : Int) (b42_4 : Bool) (l42_5 : (List (List Int))) (l42_6 : (List (List Int))) : St :=
  ⟨mkSl 204 [(0, .v false [.ro [.sc] (p0.map (rI .u8))]), (3, .v false [.vptr 0 0]), (4, .v false [.clo 88 []]), (5, .v false [.vptr 1 0]), (6, .v false [.vptr 2 0]), (78, .v false [.lit (.int .i64 i42_0)]), (79, .v false [.lit (.int .i64 i42_1)])], [some ⟨[.own [.sc]], (List.map (rL (rI .i64)) ([] : List (List Int)))⟩, some ⟨[.own [.sc]], (List.map (rL (rI .i64)) ([] : List (List Int)))⟩, some ⟨[.own [.sc]], (List.map (rL (rI .i64)) l42_5)⟩, some ⟨[.own [.sc]], (List.map (rL (rI .i64)) l42_6)⟩], [some [.lit (.int .i64 0), .lit (.int .i64 0), .lit (.int .i64 0), .ref 0 [] 0 (([] : List (List Int)).length), .ref 1 [] 0 (([] : List (List Int)).length)], some [.ro [.sc] (l42_2.map (rI .u8)), .lit (.int .i64 i42_3), .lit (.bool b42_4)], some [.lit (.int .i64 i32_1), .lit (.int .i64 i32_2), .lit (.int .i64 i32_3), .ref 2 [] 0 l42_5.length, .ref 3 [] 0 l42_6.length]]⟩
def K_impl_DecodeTones_32 : List Fr := [.sq c_impl_DecodeTones_37]
def s_impl_DecodeTones_32 (p0 : (List Int)) (x0_7 : Int × S_ztake) (b32_0 : Bool) (i32_1 : Int) (i32_2 : Int) (i32_3 : Int) : St :=
  ⟨mkSl 204 [(0, .v false [.ro [.sc] (p0.map (rI .u8))]), (3, .v false [.vptr 0 0]), (4, .v false [.clo 88 []]), (5, .v false [.vptr 1 0]), (6, .v false [.vptr 2 0]), (69, .v false [.lit (.bool b32_0)])], [some ⟨[.own [.sc]], (List.map (rL (rI .i64)) ([] : List (List Int)))⟩, some ⟨[.own [.sc]], (List.map (rL (rI .i64)) ([] : List (List Int)))⟩, some ⟨[.own [.sc]], (List.map (rL (rI .i64)) ([] : List (List Int)))⟩, some ⟨[.own [.sc]], (List.map (rL (rI .i64)) ([] : List (List Int)))⟩], [some [.lit (.int .i64 0), .lit (.int .i64 0), .lit (.int .i64 0), .ref 0 [] 0 (([] : List (List Int)).length), .ref 1 [] 0 (([] : List (List Int)).length)], some [.ro [.sc] (x0_7.2.b.map (rI .u8)), .lit (.int .i64 x0_7.2.at_), .lit (.bool x0_7.2.short)], some [.lit (.int .i64 i32_1), .lit (.int .i64 i32_2), .lit (.int .i64 i32_3), .ref 2 [] 0 (([] : List (List Int)).length), .ref 3 [] 0 (([] : List (List Int)).length)]]⟩
def K_impl_DecodeTones_0 : List Fr := []
def s_impl_DecodeTones_0 (p0 : (List Int)) : St :=
  ⟨mkSl 204 [(0, .v false [.ro [.sc] (p0.map (rI .u8))])], [], []⟩
def K_laws_eqIntS_31 : List Fr := []
def s_laws_eqIntS_31 : St :=
  ⟨mkSl 26 [], [], []⟩
def K_laws_eqIntS_15 : List Fr := [.lp [0, 1, 5] c_laws_eqIntS_15, .bk 0, .sq (.kp [] c_laws_eqIntS_31)]
def s_laws_eqIntS_15 (p0 : (List Int)) (p1 : (List Int)) (i15_0 : Int) : St :=
  ⟨mkSl 26 [(0, .v false [.ro [.sc] (p0.map (rI .i64))]), (1, .v false [.ro [.sc] (p1.map (rI .i64))]), (5, .v false [.lit (.int .i64 i15_0)])], [], []⟩
def K_laws_eqIntS_0 : List Fr := []
def s_laws_eqIntS_0 (p0 : (List Int)) (p1 : (List Int)) : St :=
  ⟨mkSl 26 [(0, .v false [.ro [.sc] (p0.map (rI .i64))]), (1, .v false [.ro [.sc] (p1.map (rI .i64))])], [], []⟩
def K_laws_eqIntSS_31 : List Fr := []
def s_laws_eqIntSS_31 : St :=
  ⟨mkSl 27 [], [], []⟩
def K_laws_eqIntSS_15 : List Fr := [.lp [0, 1, 5] c_laws_eqIntSS_15, .bk 0, .sq (.kp [] c_laws_eqIntSS_31)]
def s_laws_eqIntSS_15 (p0 : (List (List Int))) (p1 : (List (List Int))) (i15_0 : Int) : St :=
  ⟨mkSl 27 [(0, .v false [.ro [.ro [.sc]] (p0.map (rL (rI .i64)))]), (1, .v false [.ro [.ro [.sc]] (p1.map (rL (rI .i64)))]), (5, .v false [.lit (.int .i64 i15_0)])], [], []⟩
def K_laws_eqIntSS_0 : List Fr := []
def s_laws_eqIntSS_0 (p0 : (List (List Int))) (p1 : (List (List Int))) : St :=
  ⟨mkSl 27 [(0, .v false [.ro [.ro [.sc]] (p0.map (rL (rI .i64)))]), (1, .v false [.ro [.ro [.sc]] (p1.map (rL (rI .i64)))])], [], []⟩
def K_laws_eqTones_0 : List Fr := []
def s_laws_eqTones_0 (p0 : S_Tones) (p1 : S_Tones) : St :=
  ⟨mkSl 32 [(0, .v true [.lit (.int .i64 p0.rate), .lit (.int .i64 p0.quality), .lit (.int .i64 p0.length), .ro [.ro [.sc]] (p0.slots.map (rL (rI .i64))), .ro [.ro [.sc]] (p0.grades.map (rL (rI .i64)))]), (1, .v true [.lit (.int .i64 p1.rate), .lit (.int .i64 p1.quality), .lit (.int .i64 p1.length), .ro [.ro [.sc]] (p1.slots.map (rL (rI .i64))), .ro [.ro [.sc]] (p1.grades.map (rL (rI .i64)))])], [], []⟩
def K_laws_eqByteS_31 : List Fr := []
def s_laws_eqByteS_31 : St :=
  ⟨mkSl 26 [], [], []⟩
def K_laws_eqByteS_15 : List Fr := [.lp [0, 1, 5] c_laws_eqByteS_15, .bk 0, .sq (.kp [] c_laws_eqByteS_31)]
def s_laws_eqByteS_15 (p0 : (List Int)) (p1 : (List Int)) (i15_0 : Int) : St :=
  ⟨mkSl 26 [(0, .v false [.ro [.sc] (p0.map (rI .u8))]), (1, .v false [.ro [.sc] (p1.map (rI .u8))]), (5, .v false [.lit (.int .i64 i15_0)])], [], []⟩
def K_laws_eqByteS_0 : List Fr := []
def s_laws_eqByteS_0 (p0 : (List Int)) (p1 : (List Int)) : St :=
  ⟨mkSl 26 [(0, .v false [.ro [.sc] (p0.map (rI .u8))]), (1, .v false [.ro [.sc] (p1.map (rI .u8))])], [], []⟩
def K_laws_markByteS_19 : List Fr := []
def s_laws_markByteS_19 (i19_0 : Int) (l19_1 : (List Int)) : St :=
  ⟨mkSl 20 [(0, .v false [.ref 0 [] 0 l19_1.length]), (1, .v false [.lit (.int .i64 i19_0)])], [some ⟨[.sc], (List.map (rI .u8) l19_1)⟩], []⟩
def K_laws_markByteS_7 : List Fr := [.lp [0, 1, 5] c_laws_markByteS_7, .bk 0, .sq (.kp [0, 1] c_laws_markByteS_19)]
def s_laws_markByteS_7 (i7_0 : Int) (i7_1 : Int) (l7_2 : (List Int)) : St :=
  ⟨mkSl 20 [(0, .v false [.ref 0 [] 0 l7_2.length]), (1, .v false [.lit (.int .i64 i7_0)]), (5, .v false [.lit (.int .i64 i7_1)])], [some ⟨[.sc], (List.map (rI .u8) l7_2)⟩], []⟩
def K_laws_markByteS_0 : List Fr := []
def s_laws_markByteS_0 (p1 : Int) (p0 : (List Int)) : St :=
  ⟨mkSl 20 [(0, .v false [.ref 0 [] 0 p0.length]), (1, .v false [.lit (.int .i64 p1)])], [some ⟨[.sc], (List.map (rI .u8) p0)⟩], []⟩
def K_laws_markIntS_19 : List Fr := []
def s_laws_markIntS_19 (i19_0 : Int) (l19_1 : (List Int)) : St :=
  ⟨mkSl 19 [(0, .v false [.ref 0 [] 0 l19_1.length]), (1, .v false [.lit (.int .i64 i19_0)])], [some ⟨[.sc], (List.map (rI .i64) l19_1)⟩], []⟩
def K_laws_markIntS_7 : List Fr := [.lp [0, 1, 5] c_laws_markIntS_7, .bk 0, .sq (.kp [0, 1] c_laws_markIntS_19)]
def s_laws_markIntS_7 (i7_0 : Int) (i7_1 : Int) (l7_2 : (List Int)) : St :=
  ⟨mkSl 19 [(0, .v false [.ref 0 [] 0 l7_2.length]), (1, .v false [.lit (.int .i64 i7_0)]), (5, .v false [.lit (.int .i64 i7_1)])], [some ⟨[.sc], (List.map (rI .i64) l7_2)⟩], []⟩
def K_laws_markIntS_0 : List Fr := []
def s_laws_markIntS_0 (p1 : Int) (p0 : (List Int)) : St :=
  ⟨mkSl 19 [(0, .v false [.ref 0 [] 0 p0.length]), (1, .v false [.lit (.int .i64 p1)])], [some ⟨[.sc], (List.map (rI .i64) p0)⟩], []⟩
def K_laws_markIntSS_17 : List Fr := []
def s_laws_markIntSS_17 (i17_0 : Int) (l17_1 : (List (List Int))) : St :=
  ⟨mkSl 19 [(0, .v false [.ref 0 [] 0 l17_1.length]), (1, .v false [.lit (.int .i64 i17_0)])], [some ⟨[.own [.sc]], (List.map (rL (rI .i64)) l17_1)⟩], []⟩
def K_laws_markIntSS_7 : List Fr := [.lp [0, 1, 5] c_laws_markIntSS_7, .bk 0, .sq (.kp [0, 1] c_laws_markIntSS_17)]
def s_laws_markIntSS_7 (i7_0 : Int) (i7_1 : Int) (l7_2 : (List (List Int))) : St :=
  ⟨mkSl 19 [(0, .v false [.ref 0 [] 0 l7_2.length]), (1, .v false [.lit (.int .i64 i7_0)]), (5, .v false [.lit (.int .i64 i7_1)])], [some ⟨[.own [.sc]], (List.map (rL (rI .i64)) l7_2)⟩], []⟩
def K_laws_markIntSS_0 : List Fr := []
def s_laws_markIntSS_0 (p1 : Int) (p0 : (List (List Int))) : St :=
  ⟨mkSl 19 [(0, .v false [.ref 0 [] 0 p0.length]), (1, .v false [.lit (.int .i64 p1)])], [some ⟨[.own [.sc]], (List.map (rL (rI .i64)) p0)⟩], []⟩
def K_laws_markTones_0 : List Fr := []
def s_laws_markTones_0 (p0 : S_Tones) (p1 : Int) : St :=
  ⟨mkSl 14 [(0, .v true [.lit (.int .i64 p0.rate), .lit (.int .i64 p0.quality), .lit (.int .i64 p0.length), .ref 0 [] 0 p0.slots.length, .ref 1 [] 0 p0.grades.length]), (1, .v false [.lit (.int .i64 p1)])], [some ⟨[.own [.sc]], (List.map (rL (rI .i64)) p0.slots)⟩, some ⟨[.own [.sc]], (List.map (rL (rI .i64)) p0.grades)⟩], []⟩
def K_laws_heldIntS_25 : List Fr := []
def s_laws_heldIntS_25 (i25_0 : Int) : St :=
  ⟨mkSl 21 [(1, .v false [.lit (.int .i64 i25_0)])], [], []⟩
def K_laws_heldIntS_7 : List Fr := [.lp [0, 1, 5] c_laws_heldIntS_7, .bk 0, .sq (.kp [1] c_laws_heldIntS_25)]
def s_laws_heldIntS_7 (p0 : (List Int)) (i7_0 : Int) (i7_1 : Int) : St :=
  ⟨mkSl 21 [(0, .v false [.ro [.sc] (p0.map (rI .i64))]), (1, .v false [.lit (.int .i64 i7_0)]), (5, .v false [.lit (.int .i64 i7_1)])], [], []⟩
def K_laws_heldIntS_0 : List Fr := []
def s_laws_heldIntS_0 (p0 : (List Int)) (p1 : Int) : St :=
  ⟨mkSl 21 [(0, .v false [.ro [.sc] (p0.map (rI .i64))]), (1, .v false [.lit (.int .i64 p1)])], [], []⟩
def K_laws_heldIntSS_25 : List Fr := []
def s_laws_heldIntSS_25 (i25_0 : Int) : St :=
  ⟨mkSl 21 [(1, .v false [.lit (.int .i64 i25_0)])], [], []⟩
def K_laws_heldIntSS_7 : List Fr := [.lp [0, 1, 5] c_laws_heldIntSS_7, .bk 0, .sq (.kp [1] c_laws_heldIntSS_25)]
def s_laws_heldIntSS_7 (p0 : (List (List Int))) (i7_0 : Int) (i7_1 : Int) : St :=
  ⟨mkSl 21 [(0, .v false [.ro [.ro [.sc]] (p0.map (rL (rI .i64)))]), (1, .v false [.lit (.int .i64 i7_0)]), (5, .v false [.lit (.int .i64 i7_1)])], [], []⟩
def K_laws_heldIntSS_0 : List Fr := []
def s_laws_heldIntSS_0 (p0 : (List (List Int))) (p1 : Int) : St :=
  ⟨mkSl 21 [(0, .v false [.ro [.ro [.sc]] (p0.map (rL (rI .i64)))]), (1, .v false [.lit (.int .i64 p1)])], [], []⟩
def K_laws_heldTones_0 : List Fr := []
def s_laws_heldTones_0 (p0 : S_Tones) (p1 : Int) : St :=
  ⟨mkSl 18 [(0, .v true [.lit (.int .i64 p0.rate), .lit (.int .i64 p0.quality), .lit (.int .i64 p0.length), .ro [.ro [.sc]] (p0.slots.map (rL (rI .i64))), .ro [.ro [.sc]] (p0.grades.map (rL (rI .i64)))]), (1, .v false [.lit (.int .i64 p1)])], [], []⟩
def K_laws_FnExactDecodeTones_0 : List Fr := []
def s_laws_FnExactDecodeTones_0 (p0 : (List Int)) : St :=
  ⟨mkSl 93 [(0, .v false [.ro [.sc] (p0.map (rI .u8))])], [], []⟩
def O_laws_toByteS_9 (Q : VX → St → Prop) (e : ((List Int))) : Prop := EvU ext tbl (.c c_laws_toByteS_19) K_laws_toByteS_19 (s_laws_toByteS_19 e) Q
theorem ok_laws_toByteS_19 (l19_0 : (List Int)) (r : (List Int)) (hm : m_laws_toByteS_19 l19_0 = some r) : EvU ext tbl (.c c_laws_toByteS_19) K_laws_toByteS_19 (s_laws_toByteS_19 l19_0) (Post vf_laws_toByteS (res_laws_toByteS r)) := by
  exact go_end [.rows (List.map (rI .u8) l19_0)] 1000 (And.intro (all_le0 (rI .u8) l19_0 rfl) (And.intro (all_t (rI .u8) l19_0 rfl) True.intro)) (congrArg res_laws_toByteS (Option.some.inj hm)) (by kernel_rfl)

theorem ok_laws_toByteS_9 (p0 : (List Int)) (i9_0 : Int) (l9_1 : (List Int)) (y : (Int × (List Int)) ⊕ (((List Int)))) (hm : m_laws_toByteS_9 p0 i9_0 l9_1 = some y) (Q : VX → St → Prop)
    (hin : ∀ s, y = .inl s → EvU ext tbl (.c c_laws_toByteS_9) K_laws_toByteS_9 (s_laws_toByteS_9 p0 s.1 s.2) Q) (hout : ∀ e, y = .inr e → O_laws_toByteS_9 Q e) : EvU ext tbl (.c c_laws_toByteS_9) K_laws_toByteS_9 (s_laws_toByteS_9 p0 i9_0 l9_1) Q := by
  obtain ⟨h9_0, hm⟩ | ⟨h9_0, hm⟩ := split_ite hm
  · skip
    obtain ⟨x9_1, h9_1, hm⟩ := bind_some hm
    obtain ⟨x9_2, h9_2, hm⟩ := bind_some hm
    refine go_on (u' := .c c_laws_toByteS_9) (K' := K_laws_toByteS_9) (st' := s_laws_toByteS_9 p0 (w64 (i9_0 + 1)) (l9_1.set (0 + Int.toNat i9_0) x9_1)) [.num p0.length, .bit true, .row ((rI .u8) x9_1), .rows (List.map (rI .u8) (l9_1.set (0 + Int.toNat i9_0) x9_1)), .num ((l9_1.set (0 + Int.toNat i9_0) x9_1).length)] 1000 (And.intro (len_map (rI .u8) (show p0.length = p0.length from rfl)) (And.intro h9_0 (And.intro (rd_nn h9_1) (And.intro (at_row (rI .u8) (rd_get h9_1)) (And.intro (rd_in rfl h9_2) (And.intro (put_ob (rI .u8) x9_1 0 (.lit (.int .u8 x9_1)) (rd_get0 h9_2) (by kernel_rfl) (by kernel_rfl)) (And.intro (lens l9_1.length ((l9_1.set (0 + Int.toNat i9_0) x9_1).length) (set_len rfl)) True.intro))))))) ?_ (by kernel_rfl)
    exact hin ((w64 (i9_0 + 1)), (l9_1.set (0 + Int.toNat i9_0) x9_1)) (Option.some.inj hm).symm
  · skip
    refine go_on (u' := .c c_laws_toByteS_19) (K' := K_laws_toByteS_19) (st' := s_laws_toByteS_19 l9_1) [.num p0.length, .bit false, .num l9_1.length] 1000 (And.intro (len_map (rI .u8) (show p0.length = p0.length from rfl)) (And.intro h9_0 (And.intro (lens l9_1.length l9_1.length rfl) True.intro))) ?_ (by kernel_rfl)
    exact hout l9_1 (Option.some.inj hm).symm

theorem ok_laws_toByteS_0 (p0 : (List Int)) (r : (List Int)) (hm : m_laws_toByteS_0 p0 = some r) : EvU ext tbl (.c c_laws_toByteS_0) K_laws_toByteS_0 (s_laws_toByteS_0 p0) (Post vf_laws_toByteS (res_laws_toByteS r)) := by
  obtain ⟨x0_0, h0_0, hm⟩ := bind_some hm
  refine go_on (u' := .c c_laws_toByteS_9) (K' := K_laws_toByteS_9) (st' := s_laws_toByteS_9 p0 0 (List.replicate (Int.toNat (p0.length : Int)) (0 : Int))) [.num p0.length, .rows (List.map (rI .u8) (List.replicate (Int.toNat (p0.length : Int)) (0 : Int))), .num (Int.toNat (p0.length : Int)), .num ((List.replicate (Int.toNat (p0.length : Int)) (0 : Int)).length)] 1000 (And.intro (len_map (rI .u8) (show p0.length = p0.length from rfl)) (And.intro (ck_p h0_0) (And.intro (rep_ob (rI .u8) (Int.toNat (p0.length : Int)) (0 : Int) [.lit (.int .u8 0)] (by kernel_rfl)) (And.intro (len_map (rI .u8) (show (Int.toNat (p0.length : Int)) = (List.replicate (Int.toNat (p0.length : Int)) (0 : Int)).length from (rep_len (Int.toNat (p0.length : Int)) (0 : Int)))) (And.intro (lens (Int.toNat (p0.length : Int)) ((List.replicate (Int.toNat (p0.length : Int)) (0 : Int)).length) (rep_len (Int.toNat (p0.length : Int)) (0 : Int))) True.intro))))) ?_ (by kernel_rfl)
  obtain ⟨e, he, hm⟩ := bind_some hm
  refine loop_rule (u := .c c_laws_toByteS_9) (K := K_laws_toByteS_9) (Q := (Post vf_laws_toByteS (res_laws_toByteS r))) (b := lp_laws_toByteS_9 p0) (We := O_laws_toByteS_9 (Post vf_laws_toByteS (res_laws_toByteS r))) (stJ := fun s => s_laws_toByteS_9 p0 s.1 s.2) (s := (0, (List.replicate (Int.toNat (p0.length : Int)) (0 : Int)))) (fun s y hb hin hout => ok_laws_toByteS_9 p0 s.1 s.2 y hb (Post vf_laws_toByteS (res_laws_toByteS r)) hin hout) he ?_
  show EvU ext tbl (.c c_laws_toByteS_19) K_laws_toByteS_19 (s_laws_toByteS_19 e) _
  exact ok_laws_toByteS_19 e r hm

theorem ok_laws_toByteS (p0 : (List Int)) (r : (List Int)) (hm : m_laws_toByteS p0 = some r) : Runs ext tbl 22 (as_laws_toByteS p0) (res_laws_toByteS r) :=
  runs_of (vf := vf_laws_toByteS) (by kernel_rfl) rfl (st := (enter vf_laws_toByteS (as_laws_toByteS p0)).getD default) (by kernel_rfl) (go_on [] 1000 True.intro (ok_laws_toByteS_0 p0 r hm) (by kernel_rfl))
theorem ok_spec_l1Bit_0 (p0 : (List Int)) (p1 : Int) (p2 : Bool) (r : Int) (hm : m_spec_l1Bit_0 p0 p1 p2 = some r) : EvU ext tbl (.c c_spec_l1Bit_0) K_spec_l1Bit_0 (s_spec_l1Bit_0 p0 p1 p2) (Post vf_spec_l1Bit (res_spec_l1Bit r)) := by
  obtain ⟨h0_0, hm⟩ | ⟨h0_0, hm⟩ := split_ite hm
  · skip
    obtain ⟨x0_1, h0_1, hm⟩ := bind_some hm
    obtain ⟨x0_2, h0_2, hm⟩ := bind_some hm
    exact go_end [.bit true, .row ((rI .u8) x0_1)] 1000 (And.intro h0_0 (And.intro (by decide : (8 : Int) ≠ 0) (And.intro (rd_nn h0_1) (And.intro (at_row (rI .u8) (rd_get h0_1)) (And.intro (by decide : (8 : Int) ≠ 0) (And.intro (ck_p h0_2) True.intro)))))) (congrArg res_spec_l1Bit (Option.some.inj hm)) (by kernel_rfl)
  · skip
    obtain ⟨x0_1, h0_1, hm⟩ := bind_some hm
    obtain ⟨x0_2, h0_2, hm⟩ := bind_some hm
    exact go_end [.bit false, .row ((rI .u8) x0_1)] 1000 (And.intro h0_0 (And.intro (by decide : (8 : Int) ≠ 0) (And.intro (rd_nn h0_1) (And.intro (at_row (rI .u8) (rd_get h0_1)) (And.intro (by decide : (8 : Int) ≠ 0) (And.intro (ck_p h0_2) True.intro)))))) (congrArg res_spec_l1Bit (Option.some.inj hm)) (by kernel_rfl)

theorem ok_spec_l1Bit (p0 : (List Int)) (p1 : Int) (p2 : Bool) (r : Int) (hm : m_spec_l1Bit p0 p1 p2 = some r) : Runs ext tbl 212 (as_spec_l1Bit p0 p1 p2) (res_spec_l1Bit r) :=
  runs_of (vf := vf_spec_l1Bit) (by kernel_rfl) rfl (st := (enter vf_spec_l1Bit (as_spec_l1Bit p0 p1 p2)).getD default) (by kernel_rfl) (go_on [] 1000 True.intro (ok_spec_l1Bit_0 p0 p1 p2 r hm) (by kernel_rfl))
def O_spec_l1Take_17 (p1 : Int) (p2 : Int) (Q : VX → St → Prop) (e : (Int)) : Prop := EvU ext tbl (.c c_spec_l1Take_33) K_spec_l1Take_33 (s_spec_l1Take_33 p1 p2 e) Q
theorem ok_spec_l1Take_33 (p1 : Int) (p2 : Int) (i33_0 : Int) (r : S_Number) (hm : m_spec_l1Take_33 p1 p2 i33_0 = some r) : EvU ext tbl (.c c_spec_l1Take_33) K_spec_l1Take_33 (s_spec_l1Take_33 p1 p2 i33_0) (Post vf_spec_l1Take (res_spec_l1Take r)) := by
  exact go_end [] 1000 True.intro (congrArg res_spec_l1Take (Option.some.inj hm)) (by kernel_rfl)

theorem ok_spec_l1Take_17 (p0 : (List Int)) (p1 : Int) (p2 : Int) (p3 : Bool) (i17_0 : Int) (i17_1 : Int) (y : (Int × Int) ⊕ ((Int))) (hm : m_spec_l1Take_17 p0 p1 p2 p3 i17_0 i17_1 = some y) (Q : VX → St → Prop)
    (hin : ∀ s, y = .inl s → EvU ext tbl (.c c_spec_l1Take_17) K_spec_l1Take_17 (s_spec_l1Take_17 p0 p1 p2 p3 s.1 s.2) Q) (hout : ∀ e, y = .inr e → O_spec_l1Take_17 p1 p2 Q e) : EvU ext tbl (.c c_spec_l1Take_17) K_spec_l1Take_17 (s_spec_l1Take_17 p0 p1 p2 p3 i17_0 i17_1) Q := by
  obtain ⟨h17_0, hm⟩ | ⟨h17_0, hm⟩ := split_ite hm
  · skip
    obtain ⟨x17_1, h17_1, hm⟩ := bind_some hm
    obtain ⟨h17_2, hm⟩ | ⟨h17_2, hm⟩ := split_ite hm
    · skip
      refine go_on (u' := .c c_spec_l1Take_17) (K' := K_spec_l1Take_17) (st' := s_spec_l1Take_17 p0 p1 p2 p3 (wr .u64 ((wr .u64 (i17_0 * 2)) + x17_1)) (w64 (i17_1 + 1))) [.bit true, .res (res_spec_l1Bit x17_1), .bit true] 1000 (And.intro h17_0 (And.intro (ok_spec_l1Bit p0 (w64 (p1 + i17_1)) p3 x17_1 h17_1) (And.intro h17_2 True.intro))) ?_ (by kernel_rfl)
      exact hin ((wr .u64 ((wr .u64 (i17_0 * 2)) + x17_1)), (w64 (i17_1 + 1))) (Option.some.inj hm).symm
    · skip
      obtain ⟨x17_3, h17_3, hm⟩ := bind_some hm
      refine go_on (u' := .c c_spec_l1Take_17) (K' := K_spec_l1Take_17) (st' := s_spec_l1Take_17 p0 p1 p2 p3 (orI .u64 i17_0 (shlI .u64 x17_1 (wr .u64 i17_1))) (w64 (i17_1 + 1))) [.bit true, .res (res_spec_l1Bit x17_1), .bit false] 1000 (And.intro h17_0 (And.intro (ok_spec_l1Bit p0 (w64 (p1 + i17_1)) p3 x17_1 h17_1) (And.intro h17_2 (And.intro (ck_p h17_3) True.intro)))) ?_ (by kernel_rfl)
      exact hin ((orI .u64 i17_0 (shlI .u64 x17_1 (wr .u64 i17_1))), (w64 (i17_1 + 1))) (Option.some.inj hm).symm
  · skip
    refine go_on (u' := .c c_spec_l1Take_33) (K' := K_spec_l1Take_33) (st' := s_spec_l1Take_33 p1 p2 i17_0) [.bit false] 1000 (And.intro h17_0 True.intro) ?_ (by kernel_rfl)
    exact hout i17_0 (Option.some.inj hm).symm

theorem ok_spec_l1Take_5 (p0 : (List Int)) (p1 : Int) (p2 : Int) (p3 : Bool) (b5_0 : Bool) (r : S_Number) (hm : m_spec_l1Take_5 p0 p1 p2 p3 b5_0 = some r) : EvU ext tbl (.c c_spec_l1Take_5) K_spec_l1Take_5 (s_spec_l1Take_5 p0 p1 p2 p3 b5_0) (Post vf_spec_l1Take (res_spec_l1Take r)) := by
  obtain ⟨h5_0, hm⟩ | ⟨h5_0, hm⟩ := split_ite hm
  · skip
    exact go_end [.bit true] 1000 (And.intro h5_0 True.intro) (congrArg res_spec_l1Take (Option.some.inj hm)) (by kernel_rfl)
  · skip
    refine go_on (u' := .c c_spec_l1Take_17) (K' := K_spec_l1Take_17) (st' := s_spec_l1Take_17 p0 p1 p2 p3 0 0) [.bit false] 1000 (And.intro h5_0 True.intro) ?_ (by kernel_rfl)
    obtain ⟨e, he, hm⟩ := bind_some hm
    refine loop_rule (u := .c c_spec_l1Take_17) (K := K_spec_l1Take_17) (Q := (Post vf_spec_l1Take (res_spec_l1Take r))) (b := lp_spec_l1Take_17 p0 p1 p2 p3) (We := O_spec_l1Take_17 p1 p2 (Post vf_spec_l1Take (res_spec_l1Take r))) (stJ := fun s => s_spec_l1Take_17 p0 p1 p2 p3 s.1 s.2) (s := (0, 0)) (fun s y hb hin hout => ok_spec_l1Take_17 p0 p1 p2 p3 s.1 s.2 y hb (Post vf_spec_l1Take (res_spec_l1Take r)) hin hout) he ?_
    show EvU ext tbl (.c c_spec_l1Take_33) K_spec_l1Take_33 (s_spec_l1Take_33 p1 p2 e) _
    exact ok_spec_l1Take_33 p1 p2 e r hm

theorem ok_spec_l1Take_0 (p0 : (List Int)) (p1 : Int) (p2 : Int) (p3 : Bool) (r : S_Number) (hm : m_spec_l1Take_0 p0 p1 p2 p3 = some r) : EvU ext tbl (.c c_spec_l1Take_0) K_spec_l1Take_0 (s_spec_l1Take_0 p0 p1 p2 p3) (Post vf_spec_l1Take (res_spec_l1Take r)) := by
  obtain ⟨h0_0, hm⟩ | ⟨h0_0, hm⟩ := split_ite hm
  · skip
    refine go_on (u' := .c c_spec_l1Take_5) (K' := K_spec_l1Take_5) (st' := s_spec_l1Take_5 p0 p1 p2 p3 true) [.bit true, .bit true, .bit true, .bit true, .bit true, .bit true, .bit true, .bit true, .bit true, .bit true, .bit true, .bit true, .bit true, .bit true, .bit true, .bit true, .bit true, .bit true, .bit true, .bit true] 1000 (And.intro h0_0 (And.intro h0_0 (And.intro h0_0 (And.intro (Eq.refl true) (And.intro (Eq.refl true) (And.intro (Eq.refl true) (And.intro (Eq.refl true) (And.intro (Eq.refl true) (And.intro (Eq.refl true) (And.intro (Eq.refl true) (And.intro (Eq.refl true) (And.intro (Eq.refl true) (And.intro (Eq.refl true) (And.intro (Eq.refl true) (And.intro (Eq.refl true) (And.intro (Eq.refl true) (And.intro (Eq.refl true) (And.intro (Eq.refl true) (And.intro (Eq.refl true) (And.intro (Eq.refl true) True.intro)))))))))))))))))))) ?_ (by kernel_rfl)
    exact ok_spec_l1Take_5 p0 p1 p2 p3 true r hm
  · skip
    obtain ⟨h0_1, hm⟩ | ⟨h0_1, hm⟩ := split_ite hm
    · skip
      refine go_on (u' := .c c_spec_l1Take_5) (K' := K_spec_l1Take_5) (st' := s_spec_l1Take_5 p0 p1 p2 p3 true) [.bit false, .bit false, .bit false, .bit true, .bit true, .bit true, .bit true, .bit true, .bit true, .bit true, .bit true, .bit true, .bit true, .bit true, .bit true, .bit true, .bit true, .bit true, .bit true, .bit true] 1000 (And.intro h0_0 (And.intro h0_0 (And.intro h0_0 (And.intro h0_1 (And.intro h0_1 (And.intro h0_1 (And.intro (Eq.refl true) (And.intro (Eq.refl true) (And.intro (Eq.refl true) (And.intro (Eq.refl true) (And.intro (Eq.refl true) (And.intro (Eq.refl true) (And.intro (Eq.refl true) (And.intro (Eq.refl true) (And.intro (Eq.refl true) (And.intro (Eq.refl true) (And.intro (Eq.refl true) (And.intro (Eq.refl true) (And.intro (Eq.refl true) (And.intro (Eq.refl true) True.intro)))))))))))))))))))) ?_ (by kernel_rfl)
      exact ok_spec_l1Take_5 p0 p1 p2 p3 true r hm
    · skip
      obtain ⟨h0_2, hm⟩ | ⟨h0_2, hm⟩ := split_ite hm
      · skip
        refine go_on (u' := .c c_spec_l1Take_5) (K' := K_spec_l1Take_5) (st' := s_spec_l1Take_5 p0 p1 p2 p3 true) [.bit false, .bit false, .bit false, .bit false, .bit false, .bit false, .bit true, .bit true, .bit true, .bit true, .bit true, .bit true, .bit true, .bit true, .bit true, .bit true, .bit true, .bit true, .bit true, .bit true] 1000 (And.intro h0_0 (And.intro h0_0 (And.intro h0_0 (And.intro h0_1 (And.intro h0_1 (And.intro h0_1 (And.intro h0_2 (And.intro h0_2 (And.intro h0_2 (And.intro h0_2 (And.intro h0_2 (And.intro h0_2 (And.intro (Eq.refl true) (And.intro (Eq.refl true) (And.intro (Eq.refl true) (And.intro (Eq.refl true) (And.intro (Eq.refl true) (And.intro (Eq.refl true) (And.intro (Eq.refl true) (And.intro (Eq.refl true) True.intro)))))))))))))))))))) ?_ (by kernel_rfl)
        exact ok_spec_l1Take_5 p0 p1 p2 p3 true r hm
      · skip
        obtain ⟨h0_3, hm⟩ | ⟨h0_3, hm⟩ := split_ite hm
        · skip
          refine go_on (u' := .c c_spec_l1Take_5) (K' := K_spec_l1Take_5) (st' := s_spec_l1Take_5 p0 p1 p2 p3 true) [.bit false, .bit false, .bit false, .bit false, .bit false, .bit false, .bit false, .bit false, .bit false, .num p0.length, .bit false, .bit false, .bit false, .bit true, .bit true, .bit true, .bit true, .bit true, .bit true, .bit true, .bit true] 1000 (And.intro h0_0 (And.intro h0_0 (And.intro h0_0 (And.intro h0_1 (And.intro h0_1 (And.intro h0_1 (And.intro h0_2 (And.intro h0_2 (And.intro h0_2 (And.intro (len_map (rI .u8) (show p0.length = p0.length from rfl)) (And.intro h0_2 (And.intro h0_2 (And.intro h0_2 (And.intro h0_3 (And.intro h0_3 (And.intro h0_3 (And.intro h0_3 (And.intro h0_3 (And.intro h0_3 (And.intro h0_3 (And.intro h0_3 True.intro))))))))))))))))))))) ?_ (by kernel_rfl)
          exact ok_spec_l1Take_5 p0 p1 p2 p3 true r hm
        · skip
          refine go_on (u' := .c c_spec_l1Take_5) (K' := K_spec_l1Take_5) (st' := s_spec_l1Take_5 p0 p1 p2 p3 (decide (p2 > (w64 ((w64 (8 * (p0.length : Int))) - p1))))) [.bit false, .bit false, .bit false, .bit false, .bit false, .bit false, .bit false, .bit false, .bit false, .num p0.length, .bit false, .bit false, .bit false, .bit false, .bit false, .bit false, .num p0.length, .bit false, .bit false, .bit false, .bit false, .bit false] 1000 (And.intro h0_0 (And.intro h0_0 (And.intro h0_0 (And.intro h0_1 (And.intro h0_1 (And.intro h0_1 (And.intro h0_2 (And.intro h0_2 (And.intro h0_2 (And.intro (len_map (rI .u8) (show p0.length = p0.length from rfl)) (And.intro h0_2 (And.intro h0_2 (And.intro h0_2 (And.intro h0_3 (And.intro h0_3 (And.intro h0_3 (And.intro (len_map (rI .u8) (show p0.length = p0.length from rfl)) (And.intro h0_3 (And.intro h0_3 (And.intro h0_3 (And.intro h0_3 (And.intro h0_3 True.intro)))))))))))))))))))))) ?_ (by kernel_rfl)
          exact ok_spec_l1Take_5 p0 p1 p2 p3 (decide (p2 > (w64 ((w64 (8 * (p0.length : Int))) - p1)))) r hm

theorem ok_spec_l1Take (p0 : (List Int)) (p1 : Int) (p2 : Int) (p3 : Bool) (r : S_Number) (hm : m_spec_l1Take p0 p1 p2 p3 = some r) : Runs ext tbl 160 (as_spec_l1Take p0 p1 p2 p3) (res_spec_l1Take r) :=
  runs_of (vf := vf_spec_l1Take) (by kernel_rfl) rfl (st := (enter vf_spec_l1Take (as_spec_l1Take p0 p1 p2 p3)).getD default) (by kernel_rfl) (go_on [] 1000 True.intro (ok_spec_l1Take_0 p0 p1 p2 p3 r hm) (by kernel_rfl))
theorem ok_spec_l10R_fail_0 (p1 : Int) (p0 : S_l10R) (r : S_l10R) (hm : m_spec_l10R_fail_0 p1 p0 = some r) : EvU ext tbl (.c c_spec_l10R_fail_0) K_spec_l10R_fail_0 (s_spec_l10R_fail_0 p1 p0) (Post vf_spec_l10R_fail (res_spec_l10R_fail r)) := by
  obtain ⟨h0_0, hm⟩ | ⟨h0_0, hm⟩ := split_ite hm
  · skip
    exact go_end [.bit true] 1000 (And.intro h0_0 True.intro) (congrArg res_spec_l10R_fail (Option.some.inj hm)) (by kernel_rfl)
  · skip
    exact go_end [.bit false] 1000 (And.intro h0_0 True.intro) (congrArg res_spec_l10R_fail (Option.some.inj hm)) (by kernel_rfl)

theorem ok_spec_l10R_fail (p0 : S_l10R) (p1 : Int) (r : S_l10R) (hm : m_spec_l10R_fail p0 p1 = some r) : Runs ext tbl 84 (as_spec_l10R_fail p0 p1) (res_spec_l10R_fail r) :=
  runs_of (vf := vf_spec_l10R_fail) (by kernel_rfl) rfl (st := (enter vf_spec_l10R_fail (as_spec_l10R_fail p0 p1)).getD default) (by kernel_rfl) (go_on [] 1000 True.intro (ok_spec_l10R_fail_0 p1 p0 r hm) (by kernel_rfl))
theorem ok_spec_l10R_take_10 (x0_0 : S_Number) (l10_0 : (List Int)) (i10_1 : Int) (i10_2 : Int) (r : Int × S_l10R) (hm : m_spec_l10R_take_10 x0_0 l10_0 i10_1 i10_2 = some r) : EvU ext tbl (.c c_spec_l10R_take_10) K_spec_l10R_take_10 (s_spec_l10R_take_10 x0_0 l10_0 i10_1 i10_2) (Post vf_spec_l10R_take (res_spec_l10R_take r)) := by
  obtain ⟨h10_0, hm⟩ | ⟨h10_0, hm⟩ := split_ite hm
  · skip
    exact go_end [.bit true] 1000 (And.intro h10_0 True.intro) (congrArg res_spec_l10R_take (Option.some.inj hm)) (by kernel_rfl)
  · skip
    exact go_end [.bit false] 1000 (And.intro h10_0 True.intro) (congrArg res_spec_l10R_take (Option.some.inj hm)) (by kernel_rfl)

theorem ok_spec_l10R_take_0 (p1 : Int) (p0 : S_l10R) (r : Int × S_l10R) (hm : m_spec_l10R_take_0 p1 p0 = some r) : EvU ext tbl (.c c_spec_l10R_take_0) K_spec_l10R_take_0 (s_spec_l10R_take_0 p1 p0) (Post vf_spec_l10R_take (res_spec_l10R_take r)) := by
  obtain ⟨x0_0, h0_0, hm⟩ := bind_some hm
  obtain ⟨h0_1, hm⟩ | ⟨h0_1, hm⟩ := split_ite hm
  · skip
    refine go_on (u' := .c c_spec_l10R_take_10) (K' := K_spec_l10R_take_10) (st' := s_spec_l10R_take_10 x0_0 p0.data p0.at_ p0.err) [.res (res_spec_l1Take x0_0), .bit false] 1000 (And.intro (ok_spec_l1Take p0.data p0.at_ p1 true x0_0 h0_0) (And.intro (not_f h0_1) True.intro)) ?_ (by kernel_rfl)
    exact ok_spec_l10R_take_10 x0_0 p0.data p0.at_ p0.err r hm
  · skip
    obtain ⟨x0_2, h0_2, hm⟩ := bind_some hm
    refine go_on (u' := .c c_spec_l10R_take_10) (K' := K_spec_l10R_take_10) (st' := s_spec_l10R_take_10 x0_0 x0_2.data x0_2.at_ x0_2.err) [.res (res_spec_l1Take x0_0), .bit true, .res (res_spec_l10R_fail x0_2)] 1000 (And.intro (ok_spec_l1Take p0.data p0.at_ p1 true x0_0 h0_0) (And.intro (not_t h0_1) (And.intro (ok_spec_l10R_fail p0 2 x0_2 h0_2) True.intro))) ?_ (by kernel_rfl)
    exact ok_spec_l10R_take_10 x0_0 x0_2.data x0_2.at_ x0_2.err r hm

theorem ok_spec_l10R_take (p0 : S_l10R) (p1 : Int) (r : Int × S_l10R) (hm : m_spec_l10R_take p0 p1 = some r) : Runs ext tbl 82 (as_spec_l10R_take p0 p1) (res_spec_l10R_take r) :=
  runs_of (vf := vf_spec_l10R_take) (by kernel_rfl) rfl (st := (enter vf_spec_l10R_take (as_spec_l10R_take p0 p1)).getD default) (by kernel_rfl) (go_on [] 1000 True.intro (ok_spec_l10R_take_0 p1 p0 r hm) (by kernel_rfl))
def O_spec_l10R_mark_4 (Q : VX → St → Prop) (e : S_l10R) : Prop := Q = Post vf_spec_l10R_mark (res_spec_l10R_mark e)
theorem ok_spec_l10R_mark_18 (p1 : (List Int)) (i4_0 : Int) (x4_2 : Int × S_l10R) (b18_0 : Bool) (y : (Int × (List Int) × Int × Int) ⊕ (S_l10R)) (hm : m_spec_l10R_mark_18 p1 i4_0 x4_2 b18_0 = some y) (Q : VX → St → Prop)
    (hin : ∀ s, y = .inl s → EvU ext tbl (.c c_spec_l10R_mark_4) K_spec_l10R_mark_4 (s_spec_l10R_mark_4 p1 s.1 s.2.1 s.2.2.1 s.2.2.2) Q) (hout : ∀ e, y = .inr e → O_spec_l10R_mark_4 Q e) : EvU ext tbl (.c c_spec_l10R_mark_18) K_spec_l10R_mark_18 (s_spec_l10R_mark_18 p1 i4_0 x4_2 b18_0) Q := by
  obtain ⟨h18_0, hm⟩ | ⟨h18_0, hm⟩ := split_ite hm
  · skip
    obtain ⟨x18_1, h18_1, hm⟩ := bind_some hm
    refine go_on (u' := .c c_spec_l10R_mark_4) (K' := K_spec_l10R_mark_4) (st' := s_spec_l10R_mark_4 p1 (w64 (i4_0 + 1)) x18_1.data x18_1.at_ x18_1.err) [.bit true, .res (res_spec_l10R_fail x18_1)] 1000 (And.intro h18_0 (And.intro (ok_spec_l10R_fail x4_2.2 4 x18_1 h18_1) True.intro)) ?_ (by kernel_rfl)
    exact hin ((w64 (i4_0 + 1)), x18_1.data, x18_1.at_, x18_1.err) (Option.some.inj hm).symm
  · skip
    refine go_on (u' := .c c_spec_l10R_mark_4) (K' := K_spec_l10R_mark_4) (st' := s_spec_l10R_mark_4 p1 (w64 (i4_0 + 1)) x4_2.2.data x4_2.2.at_ x4_2.2.err) [.bit false] 1000 (And.intro h18_0 True.intro) ?_ (by kernel_rfl)
    exact hin ((w64 (i4_0 + 1)), x4_2.2.data, x4_2.2.at_, x4_2.2.err) (Option.some.inj hm).symm

theorem ok_spec_l10R_mark_4 (p1 : (List Int)) (i4_0 : Int) (l4_1 : (List Int)) (i4_2 : Int) (i4_3 : Int) (y : (Int × (List Int) × Int × Int) ⊕ (S_l10R)) (hm : m_spec_l10R_mark_4 p1 i4_0 l4_1 i4_2 i4_3 = some y) (Q : VX → St → Prop)
    (hin : ∀ s, y = .inl s → EvU ext tbl (.c c_spec_l10R_mark_4) K_spec_l10R_mark_4 (s_spec_l10R_mark_4 p1 s.1 s.2.1 s.2.2.1 s.2.2.2) Q) (hout : ∀ e, y = .inr e → O_spec_l10R_mark_4 Q e) : EvU ext tbl (.c c_spec_l10R_mark_4) K_spec_l10R_mark_4 (s_spec_l10R_mark_4 p1 i4_0 l4_1 i4_2 i4_3) Q := by
  obtain ⟨h4_0, hm⟩ | ⟨h4_0, hm⟩ := split_ite hm
  · skip
    obtain ⟨x4_1, h4_1, hm⟩ := bind_some hm
    obtain ⟨x4_2, h4_2, hm⟩ := bind_some hm
    obtain ⟨h4_3, hm⟩ | ⟨h4_3, hm⟩ := split_ite hm
    · skip
      refine go_on (u' := .c c_spec_l10R_mark_18) (K' := K_spec_l10R_mark_18) (st' := s_spec_l10R_mark_18 p1 i4_0 x4_2 (x4_2.1 != (w64 x4_1))) [.bit true, .row ((rI .u8) x4_1), .res (res_spec_l10R_take x4_2), .bit true, .bit true, .bit true, .bit true, .bit true] 1000 (And.intro h4_0 (And.intro (rd_nn h4_1) (And.intro (at_row (rI .u8) (rd_get h4_1)) (And.intro (ok_spec_l10R_take (S_l10R.mk l4_1 i4_2 i4_3) 8 x4_2 h4_2) (And.intro h4_3 (And.intro h4_3 (And.intro h4_3 (And.intro h4_3 (And.intro h4_3 True.intro))))))))) ?_ (by kernel_rfl)
      exact ok_spec_l10R_mark_18 p1 i4_0 x4_2 (x4_2.1 != (w64 x4_1)) y hm Q hin hout
    · skip
      refine go_on (u' := .c c_spec_l10R_mark_18) (K' := K_spec_l10R_mark_18) (st' := s_spec_l10R_mark_18 p1 i4_0 x4_2 false) [.bit true, .row ((rI .u8) x4_1), .res (res_spec_l10R_take x4_2), .bit false, .bit false, .bit false, .bit false, .bit false] 1000 (And.intro h4_0 (And.intro (rd_nn h4_1) (And.intro (at_row (rI .u8) (rd_get h4_1)) (And.intro (ok_spec_l10R_take (S_l10R.mk l4_1 i4_2 i4_3) 8 x4_2 h4_2) (And.intro h4_3 (And.intro h4_3 (And.intro h4_3 (And.intro h4_3 (And.intro h4_3 True.intro))))))))) ?_ (by kernel_rfl)
      exact ok_spec_l10R_mark_18 p1 i4_0 x4_2 false y hm Q hin hout
  · skip
    have hQ : Q = Post vf_spec_l10R_mark (res_spec_l10R_mark (S_l10R.mk l4_1 i4_2 i4_3)) := hout (S_l10R.mk l4_1 i4_2 i4_3) (Option.some.inj hm).symm
    subst hQ
    exact go_end [.bit false] 1000 (And.intro h4_0 True.intro) (rfl : res_spec_l10R_mark (S_l10R.mk l4_1 i4_2 i4_3) = res_spec_l10R_mark (S_l10R.mk l4_1 i4_2 i4_3)) (by kernel_rfl)

theorem ok_spec_l10R_mark_0 (p1 : (List Int)) (p0 : S_l10R) (r : S_l10R) (hm : m_spec_l10R_mark_0 p1 p0 = some r) : EvU ext tbl (.c c_spec_l10R_mark_0) K_spec_l10R_mark_0 (s_spec_l10R_mark_0 p1 p0) (Post vf_spec_l10R_mark (res_spec_l10R_mark r)) := by
  refine go_on (u' := .c c_spec_l10R_mark_4) (K' := K_spec_l10R_mark_4) (st' := s_spec_l10R_mark_4 p1 0 p0.data p0.at_ p0.err) [.num p1.length] 1000 (And.intro (len_map (rI .u8) (show p1.length = p1.length from rfl)) True.intro) ?_ (by kernel_rfl)
  obtain ⟨e, he, hm⟩ := bind_some hm
  refine loop_rule (u := .c c_spec_l10R_mark_4) (K := K_spec_l10R_mark_4) (Q := (Post vf_spec_l10R_mark (res_spec_l10R_mark r))) (b := lp_spec_l10R_mark_4 p1) (We := O_spec_l10R_mark_4 (Post vf_spec_l10R_mark (res_spec_l10R_mark r))) (stJ := fun s => s_spec_l10R_mark_4 p1 s.1 s.2.1 s.2.2.1 s.2.2.2) (s := (0, p0.data, p0.at_, p0.err)) (fun s y hb hin hout => ok_spec_l10R_mark_4 p1 s.1 s.2.1 s.2.2.1 s.2.2.2 y hb (Post vf_spec_l10R_mark (res_spec_l10R_mark r)) hin hout) he ?_
  exact congrArg (fun r => Post vf_spec_l10R_mark (res_spec_l10R_mark r)) (Option.some.inj hm).symm

theorem ok_spec_l10R_mark (p0 : S_l10R) (p1 : (List Int)) (r : S_l10R) (hm : m_spec_l10R_mark p0 p1 = some r) : Runs ext tbl 81 (as_spec_l10R_mark p0 p1) (res_spec_l10R_mark r) :=
  runs_of (vf := vf_spec_l10R_mark) (by kernel_rfl) rfl (st := (enter vf_spec_l10R_mark (as_spec_l10R_mark p0 p1)).getD default) (by kernel_rfl) (go_on [] 1000 True.intro (ok_spec_l10R_mark_0 p1 p0 r hm) (by kernel_rfl))
theorem ok_spec_l11Head_0 (p0 : Int) (p1 : Int) (p2 : Int) (r : Bool) (hm : m_spec_l11Head_0 p0 p1 p2 = some r) : EvU ext tbl (.c c_spec_l11Head_0) K_spec_l11Head_0 (s_spec_l11Head_0 p0 p1 p2) (Post vf_spec_l11Head (res_spec_l11Head r)) := by
  obtain ⟨h0_0, hm⟩ | ⟨h0_0, hm⟩ := split_ite hm
  · skip
    obtain ⟨h0_1, hm⟩ | ⟨h0_1, hm⟩ := split_ite hm
    · skip
      obtain ⟨h0_2, hm⟩ | ⟨h0_2, hm⟩ := split_ite hm
      · skip
        obtain ⟨h0_3, hm⟩ | ⟨h0_3, hm⟩ := split_ite hm
        · skip
          obtain ⟨h0_4, hm⟩ | ⟨h0_4, hm⟩ := split_ite hm
          · skip
            exact go_end [.bit true, .bit true, .bit true, .bit true, .bit true, .bit true, .bit true, .bit true, .bit true, .bit true, .bit true, .bit true, .bit true, .bit true, .bit true] 1000 (And.intro h0_0 (And.intro h0_0 (And.intro h0_0 (And.intro h0_1 (And.intro h0_1 (And.intro h0_1 (And.intro h0_2 (And.intro h0_2 (And.intro h0_2 (And.intro h0_3 (And.intro h0_3 (And.intro h0_3 (And.intro h0_4 (And.intro h0_4 (And.intro h0_4 True.intro))))))))))))))) (congrArg res_spec_l11Head (Option.some.inj hm)) (by kernel_rfl)
          · skip
            exact go_end [.bit true, .bit true, .bit true, .bit true, .bit true, .bit true, .bit true, .bit true, .bit true, .bit true, .bit true, .bit true, .bit false, .bit false, .bit false] 1000 (And.intro h0_0 (And.intro h0_0 (And.intro h0_0 (And.intro h0_1 (And.intro h0_1 (And.intro h0_1 (And.intro h0_2 (And.intro h0_2 (And.intro h0_2 (And.intro h0_3 (And.intro h0_3 (And.intro h0_3 (And.intro h0_4 (And.intro h0_4 (And.intro h0_4 True.intro))))))))))))))) (congrArg res_spec_l11Head (Option.some.inj hm)) (by kernel_rfl)
        · skip
          exact go_end [.bit true, .bit true, .bit true, .bit true, .bit true, .bit true, .bit true, .bit true, .bit true, .bit false, .bit false, .bit false, .bit false, .bit false, .bit false] 1000 (And.intro h0_0 (And.intro h0_0 (And.intro h0_0 (And.intro h0_1 (And.intro h0_1 (And.intro h0_1 (And.intro h0_2 (And.intro h0_2 (And.intro h0_2 (And.intro h0_3 (And.intro h0_3 (And.intro h0_3 (And.intro (Eq.refl false) (And.intro (Eq.refl false) (And.intro (Eq.refl false) True.intro))))))))))))))) (congrArg res_spec_l11Head (Option.some.inj hm)) (by kernel_rfl)
      · skip
        exact go_end [.bit true, .bit true, .bit true, .bit true, .bit true, .bit true, .bit false, .bit false, .bit false, .bit false, .bit false, .bit false, .bit false, .bit false, .bit false] 1000 (And.intro h0_0 (And.intro h0_0 (And.intro h0_0 (And.intro h0_1 (And.intro h0_1 (And.intro h0_1 (And.intro h0_2 (And.intro h0_2 (And.intro h0_2 (And.intro (Eq.refl false) (And.intro (Eq.refl false) (And.intro (Eq.refl false) (And.intro (Eq.refl false) (And.intro (Eq.refl false) (And.intro (Eq.refl false) True.intro))))))))))))))) (congrArg res_spec_l11Head (Option.some.inj hm)) (by kernel_rfl)
    · skip
      exact go_end [.bit true, .bit true, .bit true, .bit false, .bit false, .bit false, .bit false, .bit false, .bit false, .bit false, .bit false, .bit false, .bit false, .bit false, .bit false] 1000 (And.intro h0_0 (And.intro h0_0 (And.intro h0_0 (And.intro h0_1 (And.intro h0_1 (And.intro h0_1 (And.intro (Eq.refl false) (And.intro (Eq.refl false) (And.intro (Eq.refl false) (And.intro (Eq.refl false) (And.intro (Eq.refl false) (And.intro (Eq.refl false) (And.intro (Eq.refl false) (And.intro (Eq.refl false) (And.intro (Eq.refl false) True.intro))))))))))))))) (congrArg res_spec_l11Head (Option.some.inj hm)) (by kernel_rfl)
  · skip
    exact go_end [.bit false, .bit false, .bit false, .bit false, .bit false, .bit false, .bit false, .bit false, .bit false, .bit false, .bit false, .bit false, .bit false, .bit false, .bit false] 1000 (And.intro h0_0 (And.intro h0_0 (And.intro h0_0 (And.intro (Eq.refl false) (And.intro (Eq.refl false) (And.intro (Eq.refl false) (And.intro (Eq.refl false) (And.intro (Eq.refl false) (And.intro (Eq.refl false) (And.intro (Eq.refl false) (And.intro (Eq.refl false) (And.intro (Eq.refl false) (And.intro (Eq.refl false) (And.intro (Eq.refl false) (And.intro (Eq.refl false) True.intro))))))))))))))) (congrArg res_spec_l11Head (Option.some.inj hm)) (by kernel_rfl)

theorem ok_spec_l11Head (p0 : Int) (p1 : Int) (p2 : Int) (r : Bool) (hm : m_spec_l11Head p0 p1 p2 = some r) : Runs ext tbl 83 (as_spec_l11Head p0 p1 p2) (res_spec_l11Head r) :=
  runs_of (vf := vf_spec_l11Head) (by kernel_rfl) rfl (st := (enter vf_spec_l11Head (as_spec_l11Head p0 p1 p2)).getD default) (by kernel_rfl) (go_on [] 1000 True.intro (ok_spec_l11Head_0 p0 p1 p2 r hm) (by kernel_rfl))
theorem ok_spec_l11Slots_0 (p0 : Int) (r : Int) (hm : m_spec_l11Slots_0 p0 = some r) : EvU ext tbl (.c c_spec_l11Slots_0) K_spec_l11Slots_0 (s_spec_l11Slots_0 p0) (Post vf_spec_l11Slots (res_spec_l11Slots r)) := by
  exact go_end [] 1000 (And.intro (by decide : (16 : Int) ≠ 0) True.intro) (congrArg res_spec_l11Slots (Option.some.inj hm)) (by kernel_rfl)

theorem ok_spec_l11Slots (p0 : Int) (r : Int) (hm : m_spec_l11Slots p0 = some r) : Runs ext tbl 85 (as_spec_l11Slots p0) (res_spec_l11Slots r) :=
  runs_of (vf := vf_spec_l11Slots) (by kernel_rfl) rfl (st := (enter vf_spec_l11Slots (as_spec_l11Slots p0)).getD default) (by kernel_rfl) (go_on [] 1000 True.intro (ok_spec_l11Slots_0 p0 r hm) (by kernel_rfl))
theorem ok_spec_Unfold_0 (p0 : Int) (r : Int) (hm : m_spec_Unfold_0 p0 = some r) : EvU ext tbl (.c c_spec_Unfold_0) K_spec_Unfold_0 (s_spec_Unfold_0 p0) (Post vf_spec_Unfold (res_spec_Unfold r)) := by
  obtain ⟨h0_0, hm⟩ | ⟨h0_0, hm⟩ := split_ite hm
  · skip
    exact go_end [.bit true] 1000 (And.intro (by decide : (2 : Int) ≠ 0) (And.intro h0_0 (And.intro (by decide : (2 : Int) ≠ 0) True.intro))) (congrArg res_spec_Unfold (Option.some.inj hm)) (by kernel_rfl)
  · skip
    exact go_end [.bit false] 1000 (And.intro (by decide : (2 : Int) ≠ 0) (And.intro h0_0 (And.intro (by decide : (2 : Int) ≠ 0) True.intro))) (congrArg res_spec_Unfold (Option.some.inj hm)) (by kernel_rfl)

theorem ok_spec_Unfold (p0 : Int) (r : Int) (hm : m_spec_Unfold p0 = some r) : Runs ext tbl 161 (as_spec_Unfold p0) (res_spec_Unfold r) :=
  runs_of (vf := vf_spec_Unfold) (by kernel_rfl) rfl (st := (enter vf_spec_Unfold (as_spec_Unfold p0)).getD default) (by kernel_rfl) (go_on [] 1000 True.intro (ok_spec_Unfold_0 p0 r hm) (by kernel_rfl))
def O_spec_l10R_folded_7 (p1 : Int) (Q : VX → St → Prop) (e : (Int × (List Int) × Int × Int)) : Prop := EvU ext tbl (.c c_spec_l10R_folded_21) K_spec_l10R_folded_21 (s_spec_l10R_folded_21 p1 e.1 e.2.1 e.2.2.1 e.2.2.2) Q
theorem ok_spec_l10R_folded_31 (i28_0 : Int) (l31_0 : (List Int)) (i31_1 : Int) (i31_2 : Int) (r : Int × S_l10R) (hm : m_spec_l10R_folded_31 i28_0 l31_0 i31_1 i31_2 = some r) : EvU ext tbl (.c c_spec_l10R_folded_31) K_spec_l10R_folded_31 (s_spec_l10R_folded_31 i28_0 l31_0 i31_1 i31_2) (Post vf_spec_l10R_folded (res_spec_l10R_folded r)) := by
  obtain ⟨x31_0, h31_0, hm⟩ := bind_some hm
  exact go_end [.res (res_spec_Unfold x31_0)] 1000 (And.intro (ok_spec_Unfold (wr .u64 i28_0) x31_0 h31_0) True.intro) (congrArg res_spec_l10R_folded (Option.some.inj hm)) (by kernel_rfl)

theorem ok_spec_l10R_folded_28 (x21_0 : Int × S_l10R) (i28_0 : Int) (b28_1 : Bool) (r : Int × S_l10R) (hm : m_spec_l10R_folded_28 x21_0 i28_0 b28_1 = some r) : EvU ext tbl (.c c_spec_l10R_folded_28) K_spec_l10R_folded_28 (s_spec_l10R_folded_28 x21_0 i28_0 b28_1) (Post vf_spec_l10R_folded (res_spec_l10R_folded r)) := by
  obtain ⟨h28_0, hm⟩ | ⟨h28_0, hm⟩ := split_ite hm
  · skip
    obtain ⟨x28_1, h28_1, hm⟩ := bind_some hm
    refine go_on (u' := .c c_spec_l10R_folded_31) (K' := K_spec_l10R_folded_31) (st' := s_spec_l10R_folded_31 i28_0 x28_1.data x28_1.at_ x28_1.err) [.bit true, .res (res_spec_l10R_fail x28_1)] 1000 (And.intro h28_0 (And.intro (ok_spec_l10R_fail x21_0.2 5 x28_1 h28_1) True.intro)) ?_ (by kernel_rfl)
    exact ok_spec_l10R_folded_31 i28_0 x28_1.data x28_1.at_ x28_1.err r hm
  · skip
    refine go_on (u' := .c c_spec_l10R_folded_31) (K' := K_spec_l10R_folded_31) (st' := s_spec_l10R_folded_31 i28_0 x21_0.2.data x21_0.2.at_ x21_0.2.err) [.bit false] 1000 (And.intro h28_0 True.intro) ?_ (by kernel_rfl)
    exact ok_spec_l10R_folded_31 i28_0 x21_0.2.data x21_0.2.at_ x21_0.2.err r hm

theorem ok_spec_l10R_folded_21 (p1 : Int) (i21_0 : Int) (l21_1 : (List Int)) (i21_2 : Int) (i21_3 : Int) (r : Int × S_l10R) (hm : m_spec_l10R_folded_21 p1 i21_0 l21_1 i21_2 i21_3 = some r) : EvU ext tbl (.c c_spec_l10R_folded_21) K_spec_l10R_folded_21 (s_spec_l10R_folded_21 p1 i21_0 l21_1 i21_2 i21_3) (Post vf_spec_l10R_folded (res_spec_l10R_folded r)) := by
  obtain ⟨x21_0, h21_0, hm⟩ := bind_some hm
  obtain ⟨x21_1, h21_1, hm⟩ := bind_some hm
  obtain ⟨h21_2, hm⟩ | ⟨h21_2, hm⟩ := split_ite hm
  · skip
    refine go_on (u' := .c c_spec_l10R_folded_28) (K' := K_spec_l10R_folded_28) (st' := s_spec_l10R_folded_28 x21_0 (orI .i64 (shlI .i64 i21_0 (wr .u64 p1)) x21_0.1) (decide ((orI .i64 (shlI .i64 i21_0 (wr .u64 p1)) x21_0.1) > 2097151))) [.res (res_spec_l10R_take x21_0), .bit true, .bit true, .bit true] 1000 (And.intro (ok_spec_l10R_take (S_l10R.mk l21_1 i21_2 i21_3) p1 x21_0 h21_0) (And.intro (ck_p h21_1) (And.intro h21_2 (And.intro h21_2 (And.intro h21_2 True.intro))))) ?_ (by kernel_rfl)
    exact ok_spec_l10R_folded_28 x21_0 (orI .i64 (shlI .i64 i21_0 (wr .u64 p1)) x21_0.1) (decide ((orI .i64 (shlI .i64 i21_0 (wr .u64 p1)) x21_0.1) > 2097151)) r hm
  · skip
    refine go_on (u' := .c c_spec_l10R_folded_28) (K' := K_spec_l10R_folded_28) (st' := s_spec_l10R_folded_28 x21_0 (orI .i64 (shlI .i64 i21_0 (wr .u64 p1)) x21_0.1) false) [.res (res_spec_l10R_take x21_0), .bit false, .bit false, .bit false] 1000 (And.intro (ok_spec_l10R_take (S_l10R.mk l21_1 i21_2 i21_3) p1 x21_0 h21_0) (And.intro (ck_p h21_1) (And.intro h21_2 (And.intro h21_2 (And.intro h21_2 True.intro))))) ?_ (by kernel_rfl)
    exact ok_spec_l10R_folded_28 x21_0 (orI .i64 (shlI .i64 i21_0 (wr .u64 p1)) x21_0.1) false r hm

theorem ok_spec_l10R_folded_7 (p1 : Int) (i7_0 : Int) (l7_1 : (List Int)) (i7_2 : Int) (i7_3 : Int) (y : (Int × (List Int) × Int × Int) ⊕ ((Int × (List Int) × Int × Int))) (hm : m_spec_l10R_folded_7 p1 i7_0 l7_1 i7_2 i7_3 = some y) (Q : VX → St → Prop)
    (hin : ∀ s, y = .inl s → EvU ext tbl (.c c_spec_l10R_folded_7) K_spec_l10R_folded_7 (s_spec_l10R_folded_7 p1 s.1 s.2.1 s.2.2.1 s.2.2.2) Q) (hout : ∀ e, y = .inr e → O_spec_l10R_folded_7 p1 Q e) : EvU ext tbl (.c c_spec_l10R_folded_7) K_spec_l10R_folded_7 (s_spec_l10R_folded_7 p1 i7_0 l7_1 i7_2 i7_3) Q := by
  obtain ⟨h7_0, hm⟩ | ⟨h7_0, hm⟩ := split_ite hm
  · skip
    obtain ⟨x7_1, h7_1, hm⟩ := bind_some hm
    obtain ⟨h7_2, hm⟩ | ⟨h7_2, hm⟩ := split_ite hm
    · skip
      obtain ⟨x7_3, h7_3, hm⟩ := bind_some hm
      obtain ⟨h7_4, hm⟩ | ⟨h7_4, hm⟩ := split_ite hm
      · skip
        obtain ⟨x7_5, h7_5, hm⟩ := bind_some hm
        refine go_on (u' := .c c_spec_l10R_folded_7) (K' := K_spec_l10R_folded_7) (st' := s_spec_l10R_folded_7 p1 (w64 (i7_0 + 1)) x7_5.data x7_5.at_ x7_5.err) [.bit true, .bit true, .res (res_spec_l10R_take x7_1), .bit true, .bit true, .bit true, .bit true, .res (res_spec_l10R_fail x7_5)] 1000 (And.intro h7_0 (And.intro h7_0 (And.intro (ok_spec_l10R_take (S_l10R.mk l7_1 i7_2 i7_3) 1 x7_1 h7_1) (And.intro h7_0 (And.intro h7_0 (And.intro h7_2 (And.intro (ck_p h7_3) (And.intro h7_4 (And.intro (ok_spec_l10R_fail x7_1.2 5 x7_5 h7_5) True.intro))))))))) ?_ (by kernel_rfl)
        exact hin ((w64 (i7_0 + 1)), x7_5.data, x7_5.at_, x7_5.err) (Option.some.inj hm).symm
      · skip
        refine go_on (u' := .c c_spec_l10R_folded_7) (K' := K_spec_l10R_folded_7) (st' := s_spec_l10R_folded_7 p1 (w64 (i7_0 + 1)) x7_1.2.data x7_1.2.at_ x7_1.2.err) [.bit true, .bit true, .res (res_spec_l10R_take x7_1), .bit true, .bit true, .bit true, .bit false] 1000 (And.intro h7_0 (And.intro h7_0 (And.intro (ok_spec_l10R_take (S_l10R.mk l7_1 i7_2 i7_3) 1 x7_1 h7_1) (And.intro h7_0 (And.intro h7_0 (And.intro h7_2 (And.intro (ck_p h7_3) (And.intro h7_4 True.intro)))))))) ?_ (by kernel_rfl)
        exact hin ((w64 (i7_0 + 1)), x7_1.2.data, x7_1.2.at_, x7_1.2.err) (Option.some.inj hm).symm
    · skip
      refine go_on (u' := .c c_spec_l10R_folded_21) (K' := K_spec_l10R_folded_21) (st' := s_spec_l10R_folded_21 p1 i7_0 x7_1.2.data x7_1.2.at_ x7_1.2.err) [.bit true, .bit true, .res (res_spec_l10R_take x7_1), .bit true, .bit true, .bit false] 1000 (And.intro h7_0 (And.intro h7_0 (And.intro (ok_spec_l10R_take (S_l10R.mk l7_1 i7_2 i7_3) 1 x7_1 h7_1) (And.intro h7_0 (And.intro h7_0 (And.intro h7_2 True.intro)))))) ?_ (by kernel_rfl)
      exact hout (i7_0, x7_1.2.data, x7_1.2.at_, x7_1.2.err) (Option.some.inj hm).symm
  · skip
    refine go_on (u' := .c c_spec_l10R_folded_21) (K' := K_spec_l10R_folded_21) (st' := s_spec_l10R_folded_21 p1 i7_0 l7_1 i7_2 i7_3) [.bit false, .bit false, .bit false, .bit false, .bit false] 1000 (And.intro h7_0 (And.intro h7_0 (And.intro h7_0 (And.intro h7_0 (And.intro (Eq.refl false) True.intro))))) ?_ (by kernel_rfl)
    exact hout (i7_0, l7_1, i7_2, i7_3) (Option.some.inj hm).symm

theorem ok_spec_l10R_folded_0 (p1 : Int) (p0 : S_l10R) (r : Int × S_l10R) (hm : m_spec_l10R_folded_0 p1 p0 = some r) : EvU ext tbl (.c c_spec_l10R_folded_0) K_spec_l10R_folded_0 (s_spec_l10R_folded_0 p1 p0) (Post vf_spec_l10R_folded (res_spec_l10R_folded r)) := by
  refine go_on (u' := .c c_spec_l10R_folded_7) (K' := K_spec_l10R_folded_7) (st' := s_spec_l10R_folded_7 p1 0 p0.data p0.at_ p0.err) [] 1000 True.intro ?_ (by kernel_rfl)
  obtain ⟨e, he, hm⟩ := bind_some hm
  refine loop_rule (u := .c c_spec_l10R_folded_7) (K := K_spec_l10R_folded_7) (Q := (Post vf_spec_l10R_folded (res_spec_l10R_folded r))) (b := lp_spec_l10R_folded_7 p1) (We := O_spec_l10R_folded_7 p1 (Post vf_spec_l10R_folded (res_spec_l10R_folded r))) (stJ := fun s => s_spec_l10R_folded_7 p1 s.1 s.2.1 s.2.2.1 s.2.2.2) (s := (0, p0.data, p0.at_, p0.err)) (fun s y hb hin hout => ok_spec_l10R_folded_7 p1 s.1 s.2.1 s.2.2.1 s.2.2.2 y hb (Post vf_spec_l10R_folded (res_spec_l10R_folded r)) hin hout) he ?_
  show EvU ext tbl (.c c_spec_l10R_folded_21) K_spec_l10R_folded_21 (s_spec_l10R_folded_21 p1 e.1 e.2.1 e.2.2.1 e.2.2.2) _
  exact ok_spec_l10R_folded_21 p1 e.1 e.2.1 e.2.2.1 e.2.2.2 r hm

theorem ok_spec_l10R_folded (p0 : S_l10R) (p1 : Int) (r : Int × S_l10R) (hm : m_spec_l10R_folded p0 p1 = some r) : Runs ext tbl 86 (as_spec_l10R_folded p0 p1) (res_spec_l10R_folded r) :=
  runs_of (vf := vf_spec_l10R_folded) (by kernel_rfl) rfl (st := (enter vf_spec_l10R_folded (as_spec_l10R_folded p0 p1)).getD default) (by kernel_rfl) (go_on [] 1000 True.intro (ok_spec_l10R_folded_0 p1 p0 r hm) (by kernel_rfl))
def O_spec_l10R_fill_2 (Q : VX → St → Prop) (e : S_l10R) : Prop := Q = Post vf_spec_l10R_fill (res_spec_l10R_fill e)
theorem ok_spec_l10R_fill_2 (l2_0 : (List Int)) (i2_1 : Int) (i2_2 : Int) (y : ((List Int) × Int × Int) ⊕ (S_l10R)) (hm : m_spec_l10R_fill_2 l2_0 i2_1 i2_2 = some y) (Q : VX → St → Prop)
    (hin : ∀ s, y = .inl s → EvU ext tbl (.c c_spec_l10R_fill_2) K_spec_l10R_fill_2 (s_spec_l10R_fill_2 s.1 s.2.1 s.2.2) Q) (hout : ∀ e, y = .inr e → O_spec_l10R_fill_2 Q e) : EvU ext tbl (.c c_spec_l10R_fill_2) K_spec_l10R_fill_2 (s_spec_l10R_fill_2 l2_0 i2_1 i2_2) Q := by
  obtain ⟨h2_0, hm⟩ | ⟨h2_0, hm⟩ := split_ite hm
  · skip
    obtain ⟨h2_1, hm⟩ | ⟨h2_1, hm⟩ := split_ite hm
    · skip
      obtain ⟨x2_2, h2_2, hm⟩ := bind_some hm
      obtain ⟨h2_3, hm⟩ | ⟨h2_3, hm⟩ := split_ite hm
      · skip
        obtain ⟨x2_4, h2_4, hm⟩ := bind_some hm
        refine go_on (u' := .c c_spec_l10R_fill_2) (K' := K_spec_l10R_fill_2) (st' := s_spec_l10R_fill_2 x2_4.data x2_4.at_ x2_4.err) [.bit true, .bit true, .bit true, .bit true, .bit true, .bit true, .bit true, .res (res_spec_l10R_take x2_2), .bit true, .res (res_spec_l10R_fail x2_4)] 1000 (And.intro (by decide : (8 : Int) ≠ 0) (And.intro h2_0 (And.intro h2_0 (And.intro h2_0 (And.intro h2_0 (And.intro h2_0 (And.intro h2_0 (And.intro h2_1 (And.intro (ok_spec_l10R_take (S_l10R.mk l2_0 i2_1 i2_2) 1 x2_2 h2_2) (And.intro h2_3 (And.intro (ok_spec_l10R_fail x2_2.2 4 x2_4 h2_4) True.intro))))))))))) ?_ (by kernel_rfl)
        exact hin (x2_4.data, x2_4.at_, x2_4.err) (Option.some.inj hm).symm
      · skip
        refine go_on (u' := .c c_spec_l10R_fill_2) (K' := K_spec_l10R_fill_2) (st' := s_spec_l10R_fill_2 x2_2.2.data x2_2.2.at_ x2_2.2.err) [.bit true, .bit true, .bit true, .bit true, .bit true, .bit true, .bit true, .res (res_spec_l10R_take x2_2), .bit false] 1000 (And.intro (by decide : (8 : Int) ≠ 0) (And.intro h2_0 (And.intro h2_0 (And.intro h2_0 (And.intro h2_0 (And.intro h2_0 (And.intro h2_0 (And.intro h2_1 (And.intro (ok_spec_l10R_take (S_l10R.mk l2_0 i2_1 i2_2) 1 x2_2 h2_2) (And.intro h2_3 True.intro)))))))))) ?_ (by kernel_rfl)
        exact hin (x2_2.2.data, x2_2.2.at_, x2_2.2.err) (Option.some.inj hm).symm
    · skip
      have hQ : Q = Post vf_spec_l10R_fill (res_spec_l10R_fill (S_l10R.mk l2_0 i2_1 i2_2)) := hout (S_l10R.mk l2_0 i2_1 i2_2) (Option.some.inj hm).symm
      subst hQ
      exact go_end [.bit true, .bit true, .bit true, .bit true, .bit true, .bit true, .bit false] 1000 (And.intro (by decide : (8 : Int) ≠ 0) (And.intro h2_0 (And.intro h2_0 (And.intro h2_0 (And.intro h2_0 (And.intro h2_0 (And.intro h2_0 (And.intro h2_1 True.intro)))))))) (rfl : res_spec_l10R_fill (S_l10R.mk l2_0 i2_1 i2_2) = res_spec_l10R_fill (S_l10R.mk l2_0 i2_1 i2_2)) (by kernel_rfl)
  · skip
    have hQ : Q = Post vf_spec_l10R_fill (res_spec_l10R_fill (S_l10R.mk l2_0 i2_1 i2_2)) := hout (S_l10R.mk l2_0 i2_1 i2_2) (Option.some.inj hm).symm
    subst hQ
    exact go_end [.bit false, .bit false, .bit false, .bit false, .bit false, .bit false, .bit false] 1000 (And.intro (by decide : (8 : Int) ≠ 0) (And.intro h2_0 (And.intro h2_0 (And.intro h2_0 (And.intro h2_0 (And.intro h2_0 (And.intro h2_0 (And.intro (Eq.refl false) True.intro)))))))) (rfl : res_spec_l10R_fill (S_l10R.mk l2_0 i2_1 i2_2) = res_spec_l10R_fill (S_l10R.mk l2_0 i2_1 i2_2)) (by kernel_rfl)

theorem ok_spec_l10R_fill_0 (p0 : S_l10R) (r : S_l10R) (hm : m_spec_l10R_fill_0 p0 = some r) : EvU ext tbl (.c c_spec_l10R_fill_0) K_spec_l10R_fill_0 (s_spec_l10R_fill_0 p0) (Post vf_spec_l10R_fill (res_spec_l10R_fill r)) := by
  refine go_on (u' := .c c_spec_l10R_fill_2) (K' := K_spec_l10R_fill_2) (st' := s_spec_l10R_fill_2 p0.data p0.at_ p0.err) [] 1000 True.intro ?_ (by kernel_rfl)
  obtain ⟨e, he, hm⟩ := bind_some hm
  refine loop_rule (u := .c c_spec_l10R_fill_2) (K := K_spec_l10R_fill_2) (Q := (Post vf_spec_l10R_fill (res_spec_l10R_fill r))) (b := lp_spec_l10R_fill_2) (We := O_spec_l10R_fill_2 (Post vf_spec_l10R_fill (res_spec_l10R_fill r))) (stJ := fun s => s_spec_l10R_fill_2 s.1 s.2.1 s.2.2) (s := (p0.data, p0.at_, p0.err)) (fun s y hb hin hout => ok_spec_l10R_fill_2 s.1 s.2.1 s.2.2 y hb (Post vf_spec_l10R_fill (res_spec_l10R_fill r)) hin hout) he ?_
  exact congrArg (fun r => Post vf_spec_l10R_fill (res_spec_l10R_fill r)) (Option.some.inj hm).symm

theorem ok_spec_l10R_fill (p0 : S_l10R) (r : S_l10R) (hm : m_spec_l10R_fill p0 = some r) : Runs ext tbl 87 (as_spec_l10R_fill p0) (res_spec_l10R_fill r) :=
  runs_of (vf := vf_spec_l10R_fill) (by kernel_rfl) rfl (st := (enter vf_spec_l10R_fill (as_spec_l10R_fill p0)).getD default) (by kernel_rfl) (go_on [] 1000 True.intro (ok_spec_l10R_fill_0 p0 r hm) (by kernel_rfl))
def O_spec_DecodeTones_91 (p0 : (List Int)) (i43_0 : Int) (x0_2 : Int × S_l10R) (x0_3 : Int × S_l10R) (x0_4 : Int × S_l10R) (l76_3 : (List Int)) (l43_4 : (List (List Int))) (l43_5 : (List (List Int))) (Q : VX → St → Prop) (e : ((List Int) × Int × Int × (List Int))) : Prop := EvU ext tbl (.c c_spec_DecodeTones_101) K_spec_DecodeTones_101 (s_spec_DecodeTones_101 p0 i43_0 x0_2 x0_3 x0_4 l76_3 l43_4 l43_5 e.1 e.2.1 e.2.2.1 e.2.2.2) Q
def O_spec_DecodeTones_58 (p0 : (List Int)) (i43_0 : Int) (x0_2 : Int × S_l10R) (x0_3 : Int × S_l10R) (x0_4 : Int × S_l10R) (l43_4 : (List (List Int))) (l43_5 : (List (List Int))) (Q : VX → St → Prop) (e : ((List Int) × Int × Int × (List Int))) : Prop := EvU ext tbl (.c c_spec_DecodeTones_76) K_spec_DecodeTones_76 (s_spec_DecodeTones_76 p0 i43_0 x0_2 x0_3 x0_4 l43_4 l43_5 e.1 e.2.1 e.2.2.1 e.2.2.2) Q
def O_spec_DecodeTones_43 (p0 : (List Int)) (x0_2 : Int × S_l10R) (x0_3 : Int × S_l10R) (x0_4 : Int × S_l10R) (Q : VX → St → Prop) (e : ((List Int) × Int × Int × (List (List Int)) × (List (List Int)))) : Prop := EvU ext tbl (.c c_spec_DecodeTones_105) K_spec_DecodeTones_105 (s_spec_DecodeTones_105 p0 x0_2 x0_3 x0_4 e.1 e.2.1 e.2.2.1 e.2.2.2.1 e.2.2.2.2) Q
theorem ok_spec_DecodeTones_72 (p0 : (List Int)) (i43_0 : Int) (i58_0 : Int) (i58_1 : Int) (x58_1 : Int × S_l10R) (x0_2 : Int × S_l10R) (x0_3 : Int × S_l10R) (x0_4 : Int × S_l10R) (l43_4 : (List (List Int))) (l43_5 : (List (List Int))) (b72_0 : Bool) (l72_1 : (List Int)) (y : (Int × Int × (List Int) × Int × Int × (List Int)) ⊕ (((List Int) × Int × Int × (List Int)))) (hm : m_spec_DecodeTones_72 p0 i43_0 i58_0 i58_1 x58_1 x0_2 x0_3 x0_4 l43_4 l43_5 b72_0 l72_1 = some y) (Q : VX → St → Prop)
    (hin : ∀ s, y = .inl s → EvU ext tbl (.c c_spec_DecodeTones_58) K_spec_DecodeTones_58 (s_spec_DecodeTones_58 p0 i43_0 x0_2 x0_3 x0_4 l43_4 l43_5 s.1 s.2.1 s.2.2.1 s.2.2.2.1 s.2.2.2.2.1 s.2.2.2.2.2) Q) (hout : ∀ e, y = .inr e → O_spec_DecodeTones_58 p0 i43_0 x0_2 x0_3 x0_4 l43_4 l43_5 Q e) : EvU ext tbl (.c c_spec_DecodeTones_72) K_spec_DecodeTones_72 (s_spec_DecodeTones_72 p0 i43_0 i58_0 i58_1 x58_1 x0_2 x0_3 x0_4 l43_4 l43_5 b72_0 l72_1) Q := by
  obtain ⟨h72_0, hm⟩ | ⟨h72_0, hm⟩ := split_ite hm
  · skip
    obtain ⟨x72_1, h72_1, hm⟩ := bind_some hm
    refine go_on (u' := .c c_spec_DecodeTones_58) (K' := K_spec_DecodeTones_58) (st' := s_spec_DecodeTones_58 p0 i43_0 x0_2 x0_3 x0_4 l43_4 l43_5 i58_0 (w64 (i58_1 + 1)) x72_1.data x72_1.at_ x72_1.err l72_1) [.bit true, .res (res_spec_l10R_fail x72_1), .num l72_1.length, .num (([] : List (List Int)).length), .num (([] : List (List Int)).length), .num l43_4.length, .num l43_5.length] 1000 (And.intro h72_0 (And.intro (ok_spec_l10R_fail x58_1.2 5 x72_1 h72_1) (And.intro (lens l72_1.length l72_1.length rfl) (And.intro (lens (([] : List (List Int)).length) (([] : List (List Int)).length) rfl) (And.intro (lens (([] : List (List Int)).length) (([] : List (List Int)).length) rfl) (And.intro (lens l43_4.length l43_4.length rfl) (And.intro (lens l43_5.length l43_5.length rfl) True.intro))))))) ?_ (by kernel_rfl)
    exact hin (i58_0, (w64 (i58_1 + 1)), x72_1.data, x72_1.at_, x72_1.err, l72_1) (Option.some.inj hm).symm
  · skip
    refine go_on (u' := .c c_spec_DecodeTones_58) (K' := K_spec_DecodeTones_58) (st' := s_spec_DecodeTones_58 p0 i43_0 x0_2 x0_3 x0_4 l43_4 l43_5 i58_0 (w64 (i58_1 + 1)) x58_1.2.data x58_1.2.at_ x58_1.2.err l72_1) [.bit false, .num l72_1.length, .num (([] : List (List Int)).length), .num (([] : List (List Int)).length), .num l43_4.length, .num l43_5.length] 1000 (And.intro h72_0 (And.intro (lens l72_1.length l72_1.length rfl) (And.intro (lens (([] : List (List Int)).length) (([] : List (List Int)).length) rfl) (And.intro (lens (([] : List (List Int)).length) (([] : List (List Int)).length) rfl) (And.intro (lens l43_4.length l43_4.length rfl) (And.intro (lens l43_5.length l43_5.length rfl) True.intro)))))) ?_ (by kernel_rfl)
    exact hin (i58_0, (w64 (i58_1 + 1)), x58_1.2.data, x58_1.2.at_, x58_1.2.err, l72_1) (Option.some.inj hm).symm

theorem ok_spec_DecodeTones_101 (p0 : (List Int)) (i43_0 : Int) (x0_2 : Int × S_l10R) (x0_3 : Int × S_l10R) (x0_4 : Int × S_l10R) (l76_3 : (List Int)) (l43_4 : (List (List Int))) (l43_5 : (List (List Int))) (l101_0 : (List Int)) (i101_1 : Int) (i101_2 : Int) (l101_3 : (List Int)) (y : (Int × (List Int) × Int × Int × (List (List Int)) × (List (List Int))) ⊕ (((List Int) × Int × Int × (List (List Int)) × (List (List Int))))) (hm : m_spec_DecodeTones_101 p0 i43_0 x0_2 x0_3 x0_4 l76_3 l43_4 l43_5 l101_0 i101_1 i101_2 l101_3 = some y) (Q : VX → St → Prop)
    (hin : ∀ s, y = .inl s → EvU ext tbl (.c c_spec_DecodeTones_43) K_spec_DecodeTones_43 (s_spec_DecodeTones_43 p0 x0_2 x0_3 x0_4 s.1 s.2.1 s.2.2.1 s.2.2.2.1 s.2.2.2.2.1 s.2.2.2.2.2) Q) (hout : ∀ e, y = .inr e → O_spec_DecodeTones_43 p0 x0_2 x0_3 x0_4 Q e) : EvU ext tbl (.c c_spec_DecodeTones_101) K_spec_DecodeTones_101 (s_spec_DecodeTones_101 p0 i43_0 x0_2 x0_3 x0_4 l76_3 l43_4 l43_5 l101_0 i101_1 i101_2 l101_3) Q := by
  obtain ⟨x101_0, h101_0, hm⟩ := bind_some hm
  obtain ⟨x101_1, h101_1, hm⟩ := bind_some hm
  refine go_on (u' := .c c_spec_DecodeTones_43) (K' := K_spec_DecodeTones_43) (st' := s_spec_DecodeTones_43 p0 x0_2 x0_3 x0_4 (w64 (i43_0 + 1)) l101_0 i101_1 i101_2 (l43_4 ++ ([l101_3] : List (List Int))) (l43_5 ++ ([l76_3] : List (List Int)))) [.rows (List.map (rI .i64) l101_3), .rows (List.map (rL (rI .i64)) ([l101_3] : List (List Int))), .num 1, .rows (List.map (rL (rI .i64)) (l43_4 ++ ([l101_3] : List (List Int)))), .num ((l43_4 ++ ([l101_3] : List (List Int))).length), .rows (List.map (rI .i64) l76_3), .rows (List.map (rL (rI .i64)) ([l76_3] : List (List Int))), .num 1, .rows (List.map (rL (rI .i64)) (l43_5 ++ ([l76_3] : List (List Int)))), .num ((l43_5 ++ ([l76_3] : List (List Int))).length), .num (([] : List (List Int)).length), .num (([] : List (List Int)).length), .num ((l43_4 ++ ([l101_3] : List (List Int))).length), .num ((l43_5 ++ ([l76_3] : List (List Int))).length)] 1000 (And.intro (all_le0 (rI .i64) l101_3 rfl) (And.intro (all_t (rI .i64) l101_3 rfl) (And.intro (Eq.refl (List.map (rL (rI .i64)) ([l101_3] : List (List Int)))) (And.intro (len_map (rL (rI .i64)) (show 1 = ([l101_3] : List (List Int)).length from rfl)) (And.intro (all_eq (rL (rI .i64)) ([l101_3] : List (List Int)) rfl) (And.intro (all_le (rL (rI .i64)) ([l101_3] : List (List Int)) rfl) (And.intro (app_ck_ro (rL (rI .i64)) l43_4 ([l101_3] : List (List Int)) rfl h101_0) (And.intro (app_tell_ro (rL (rI .i64)) l43_4 ([l101_3] : List (List Int)) rfl) (And.intro (len_map (rL (rI .i64)) (show (l43_4 ++ ([l101_3] : List (List Int))).length = (l43_4 ++ ([l101_3] : List (List Int))).length from rfl)) (And.intro (all_le0 (rI .i64) l76_3 rfl) (And.intro (all_t (rI .i64) l76_3 rfl) (And.intro (Eq.refl (List.map (rL (rI .i64)) ([l76_3] : List (List Int)))) (And.intro (len_map (rL (rI .i64)) (show 1 = ([l76_3] : List (List Int)).length from rfl)) (And.intro (all_eq (rL (rI .i64)) ([l76_3] : List (List Int)) rfl) (And.intro (all_le (rL (rI .i64)) ([l76_3] : List (List Int)) rfl) (And.intro (app_ck_ro (rL (rI .i64)) l43_5 ([l76_3] : List (List Int)) rfl h101_1) (And.intro (app_tell_ro (rL (rI .i64)) l43_5 ([l76_3] : List (List Int)) rfl) (And.intro (len_map (rL (rI .i64)) (show (l43_5 ++ ([l76_3] : List (List Int))).length = (l43_5 ++ ([l76_3] : List (List Int))).length from rfl)) (And.intro (lens (([] : List (List Int)).length) (([] : List (List Int)).length) rfl) (And.intro (lens (([] : List (List Int)).length) (([] : List (List Int)).length) rfl) (And.intro (lens ((l43_4 ++ ([l101_3] : List (List Int))).length) ((l43_4 ++ ([l101_3] : List (List Int))).length) rfl) (And.intro (lens ((l43_5 ++ ([l76_3] : List (List Int))).length) ((l43_5 ++ ([l76_3] : List (List Int))).length) rfl) True.intro)))))))))))))))))))))) ?_ (by kernel_rfl)
  exact hin ((w64 (i43_0 + 1)), l101_0, i101_1, i101_2, (l43_4 ++ ([l101_3] : List (List Int))), (l43_5 ++ ([l76_3] : List (List Int)))) (Option.some.inj hm).symm

theorem ok_spec_DecodeTones_91 (p0 : (List Int)) (i43_0 : Int) (x76_0 : Int × S_l10R) (x0_2 : Int × S_l10R) (x0_3 : Int × S_l10R) (x0_4 : Int × S_l10R) (l76_3 : (List Int)) (l43_4 : (List (List Int))) (l43_5 : (List (List Int))) (i91_0 : Int) (l91_1 : (List Int)) (i91_2 : Int) (i91_3 : Int) (l91_4 : (List Int)) (y : (Int × (List Int) × Int × Int × (List Int)) ⊕ (((List Int) × Int × Int × (List Int)))) (hm : m_spec_DecodeTones_91 p0 i43_0 x76_0 x0_2 x0_3 x0_4 l76_3 l43_4 l43_5 i91_0 l91_1 i91_2 i91_3 l91_4 = some y) (Q : VX → St → Prop)
    (hin : ∀ s, y = .inl s → EvU ext tbl (.c c_spec_DecodeTones_91) K_spec_DecodeTones_91 (s_spec_DecodeTones_91 p0 i43_0 x76_0 x0_2 x0_3 x0_4 l76_3 l43_4 l43_5 s.1 s.2.1 s.2.2.1 s.2.2.2.1 s.2.2.2.2) Q) (hout : ∀ e, y = .inr e → O_spec_DecodeTones_91 p0 i43_0 x0_2 x0_3 x0_4 l76_3 l43_4 l43_5 Q e) : EvU ext tbl (.c c_spec_DecodeTones_91) K_spec_DecodeTones_91 (s_spec_DecodeTones_91 p0 i43_0 x76_0 x0_2 x0_3 x0_4 l76_3 l43_4 l43_5 i91_0 l91_1 i91_2 i91_3 l91_4) Q := by
  obtain ⟨h91_0, hm⟩ | ⟨h91_0, hm⟩ := split_ite hm
  · skip
    obtain ⟨h91_1, hm⟩ | ⟨h91_1, hm⟩ := split_ite hm
    · skip
      obtain ⟨x91_2, h91_2, hm⟩ := bind_some hm
      obtain ⟨x91_3, h91_3, hm⟩ := bind_some hm
      refine go_on (u' := .c c_spec_DecodeTones_91) (K' := K_spec_DecodeTones_91) (st' := s_spec_DecodeTones_91 p0 i43_0 x76_0 x0_2 x0_3 x0_4 l76_3 l43_4 l43_5 (w64 (i91_0 + 1)) x91_2.2.data x91_2.2.at_ x91_2.2.err (l91_4.set (0 + Int.toNat i91_0) x91_2.1)) [.bit true, .bit true, .bit true, .bit true, .bit true, .bit true, .bit true, .res (res_spec_l10R_folded x91_2), .rows (List.map (rI .i64) (l91_4.set (0 + Int.toNat i91_0) x91_2.1)), .num l76_3.length, .num ((l91_4.set (0 + Int.toNat i91_0) x91_2.1).length), .num (([] : List (List Int)).length), .num (([] : List (List Int)).length), .num l43_4.length, .num l43_5.length] 1000 (And.intro h91_0 (And.intro h91_0 (And.intro h91_0 (And.intro h91_0 (And.intro h91_0 (And.intro h91_0 (And.intro h91_1 (And.intro (ok_spec_l10R_folded (S_l10R.mk l91_1 i91_2 i91_3) x76_0.1 x91_2 h91_2) (And.intro (rd_in rfl h91_3) (And.intro (put_ob (rI .i64) x91_2.1 0 (.lit (.int .i64 x91_2.1)) (rd_get0 h91_3) (by kernel_rfl) (by kernel_rfl)) (And.intro (lens l76_3.length l76_3.length rfl) (And.intro (lens l91_4.length ((l91_4.set (0 + Int.toNat i91_0) x91_2.1).length) (set_len rfl)) (And.intro (lens (([] : List (List Int)).length) (([] : List (List Int)).length) rfl) (And.intro (lens (([] : List (List Int)).length) (([] : List (List Int)).length) rfl) (And.intro (lens l43_4.length l43_4.length rfl) (And.intro (lens l43_5.length l43_5.length rfl) True.intro)))))))))))))))) ?_ (by kernel_rfl)
      exact hin ((w64 (i91_0 + 1)), x91_2.2.data, x91_2.2.at_, x91_2.2.err, (l91_4.set (0 + Int.toNat i91_0) x91_2.1)) (Option.some.inj hm).symm
    · skip
      refine go_on (u' := .c c_spec_DecodeTones_101) (K' := K_spec_DecodeTones_101) (st' := s_spec_DecodeTones_101 p0 i43_0 x0_2 x0_3 x0_4 l76_3 l43_4 l43_5 l91_1 i91_2 i91_3 l91_4) [.bit true, .bit true, .bit true, .bit true, .bit true, .bit true, .bit false, .num l76_3.length, .num l91_4.length, .num (([] : List (List Int)).length), .num (([] : List (List Int)).length), .num l43_4.length, .num l43_5.length] 1000 (And.intro h91_0 (And.intro h91_0 (And.intro h91_0 (And.intro h91_0 (And.intro h91_0 (And.intro h91_0 (And.intro h91_1 (And.intro (lens l76_3.length l76_3.length rfl) (And.intro (lens l91_4.length l91_4.length rfl) (And.intro (lens (([] : List (List Int)).length) (([] : List (List Int)).length) rfl) (And.intro (lens (([] : List (List Int)).length) (([] : List (List Int)).length) rfl) (And.intro (lens l43_4.length l43_4.length rfl) (And.intro (lens l43_5.length l43_5.length rfl) True.intro))))))))))))) ?_ (by kernel_rfl)
      exact hout (l91_1, i91_2, i91_3, l91_4) (Option.some.inj hm).symm
  · skip
    refine go_on (u' := .c c_spec_DecodeTones_101) (K' := K_spec_DecodeTones_101) (st' := s_spec_DecodeTones_101 p0 i43_0 x0_2 x0_3 x0_4 l76_3 l43_4 l43_5 l91_1 i91_2 i91_3 l91_4) [.bit false, .bit false, .bit false, .bit false, .bit false, .bit false, .bit false, .num l76_3.length, .num l91_4.length, .num (([] : List (List Int)).length), .num (([] : List (List Int)).length), .num l43_4.length, .num l43_5.length] 1000 (And.intro h91_0 (And.intro h91_0 (And.intro h91_0 (And.intro h91_0 (And.intro h91_0 (And.intro h91_0 (And.intro (Eq.refl false) (And.intro (lens l76_3.length l76_3.length rfl) (And.intro (lens l91_4.length l91_4.length rfl) (And.intro (lens (([] : List (List Int)).length) (([] : List (List Int)).length) rfl) (And.intro (lens (([] : List (List Int)).length) (([] : List (List Int)).length) rfl) (And.intro (lens l43_4.length l43_4.length rfl) (And.intro (lens l43_5.length l43_5.length rfl) True.intro))))))))))))) ?_ (by kernel_rfl)
    exact hout (l91_1, i91_2, i91_3, l91_4) (Option.some.inj hm).symm

theorem ok_spec_DecodeTones_84 (p0 : (List Int)) (i43_0 : Int) (x76_0 : Int × S_l10R) (x0_2 : Int × S_l10R) (x0_3 : Int × S_l10R) (x0_4 : Int × S_l10R) (l76_3 : (List Int)) (l43_4 : (List (List Int))) (l43_5 : (List (List Int))) (l84_0 : (List Int)) (i84_1 : Int) (i84_2 : Int) (y : (Int × (List Int) × Int × Int × (List (List Int)) × (List (List Int))) ⊕ (((List Int) × Int × Int × (List (List Int)) × (List (List Int))))) (hm : m_spec_DecodeTones_84 p0 i43_0 x76_0 x0_2 x0_3 x0_4 l76_3 l43_4 l43_5 l84_0 i84_1 i84_2 = some y) (Q : VX → St → Prop)
    (hin : ∀ s, y = .inl s → EvU ext tbl (.c c_spec_DecodeTones_43) K_spec_DecodeTones_43 (s_spec_DecodeTones_43 p0 x0_2 x0_3 x0_4 s.1 s.2.1 s.2.2.1 s.2.2.2.1 s.2.2.2.2.1 s.2.2.2.2.2) Q) (hout : ∀ e, y = .inr e → O_spec_DecodeTones_43 p0 x0_2 x0_3 x0_4 Q e) : EvU ext tbl (.c c_spec_DecodeTones_84) K_spec_DecodeTones_84 (s_spec_DecodeTones_84 p0 i43_0 x76_0 x0_2 x0_3 x0_4 l76_3 l43_4 l43_5 l84_0 i84_1 i84_2) Q := by
  obtain ⟨x84_0, h84_0, hm⟩ := bind_some hm
  refine go_on (u' := .c c_spec_DecodeTones_91) (K' := K_spec_DecodeTones_91) (st' := s_spec_DecodeTones_91 p0 i43_0 x76_0 x0_2 x0_3 x0_4 l76_3 l43_4 l43_5 0 l84_0 i84_1 i84_2 (List.replicate (Int.toNat 16) (0 : Int))) [.rows (List.map (rI .i64) (List.replicate (Int.toNat 16) (0 : Int))), .num (Int.toNat 16), .num l76_3.length, .num ((List.replicate (Int.toNat 16) (0 : Int)).length), .num (([] : List (List Int)).length), .num (([] : List (List Int)).length), .num l43_4.length, .num l43_5.length] 1000 (And.intro (ck_p h84_0) (And.intro (rep_ob (rI .i64) (Int.toNat 16) (0 : Int) [.lit (.int .i64 0)] (by kernel_rfl)) (And.intro (len_map (rI .i64) (show (Int.toNat 16) = (List.replicate (Int.toNat 16) (0 : Int)).length from (rep_len (Int.toNat 16) (0 : Int)))) (And.intro (lens l76_3.length l76_3.length rfl) (And.intro (lens (Int.toNat 16) ((List.replicate (Int.toNat 16) (0 : Int)).length) (rep_len (Int.toNat 16) (0 : Int))) (And.intro (lens (([] : List (List Int)).length) (([] : List (List Int)).length) rfl) (And.intro (lens (([] : List (List Int)).length) (([] : List (List Int)).length) rfl) (And.intro (lens l43_4.length l43_4.length rfl) (And.intro (lens l43_5.length l43_5.length rfl) True.intro))))))))) ?_ (by kernel_rfl)
  obtain ⟨e, he, hm⟩ := bind_some hm
  refine loop_rule (u := .c c_spec_DecodeTones_91) (K := K_spec_DecodeTones_91) (Q := Q) (b := lp_spec_DecodeTones_91 p0 i43_0 x76_0 x0_2 x0_3 x0_4 l76_3 l43_4 l43_5) (We := O_spec_DecodeTones_91 p0 i43_0 x0_2 x0_3 x0_4 l76_3 l43_4 l43_5 Q) (stJ := fun s => s_spec_DecodeTones_91 p0 i43_0 x76_0 x0_2 x0_3 x0_4 l76_3 l43_4 l43_5 s.1 s.2.1 s.2.2.1 s.2.2.2.1 s.2.2.2.2) (s := (0, l84_0, i84_1, i84_2, (List.replicate (Int.toNat 16) (0 : Int)))) (fun s y hb hin hout => ok_spec_DecodeTones_91 p0 i43_0 x76_0 x0_2 x0_3 x0_4 l76_3 l43_4 l43_5 s.1 s.2.1 s.2.2.1 s.2.2.2.1 s.2.2.2.2 y hb Q hin hout) he ?_
  show EvU ext tbl (.c c_spec_DecodeTones_101) K_spec_DecodeTones_101 (s_spec_DecodeTones_101 p0 i43_0 x0_2 x0_3 x0_4 l76_3 l43_4 l43_5 e.1 e.2.1 e.2.2.1 e.2.2.2) _
  exact ok_spec_DecodeTones_101 p0 i43_0 x0_2 x0_3 x0_4 l76_3 l43_4 l43_5 e.1 e.2.1 e.2.2.1 e.2.2.2 y hm Q hin hout

theorem ok_spec_DecodeTones_81 (p0 : (List Int)) (i43_0 : Int) (x76_0 : Int × S_l10R) (x0_2 : Int × S_l10R) (x0_3 : Int × S_l10R) (x0_4 : Int × S_l10R) (l76_3 : (List Int)) (l43_4 : (List (List Int))) (l43_5 : (List (List Int))) (b81_0 : Bool) (y : (Int × (List Int) × Int × Int × (List (List Int)) × (List (List Int))) ⊕ (((List Int) × Int × Int × (List (List Int)) × (List (List Int))))) (hm : m_spec_DecodeTones_81 p0 i43_0 x76_0 x0_2 x0_3 x0_4 l76_3 l43_4 l43_5 b81_0 = some y) (Q : VX → St → Prop)
    (hin : ∀ s, y = .inl s → EvU ext tbl (.c c_spec_DecodeTones_43) K_spec_DecodeTones_43 (s_spec_DecodeTones_43 p0 x0_2 x0_3 x0_4 s.1 s.2.1 s.2.2.1 s.2.2.2.1 s.2.2.2.2.1 s.2.2.2.2.2) Q) (hout : ∀ e, y = .inr e → O_spec_DecodeTones_43 p0 x0_2 x0_3 x0_4 Q e) : EvU ext tbl (.c c_spec_DecodeTones_81) K_spec_DecodeTones_81 (s_spec_DecodeTones_81 p0 i43_0 x76_0 x0_2 x0_3 x0_4 l76_3 l43_4 l43_5 b81_0) Q := by
  obtain ⟨h81_0, hm⟩ | ⟨h81_0, hm⟩ := split_ite hm
  · skip
    obtain ⟨x81_1, h81_1, hm⟩ := bind_some hm
    refine go_on (u' := .c c_spec_DecodeTones_84) (K' := K_spec_DecodeTones_84) (st' := s_spec_DecodeTones_84 p0 i43_0 x76_0 x0_2 x0_3 x0_4 l76_3 l43_4 l43_5 x81_1.data x81_1.at_ x81_1.err) [.bit true, .res (res_spec_l10R_fail x81_1), .num l76_3.length, .num (([] : List (List Int)).length), .num (([] : List (List Int)).length), .num l43_4.length, .num l43_5.length] 1000 (And.intro h81_0 (And.intro (ok_spec_l10R_fail x76_0.2 5 x81_1 h81_1) (And.intro (lens l76_3.length l76_3.length rfl) (And.intro (lens (([] : List (List Int)).length) (([] : List (List Int)).length) rfl) (And.intro (lens (([] : List (List Int)).length) (([] : List (List Int)).length) rfl) (And.intro (lens l43_4.length l43_4.length rfl) (And.intro (lens l43_5.length l43_5.length rfl) True.intro))))))) ?_ (by kernel_rfl)
    exact ok_spec_DecodeTones_84 p0 i43_0 x76_0 x0_2 x0_3 x0_4 l76_3 l43_4 l43_5 x81_1.data x81_1.at_ x81_1.err y hm Q hin hout
  · skip
    refine go_on (u' := .c c_spec_DecodeTones_84) (K' := K_spec_DecodeTones_84) (st' := s_spec_DecodeTones_84 p0 i43_0 x76_0 x0_2 x0_3 x0_4 l76_3 l43_4 l43_5 x76_0.2.data x76_0.2.at_ x76_0.2.err) [.bit false, .num l76_3.length, .num (([] : List (List Int)).length), .num (([] : List (List Int)).length), .num l43_4.length, .num l43_5.length] 1000 (And.intro h81_0 (And.intro (lens l76_3.length l76_3.length rfl) (And.intro (lens (([] : List (List Int)).length) (([] : List (List Int)).length) rfl) (And.intro (lens (([] : List (List Int)).length) (([] : List (List Int)).length) rfl) (And.intro (lens l43_4.length l43_4.length rfl) (And.intro (lens l43_5.length l43_5.length rfl) True.intro)))))) ?_ (by kernel_rfl)
    exact ok_spec_DecodeTones_84 p0 i43_0 x76_0 x0_2 x0_3 x0_4 l76_3 l43_4 l43_5 x76_0.2.data x76_0.2.at_ x76_0.2.err y hm Q hin hout

theorem ok_spec_DecodeTones_76 (p0 : (List Int)) (i43_0 : Int) (x0_2 : Int × S_l10R) (x0_3 : Int × S_l10R) (x0_4 : Int × S_l10R) (l43_4 : (List (List Int))) (l43_5 : (List (List Int))) (l76_0 : (List Int)) (i76_1 : Int) (i76_2 : Int) (l76_3 : (List Int)) (y : (Int × (List Int) × Int × Int × (List (List Int)) × (List (List Int))) ⊕ (((List Int) × Int × Int × (List (List Int)) × (List (List Int))))) (hm : m_spec_DecodeTones_76 p0 i43_0 x0_2 x0_3 x0_4 l43_4 l43_5 l76_0 i76_1 i76_2 l76_3 = some y) (Q : VX → St → Prop)
    (hin : ∀ s, y = .inl s → EvU ext tbl (.c c_spec_DecodeTones_43) K_spec_DecodeTones_43 (s_spec_DecodeTones_43 p0 x0_2 x0_3 x0_4 s.1 s.2.1 s.2.2.1 s.2.2.2.1 s.2.2.2.2.1 s.2.2.2.2.2) Q) (hout : ∀ e, y = .inr e → O_spec_DecodeTones_43 p0 x0_2 x0_3 x0_4 Q e) : EvU ext tbl (.c c_spec_DecodeTones_76) K_spec_DecodeTones_76 (s_spec_DecodeTones_76 p0 i43_0 x0_2 x0_3 x0_4 l43_4 l43_5 l76_0 i76_1 i76_2 l76_3) Q := by
  obtain ⟨x76_0, h76_0, hm⟩ := bind_some hm
  obtain ⟨h76_1, hm⟩ | ⟨h76_1, hm⟩ := split_ite hm
  · skip
    refine go_on (u' := .c c_spec_DecodeTones_81) (K' := K_spec_DecodeTones_81) (st' := s_spec_DecodeTones_81 p0 i43_0 x76_0 x0_2 x0_3 x0_4 l76_3 l43_4 l43_5 (decide (x76_0.1 > 16))) [.res (res_spec_l10R_take x76_0), .bit true, .bit true, .bit true, .num l76_3.length, .num (([] : List (List Int)).length), .num (([] : List (List Int)).length), .num l43_4.length, .num l43_5.length] 1000 (And.intro (ok_spec_l10R_take (S_l10R.mk l76_0 i76_1 i76_2) 5 x76_0 h76_0) (And.intro h76_1 (And.intro h76_1 (And.intro h76_1 (And.intro (lens l76_3.length l76_3.length rfl) (And.intro (lens (([] : List (List Int)).length) (([] : List (List Int)).length) rfl) (And.intro (lens (([] : List (List Int)).length) (([] : List (List Int)).length) rfl) (And.intro (lens l43_4.length l43_4.length rfl) (And.intro (lens l43_5.length l43_5.length rfl) True.intro))))))))) ?_ (by kernel_rfl)
    exact ok_spec_DecodeTones_81 p0 i43_0 x76_0 x0_2 x0_3 x0_4 l76_3 l43_4 l43_5 (decide (x76_0.1 > 16)) y hm Q hin hout
  · skip
    refine go_on (u' := .c c_spec_DecodeTones_81) (K' := K_spec_DecodeTones_81) (st' := s_spec_DecodeTones_81 p0 i43_0 x76_0 x0_2 x0_3 x0_4 l76_3 l43_4 l43_5 false) [.res (res_spec_l10R_take x76_0), .bit false, .bit false, .bit false, .num l76_3.length, .num (([] : List (List Int)).length), .num (([] : List (List Int)).length), .num l43_4.length, .num l43_5.length] 1000 (And.intro (ok_spec_l10R_take (S_l10R.mk l76_0 i76_1 i76_2) 5 x76_0 h76_0) (And.intro h76_1 (And.intro h76_1 (And.intro h76_1 (And.intro (lens l76_3.length l76_3.length rfl) (And.intro (lens (([] : List (List Int)).length) (([] : List (List Int)).length) rfl) (And.intro (lens (([] : List (List Int)).length) (([] : List (List Int)).length) rfl) (And.intro (lens l43_4.length l43_4.length rfl) (And.intro (lens l43_5.length l43_5.length rfl) True.intro))))))))) ?_ (by kernel_rfl)
    exact ok_spec_DecodeTones_81 p0 i43_0 x76_0 x0_2 x0_3 x0_4 l76_3 l43_4 l43_5 false y hm Q hin hout

theorem ok_spec_DecodeTones_58 (p0 : (List Int)) (i43_0 : Int) (x0_2 : Int × S_l10R) (x0_3 : Int × S_l10R) (x0_4 : Int × S_l10R) (l43_4 : (List (List Int))) (l43_5 : (List (List Int))) (i58_0 : Int) (i58_1 : Int) (l58_2 : (List Int)) (i58_3 : Int) (i58_4 : Int) (l58_5 : (List Int)) (y : (Int × Int × (List Int) × Int × Int × (List Int)) ⊕ (((List Int) × Int × Int × (List Int)))) (hm : m_spec_DecodeTones_58 p0 i43_0 x0_2 x0_3 x0_4 l43_4 l43_5 i58_0 i58_1 l58_2 i58_3 i58_4 l58_5 = some y) (Q : VX → St → Prop)
    (hin : ∀ s, y = .inl s → EvU ext tbl (.c c_spec_DecodeTones_58) K_spec_DecodeTones_58 (s_spec_DecodeTones_58 p0 i43_0 x0_2 x0_3 x0_4 l43_4 l43_5 s.1 s.2.1 s.2.2.1 s.2.2.2.1 s.2.2.2.2.1 s.2.2.2.2.2) Q) (hout : ∀ e, y = .inr e → O_spec_DecodeTones_58 p0 i43_0 x0_2 x0_3 x0_4 l43_4 l43_5 Q e) : EvU ext tbl (.c c_spec_DecodeTones_58) K_spec_DecodeTones_58 (s_spec_DecodeTones_58 p0 i43_0 x0_2 x0_3 x0_4 l43_4 l43_5 i58_0 i58_1 l58_2 i58_3 i58_4 l58_5) Q := by
  obtain ⟨h58_0, hm⟩ | ⟨h58_0, hm⟩ := split_ite hm
  · skip
    obtain ⟨x58_1, h58_1, hm⟩ := bind_some hm
    obtain ⟨x58_2, h58_2, hm⟩ := bind_some hm
    obtain ⟨h58_3, hm⟩ | ⟨h58_3, hm⟩ := split_ite hm
    · skip
      obtain ⟨x58_4, h58_4, hm⟩ := bind_some hm
      refine go_on (u' := .c c_spec_DecodeTones_72) (K' := K_spec_DecodeTones_72) (st' := s_spec_DecodeTones_72 p0 i43_0 i58_0 i58_1 x58_1 x0_2 x0_3 x0_4 l43_4 l43_5 (decide (x58_1.1 > 12)) (l58_5.set (0 + Int.toNat i58_1) x58_1.1)) [.bit true, .res (res_spec_l10R_take x58_1), .rows (List.map (rI .i64) (l58_5.set (0 + Int.toNat i58_1) x58_1.1)), .bit true, .bit true, .bit true, .bit true, .row ((rI .i64) x58_1.1), .bit true, .bit true, .num ((l58_5.set (0 + Int.toNat i58_1) x58_1.1).length), .num (([] : List (List Int)).length), .num (([] : List (List Int)).length), .num l43_4.length, .num l43_5.length] 1000 (And.intro h58_0 (And.intro (ok_spec_l10R_take (S_l10R.mk l58_2 i58_3 i58_4) 4 x58_1 h58_1) (And.intro (rd_in rfl h58_2) (And.intro (put_ob (rI .i64) x58_1.1 0 (.lit (.int .i64 x58_1.1)) (rd_get0 h58_2) (by kernel_rfl) (by kernel_rfl)) (And.intro h58_3 (And.intro h58_3 (And.intro h58_3 (And.intro (rd_in (set_len rfl) h58_4) (And.intro h58_3 (And.intro (at_row (rI .i64) (set_at x58_1.1 (rd_get0 h58_2))) (And.intro h58_3 (And.intro h58_3 (And.intro (lens l58_5.length ((l58_5.set (0 + Int.toNat i58_1) x58_1.1).length) (set_len rfl)) (And.intro (lens (([] : List (List Int)).length) (([] : List (List Int)).length) rfl) (And.intro (lens (([] : List (List Int)).length) (([] : List (List Int)).length) rfl) (And.intro (lens l43_4.length l43_4.length rfl) (And.intro (lens l43_5.length l43_5.length rfl) True.intro))))))))))))))))) ?_ (by kernel_rfl)
      exact ok_spec_DecodeTones_72 p0 i43_0 i58_0 i58_1 x58_1 x0_2 x0_3 x0_4 l43_4 l43_5 (decide (x58_1.1 > 12)) (l58_5.set (0 + Int.toNat i58_1) x58_1.1) y hm Q hin hout
    · skip
      refine go_on (u' := .c c_spec_DecodeTones_72) (K' := K_spec_DecodeTones_72) (st' := s_spec_DecodeTones_72 p0 i43_0 i58_0 i58_1 x58_1 x0_2 x0_3 x0_4 l43_4 l43_5 false (l58_5.set (0 + Int.toNat i58_1) x58_1.1)) [.bit true, .res (res_spec_l10R_take x58_1), .rows (List.map (rI .i64) (l58_5.set (0 + Int.toNat i58_1) x58_1.1)), .bit false, .bit false, .bit false, .bit false, .bit false, .bit false, .num ((l58_5.set (0 + Int.toNat i58_1) x58_1.1).length), .num (([] : List (List Int)).length), .num (([] : List (List Int)).length), .num l43_4.length, .num l43_5.length] 1000 (And.intro h58_0 (And.intro (ok_spec_l10R_take (S_l10R.mk l58_2 i58_3 i58_4) 4 x58_1 h58_1) (And.intro (rd_in rfl h58_2) (And.intro (put_ob (rI .i64) x58_1.1 0 (.lit (.int .i64 x58_1.1)) (rd_get0 h58_2) (by kernel_rfl) (by kernel_rfl)) (And.intro h58_3 (And.intro h58_3 (And.intro h58_3 (And.intro h58_3 (And.intro h58_3 (And.intro h58_3 (And.intro (lens l58_5.length ((l58_5.set (0 + Int.toNat i58_1) x58_1.1).length) (set_len rfl)) (And.intro (lens (([] : List (List Int)).length) (([] : List (List Int)).length) rfl) (And.intro (lens (([] : List (List Int)).length) (([] : List (List Int)).length) rfl) (And.intro (lens l43_4.length l43_4.length rfl) (And.intro (lens l43_5.length l43_5.length rfl) True.intro))))))))))))))) ?_ (by kernel_rfl)
      exact ok_spec_DecodeTones_72 p0 i43_0 i58_0 i58_1 x58_1 x0_2 x0_3 x0_4 l43_4 l43_5 false (l58_5.set (0 + Int.toNat i58_1) x58_1.1) y hm Q hin hout
  · skip
    refine go_on (u' := .c c_spec_DecodeTones_76) (K' := K_spec_DecodeTones_76) (st' := s_spec_DecodeTones_76 p0 i43_0 x0_2 x0_3 x0_4 l43_4 l43_5 l58_2 i58_3 i58_4 l58_5) [.bit false, .num l58_5.length, .num (([] : List (List Int)).length), .num (([] : List (List Int)).length), .num l43_4.length, .num l43_5.length] 1000 (And.intro h58_0 (And.intro (lens l58_5.length l58_5.length rfl) (And.intro (lens (([] : List (List Int)).length) (([] : List (List Int)).length) rfl) (And.intro (lens (([] : List (List Int)).length) (([] : List (List Int)).length) rfl) (And.intro (lens l43_4.length l43_4.length rfl) (And.intro (lens l43_5.length l43_5.length rfl) True.intro)))))) ?_ (by kernel_rfl)
    exact hout (l58_2, i58_3, i58_4, l58_5) (Option.some.inj hm).symm

theorem ok_spec_DecodeTones_113 (x0_2 : Int × S_l10R) (x0_3 : Int × S_l10R) (x0_4 : Int × S_l10R) (l105_3 : (List (List Int))) (l105_4 : (List (List Int))) (l113_0 : (List Int)) (i113_1 : Int) (i113_2 : Int) (r : Int × S_Tones) (hm : m_spec_DecodeTones_113 x0_2 x0_3 x0_4 l105_3 l105_4 l113_0 i113_1 i113_2 = some r) : EvU ext tbl (.c c_spec_DecodeTones_113) K_spec_DecodeTones_113 (s_spec_DecodeTones_113 x0_2 x0_3 x0_4 l105_3 l105_4 l113_0 i113_1 i113_2) (Post vf_spec_DecodeTones (res_spec_DecodeTones r)) := by
  obtain ⟨h113_0, hm⟩ | ⟨h113_0, hm⟩ := split_ite hm
  · skip
    exact go_end [.bit true, .rows (List.map (rL (rI .i64)) ([] : List (List Int))), .rows (List.map (rL (rI .i64)) ([] : List (List Int)))] 1000 (And.intro h113_0 (And.intro (all_le0 (rL (rI .i64)) ([] : List (List Int)) rfl) (And.intro (all_t (rL (rI .i64)) ([] : List (List Int)) rfl) (And.intro (all_le0 (rL (rI .i64)) ([] : List (List Int)) rfl) (And.intro (all_t (rL (rI .i64)) ([] : List (List Int)) rfl) True.intro))))) (congrArg res_spec_DecodeTones (Option.some.inj hm)) (by kernel_rfl)
  · skip
    exact go_end [.bit false, .rows (List.map (rL (rI .i64)) l105_3), .rows (List.map (rL (rI .i64)) l105_4)] 1000 (And.intro h113_0 (And.intro (all_le0 (rL (rI .i64)) l105_3 rfl) (And.intro (all_t (rL (rI .i64)) l105_3 rfl) (And.intro (all_le0 (rL (rI .i64)) l105_4 rfl) (And.intro (all_t (rL (rI .i64)) l105_4 rfl) True.intro))))) (congrArg res_spec_DecodeTones (Option.some.inj hm)) (by kernel_rfl)

theorem ok_spec_DecodeTones_110 (x105_0 : S_l10R) (x0_2 : Int × S_l10R) (x0_3 : Int × S_l10R) (x0_4 : Int × S_l10R) (l105_3 : (List (List Int))) (l105_4 : (List (List Int))) (b110_0 : Bool) (r : Int × S_Tones) (hm : m_spec_DecodeTones_110 x105_0 x0_2 x0_3 x0_4 l105_3 l105_4 b110_0 = some r) : EvU ext tbl (.c c_spec_DecodeTones_110) K_spec_DecodeTones_110 (s_spec_DecodeTones_110 x105_0 x0_2 x0_3 x0_4 l105_3 l105_4 b110_0) (Post vf_spec_DecodeTones (res_spec_DecodeTones r)) := by
  obtain ⟨h110_0, hm⟩ | ⟨h110_0, hm⟩ := split_ite hm
  · skip
    obtain ⟨x110_1, h110_1, hm⟩ := bind_some hm
    refine go_on (u' := .c c_spec_DecodeTones_113) (K' := K_spec_DecodeTones_113) (st' := s_spec_DecodeTones_113 x0_2 x0_3 x0_4 l105_3 l105_4 x110_1.data x110_1.at_ x110_1.err) [.bit true, .res (res_spec_l10R_fail x110_1), .num (([] : List (List Int)).length), .num (([] : List (List Int)).length), .num l105_3.length, .num l105_4.length] 1000 (And.intro h110_0 (And.intro (ok_spec_l10R_fail x105_0 8 x110_1 h110_1) (And.intro (lens (([] : List (List Int)).length) (([] : List (List Int)).length) rfl) (And.intro (lens (([] : List (List Int)).length) (([] : List (List Int)).length) rfl) (And.intro (lens l105_3.length l105_3.length rfl) (And.intro (lens l105_4.length l105_4.length rfl) True.intro)))))) ?_ (by kernel_rfl)
    exact ok_spec_DecodeTones_113 x0_2 x0_3 x0_4 l105_3 l105_4 x110_1.data x110_1.at_ x110_1.err r hm
  · skip
    refine go_on (u' := .c c_spec_DecodeTones_113) (K' := K_spec_DecodeTones_113) (st' := s_spec_DecodeTones_113 x0_2 x0_3 x0_4 l105_3 l105_4 x105_0.data x105_0.at_ x105_0.err) [.bit false, .num (([] : List (List Int)).length), .num (([] : List (List Int)).length), .num l105_3.length, .num l105_4.length] 1000 (And.intro h110_0 (And.intro (lens (([] : List (List Int)).length) (([] : List (List Int)).length) rfl) (And.intro (lens (([] : List (List Int)).length) (([] : List (List Int)).length) rfl) (And.intro (lens l105_3.length l105_3.length rfl) (And.intro (lens l105_4.length l105_4.length rfl) True.intro))))) ?_ (by kernel_rfl)
    exact ok_spec_DecodeTones_113 x0_2 x0_3 x0_4 l105_3 l105_4 x105_0.data x105_0.at_ x105_0.err r hm

theorem ok_spec_DecodeTones_105 (p0 : (List Int)) (x0_2 : Int × S_l10R) (x0_3 : Int × S_l10R) (x0_4 : Int × S_l10R) (l105_0 : (List Int)) (i105_1 : Int) (i105_2 : Int) (l105_3 : (List (List Int))) (l105_4 : (List (List Int))) (r : Int × S_Tones) (hm : m_spec_DecodeTones_105 p0 x0_2 x0_3 x0_4 l105_0 i105_1 i105_2 l105_3 l105_4 = some r) : EvU ext tbl (.c c_spec_DecodeTones_105) K_spec_DecodeTones_105 (s_spec_DecodeTones_105 p0 x0_2 x0_3 x0_4 l105_0 i105_1 i105_2 l105_3 l105_4) (Post vf_spec_DecodeTones (res_spec_DecodeTones r)) := by
  obtain ⟨x105_0, h105_0, hm⟩ := bind_some hm
  obtain ⟨h105_1, hm⟩ | ⟨h105_1, hm⟩ := split_ite hm
  · skip
    refine go_on (u' := .c c_spec_DecodeTones_110) (K' := K_spec_DecodeTones_110) (st' := s_spec_DecodeTones_110 x105_0 x0_2 x0_3 x0_4 l105_3 l105_4 (decide (x105_0.at_ < (w64 (8 * (p0.length : Int)))))) [.res (res_spec_l10R_fill x105_0), .bit true, .bit true, .bit true, .bit true, .bit true, .bit true, .num p0.length, .bit true, .bit true, .bit true, .num (([] : List (List Int)).length), .num (([] : List (List Int)).length), .num l105_3.length, .num l105_4.length] 1000 (And.intro (ok_spec_l10R_fill (S_l10R.mk l105_0 i105_1 i105_2) x105_0 h105_0) (And.intro h105_1 (And.intro h105_1 (And.intro h105_1 (And.intro h105_1 (And.intro h105_1 (And.intro h105_1 (And.intro (len_map (rI .u8) (show p0.length = p0.length from rfl)) (And.intro h105_1 (And.intro h105_1 (And.intro h105_1 (And.intro (lens (([] : List (List Int)).length) (([] : List (List Int)).length) rfl) (And.intro (lens (([] : List (List Int)).length) (([] : List (List Int)).length) rfl) (And.intro (lens l105_3.length l105_3.length rfl) (And.intro (lens l105_4.length l105_4.length rfl) True.intro))))))))))))))) ?_ (by kernel_rfl)
    exact ok_spec_DecodeTones_110 x105_0 x0_2 x0_3 x0_4 l105_3 l105_4 (decide (x105_0.at_ < (w64 (8 * (p0.length : Int))))) r hm
  · skip
    refine go_on (u' := .c c_spec_DecodeTones_110) (K' := K_spec_DecodeTones_110) (st' := s_spec_DecodeTones_110 x105_0 x0_2 x0_3 x0_4 l105_3 l105_4 false) [.res (res_spec_l10R_fill x105_0), .bit false, .bit false, .bit false, .bit false, .bit false, .bit false, .bit false, .bit false, .bit false, .num (([] : List (List Int)).length), .num (([] : List (List Int)).length), .num l105_3.length, .num l105_4.length] 1000 (And.intro (ok_spec_l10R_fill (S_l10R.mk l105_0 i105_1 i105_2) x105_0 h105_0) (And.intro h105_1 (And.intro h105_1 (And.intro h105_1 (And.intro h105_1 (And.intro h105_1 (And.intro h105_1 (And.intro h105_1 (And.intro h105_1 (And.intro h105_1 (And.intro (lens (([] : List (List Int)).length) (([] : List (List Int)).length) rfl) (And.intro (lens (([] : List (List Int)).length) (([] : List (List Int)).length) rfl) (And.intro (lens l105_3.length l105_3.length rfl) (And.intro (lens l105_4.length l105_4.length rfl) True.intro)))))))))))))) ?_ (by kernel_rfl)
    exact ok_spec_DecodeTones_110 x105_0 x0_2 x0_3 x0_4 l105_3 l105_4 false r hm

theorem ok_spec_DecodeTones_43 (p0 : (List Int)) (x0_2 : Int × S_l10R) (x0_3 : Int × S_l10R) (x0_4 : Int × S_l10R) (i43_0 : Int) (l43_1 : (List Int)) (i43_2 : Int) (i43_3 : Int) (l43_4 : (List (List Int))) (l43_5 : (List (List Int))) (y : (Int × (List Int) × Int × Int × (List (List Int)) × (List (List Int))) ⊕ (((List Int) × Int × Int × (List (List Int)) × (List (List Int))))) (hm : m_spec_DecodeTones_43 p0 x0_2 x0_3 x0_4 i43_0 l43_1 i43_2 i43_3 l43_4 l43_5 = some y) (Q : VX → St → Prop)
    (hin : ∀ s, y = .inl s → EvU ext tbl (.c c_spec_DecodeTones_43) K_spec_DecodeTones_43 (s_spec_DecodeTones_43 p0 x0_2 x0_3 x0_4 s.1 s.2.1 s.2.2.1 s.2.2.2.1 s.2.2.2.2.1 s.2.2.2.2.2) Q) (hout : ∀ e, y = .inr e → O_spec_DecodeTones_43 p0 x0_2 x0_3 x0_4 Q e) : EvU ext tbl (.c c_spec_DecodeTones_43) K_spec_DecodeTones_43 (s_spec_DecodeTones_43 p0 x0_2 x0_3 x0_4 i43_0 l43_1 i43_2 i43_3 l43_4 l43_5) Q := by
  obtain ⟨x43_0, h43_0, hm⟩ := bind_some hm
  obtain ⟨h43_1, hm⟩ | ⟨h43_1, hm⟩ := split_ite hm
  · skip
    obtain ⟨h43_2, hm⟩ | ⟨h43_2, hm⟩ := split_ite hm
    · skip
      obtain ⟨x43_3, h43_3, hm⟩ := bind_some hm
      refine go_on (u' := .c c_spec_DecodeTones_58) (K' := K_spec_DecodeTones_58) (st' := s_spec_DecodeTones_58 p0 i43_0 x0_2 x0_3 x0_4 l43_4 l43_5 ((Int.toNat 8) : Int) 0 l43_1 i43_2 i43_3 (List.replicate (Int.toNat 8) (0 : Int))) [.res (res_spec_l11Slots x43_0), .bit true, .bit true, .bit true, .bit true, .bit true, .bit true, .bit true, .rows (List.map (rI .i64) (List.replicate (Int.toNat 8) (0 : Int))), .num (Int.toNat 8), .num ((List.replicate (Int.toNat 8) (0 : Int)).length), .num (([] : List (List Int)).length), .num (([] : List (List Int)).length), .num l43_4.length, .num l43_5.length] 1000 (And.intro (ok_spec_l11Slots x0_4.1 x43_0 h43_0) (And.intro h43_1 (And.intro h43_1 (And.intro h43_1 (And.intro h43_1 (And.intro h43_1 (And.intro h43_1 (And.intro h43_2 (And.intro (ck_p h43_3) (And.intro (rep_ob (rI .i64) (Int.toNat 8) (0 : Int) [.lit (.int .i64 0)] (by kernel_rfl)) (And.intro (len_map (rI .i64) (show (Int.toNat 8) = (List.replicate (Int.toNat 8) (0 : Int)).length from (rep_len (Int.toNat 8) (0 : Int)))) (And.intro (lens (Int.toNat 8) ((List.replicate (Int.toNat 8) (0 : Int)).length) (rep_len (Int.toNat 8) (0 : Int))) (And.intro (lens (([] : List (List Int)).length) (([] : List (List Int)).length) rfl) (And.intro (lens (([] : List (List Int)).length) (([] : List (List Int)).length) rfl) (And.intro (lens l43_4.length l43_4.length rfl) (And.intro (lens l43_5.length l43_5.length rfl) True.intro)))))))))))))))) ?_ (by kernel_rfl)
      obtain ⟨e, he, hm⟩ := bind_some hm
      refine loop_rule (u := .c c_spec_DecodeTones_58) (K := K_spec_DecodeTones_58) (Q := Q) (b := lp_spec_DecodeTones_58 p0 i43_0 x0_2 x0_3 x0_4 l43_4 l43_5) (We := O_spec_DecodeTones_58 p0 i43_0 x0_2 x0_3 x0_4 l43_4 l43_5 Q) (stJ := fun s => s_spec_DecodeTones_58 p0 i43_0 x0_2 x0_3 x0_4 l43_4 l43_5 s.1 s.2.1 s.2.2.1 s.2.2.2.1 s.2.2.2.2.1 s.2.2.2.2.2) (s := (((Int.toNat 8) : Int), 0, l43_1, i43_2, i43_3, (List.replicate (Int.toNat 8) (0 : Int)))) (fun s y hb hin hout => ok_spec_DecodeTones_58 p0 i43_0 x0_2 x0_3 x0_4 l43_4 l43_5 s.1 s.2.1 s.2.2.1 s.2.2.2.1 s.2.2.2.2.1 s.2.2.2.2.2 y hb Q hin hout) he ?_
      show EvU ext tbl (.c c_spec_DecodeTones_76) K_spec_DecodeTones_76 (s_spec_DecodeTones_76 p0 i43_0 x0_2 x0_3 x0_4 l43_4 l43_5 e.1 e.2.1 e.2.2.1 e.2.2.2) _
      exact ok_spec_DecodeTones_76 p0 i43_0 x0_2 x0_3 x0_4 l43_4 l43_5 e.1 e.2.1 e.2.2.1 e.2.2.2 y hm Q hin hout
    · skip
      refine go_on (u' := .c c_spec_DecodeTones_105) (K' := K_spec_DecodeTones_105) (st' := s_spec_DecodeTones_105 p0 x0_2 x0_3 x0_4 l43_1 i43_2 i43_3 l43_4 l43_5) [.res (res_spec_l11Slots x43_0), .bit true, .bit true, .bit true, .bit true, .bit true, .bit true, .bit false, .num (([] : List (List Int)).length), .num (([] : List (List Int)).length), .num l43_4.length, .num l43_5.length] 1000 (And.intro (ok_spec_l11Slots x0_4.1 x43_0 h43_0) (And.intro h43_1 (And.intro h43_1 (And.intro h43_1 (And.intro h43_1 (And.intro h43_1 (And.intro h43_1 (And.intro h43_2 (And.intro (lens (([] : List (List Int)).length) (([] : List (List Int)).length) rfl) (And.intro (lens (([] : List (List Int)).length) (([] : List (List Int)).length) rfl) (And.intro (lens l43_4.length l43_4.length rfl) (And.intro (lens l43_5.length l43_5.length rfl) True.intro)))))))))))) ?_ (by kernel_rfl)
      exact hout (l43_1, i43_2, i43_3, l43_4, l43_5) (Option.some.inj hm).symm
  · skip
    refine go_on (u' := .c c_spec_DecodeTones_105) (K' := K_spec_DecodeTones_105) (st' := s_spec_DecodeTones_105 p0 x0_2 x0_3 x0_4 l43_1 i43_2 i43_3 l43_4 l43_5) [.res (res_spec_l11Slots x43_0), .bit false, .bit false, .bit false, .bit false, .bit false, .bit false, .bit false, .num (([] : List (List Int)).length), .num (([] : List (List Int)).length), .num l43_4.length, .num l43_5.length] 1000 (And.intro (ok_spec_l11Slots x0_4.1 x43_0 h43_0) (And.intro h43_1 (And.intro h43_1 (And.intro h43_1 (And.intro h43_1 (And.intro h43_1 (And.intro h43_1 (And.intro (Eq.refl false) (And.intro (lens (([] : List (List Int)).length) (([] : List (List Int)).length) rfl) (And.intro (lens (([] : List (List Int)).length) (([] : List (List Int)).length) rfl) (And.intro (lens l43_4.length l43_4.length rfl) (And.intro (lens l43_5.length l43_5.length rfl) True.intro)))))))))))) ?_ (by kernel_rfl)
    exact hout (l43_1, i43_2, i43_3, l43_4, l43_5) (Option.some.inj hm).symm

theorem ok_spec_DecodeTones_30 (p0 : (List Int)) (x0_2 : Int × S_l10R) (x0_3 : Int × S_l10R) (x0_4 : Int × S_l10R) (l30_0 : (List Int)) (i30_1 : Int) (i30_2 : Int) (r : Int × S_Tones) (hm : m_spec_DecodeTones_30 p0 x0_2 x0_3 x0_4 l30_0 i30_1 i30_2 = some r) : EvU ext tbl (.c c_spec_DecodeTones_30) K_spec_DecodeTones_30 (s_spec_DecodeTones_30 p0 x0_2 x0_3 x0_4 l30_0 i30_1 i30_2) (Post vf_spec_DecodeTones (res_spec_DecodeTones r)) := by
  obtain ⟨h30_0, hm⟩ | ⟨h30_0, hm⟩ := split_ite hm
  · skip
    exact go_end [.bit true, .rows (List.map (rL (rI .i64)) ([] : List (List Int))), .rows (List.map (rL (rI .i64)) ([] : List (List Int)))] 1000 (And.intro h30_0 (And.intro (all_le0 (rL (rI .i64)) ([] : List (List Int)) rfl) (And.intro (all_t (rL (rI .i64)) ([] : List (List Int)) rfl) (And.intro (all_le0 (rL (rI .i64)) ([] : List (List Int)) rfl) (And.intro (all_t (rL (rI .i64)) ([] : List (List Int)) rfl) True.intro))))) (congrArg res_spec_DecodeTones (Option.some.inj hm)) (by kernel_rfl)
  · skip
    refine go_on (u' := .c c_spec_DecodeTones_43) (K' := K_spec_DecodeTones_43) (st' := s_spec_DecodeTones_43 p0 x0_2 x0_3 x0_4 0 l30_0 i30_1 i30_2 ([] : List (List Int)) ([] : List (List Int))) [.bit false, .num (([] : List (List Int)).length), .num (([] : List (List Int)).length), .num (([] : List (List Int)).length), .num (([] : List (List Int)).length)] 1000 (And.intro h30_0 (And.intro (lens (([] : List (List Int)).length) (([] : List (List Int)).length) rfl) (And.intro (lens (([] : List (List Int)).length) (([] : List (List Int)).length) rfl) (And.intro (lens (([] : List (List Int)).length) (([] : List (List Int)).length) rfl) (And.intro (lens (([] : List (List Int)).length) (([] : List (List Int)).length) rfl) True.intro))))) ?_ (by kernel_rfl)
    obtain ⟨e, he, hm⟩ := bind_some hm
    refine loop_rule (u := .c c_spec_DecodeTones_43) (K := K_spec_DecodeTones_43) (Q := (Post vf_spec_DecodeTones (res_spec_DecodeTones r))) (b := lp_spec_DecodeTones_43 p0 x0_2 x0_3 x0_4) (We := O_spec_DecodeTones_43 p0 x0_2 x0_3 x0_4 (Post vf_spec_DecodeTones (res_spec_DecodeTones r))) (stJ := fun s => s_spec_DecodeTones_43 p0 x0_2 x0_3 x0_4 s.1 s.2.1 s.2.2.1 s.2.2.2.1 s.2.2.2.2.1 s.2.2.2.2.2) (s := (0, l30_0, i30_1, i30_2, ([] : List (List Int)), ([] : List (List Int)))) (fun s y hb hin hout => ok_spec_DecodeTones_43 p0 x0_2 x0_3 x0_4 s.1 s.2.1 s.2.2.1 s.2.2.2.1 s.2.2.2.2.1 s.2.2.2.2.2 y hb (Post vf_spec_DecodeTones (res_spec_DecodeTones r)) hin hout) he ?_
    show EvU ext tbl (.c c_spec_DecodeTones_105) K_spec_DecodeTones_105 (s_spec_DecodeTones_105 p0 x0_2 x0_3 x0_4 e.1 e.2.1 e.2.2.1 e.2.2.2.1 e.2.2.2.2) _
    exact ok_spec_DecodeTones_105 p0 x0_2 x0_3 x0_4 e.1 e.2.1 e.2.2.1 e.2.2.2.1 e.2.2.2.2 r hm

theorem ok_spec_DecodeTones_27 (p0 : (List Int)) (x0_5 : Int × S_l10R) (x0_2 : Int × S_l10R) (x0_3 : Int × S_l10R) (x0_4 : Int × S_l10R) (b27_0 : Bool) (r : Int × S_Tones) (hm : m_spec_DecodeTones_27 p0 x0_5 x0_2 x0_3 x0_4 b27_0 = some r) : EvU ext tbl (.c c_spec_DecodeTones_27) K_spec_DecodeTones_27 (s_spec_DecodeTones_27 p0 x0_5 x0_2 x0_3 x0_4 b27_0) (Post vf_spec_DecodeTones (res_spec_DecodeTones r)) := by
  obtain ⟨h27_0, hm⟩ | ⟨h27_0, hm⟩ := split_ite hm
  · skip
    obtain ⟨x27_1, h27_1, hm⟩ := bind_some hm
    refine go_on (u' := .c c_spec_DecodeTones_30) (K' := K_spec_DecodeTones_30) (st' := s_spec_DecodeTones_30 p0 x0_2 x0_3 x0_4 x27_1.data x27_1.at_ x27_1.err) [.bit true, .res (res_spec_l10R_fail x27_1), .num (([] : List (List Int)).length), .num (([] : List (List Int)).length), .num (([] : List (List Int)).length), .num (([] : List (List Int)).length)] 1000 (And.intro h27_0 (And.intro (ok_spec_l10R_fail x0_5.2 5 x27_1 h27_1) (And.intro (lens (([] : List (List Int)).length) (([] : List (List Int)).length) rfl) (And.intro (lens (([] : List (List Int)).length) (([] : List (List Int)).length) rfl) (And.intro (lens (([] : List (List Int)).length) (([] : List (List Int)).length) rfl) (And.intro (lens (([] : List (List Int)).length) (([] : List (List Int)).length) rfl) True.intro)))))) ?_ (by kernel_rfl)
    exact ok_spec_DecodeTones_30 p0 x0_2 x0_3 x0_4 x27_1.data x27_1.at_ x27_1.err r hm
  · skip
    refine go_on (u' := .c c_spec_DecodeTones_30) (K' := K_spec_DecodeTones_30) (st' := s_spec_DecodeTones_30 p0 x0_2 x0_3 x0_4 x0_5.2.data x0_5.2.at_ x0_5.2.err) [.bit false, .num (([] : List (List Int)).length), .num (([] : List (List Int)).length), .num (([] : List (List Int)).length), .num (([] : List (List Int)).length)] 1000 (And.intro h27_0 (And.intro (lens (([] : List (List Int)).length) (([] : List (List Int)).length) rfl) (And.intro (lens (([] : List (List Int)).length) (([] : List (List Int)).length) rfl) (And.intro (lens (([] : List (List Int)).length) (([] : List (List Int)).length) rfl) (And.intro (lens (([] : List (List Int)).length) (([] : List (List Int)).length) rfl) True.intro))))) ?_ (by kernel_rfl)
    exact ok_spec_DecodeTones_30 p0 x0_2 x0_3 x0_4 x0_5.2.data x0_5.2.at_ x0_5.2.err r hm

theorem ok_spec_DecodeTones_0 (p0 : (List Int)) (r : Int × S_Tones) (hm : m_spec_DecodeTones_0 p0 = some r) : EvU ext tbl (.c c_spec_DecodeTones_0) K_spec_DecodeTones_0 (s_spec_DecodeTones_0 p0) (Post vf_spec_DecodeTones (res_spec_DecodeTones r)) := by
  obtain ⟨h0_0, hm⟩ | ⟨h0_0, hm⟩ := split_ite hm
  · skip
    exact go_end [.num p0.length, .bit true, .rows (List.map (rL (rI .i64)) ([] : List (List Int))), .rows (List.map (rL (rI .i64)) ([] : List (List Int)))] 1000 (And.intro (len_map (rI .u8) (show p0.length = p0.length from rfl)) (And.intro h0_0 (And.intro (all_le0 (rL (rI .i64)) ([] : List (List Int)) rfl) (And.intro (all_t (rL (rI .i64)) ([] : List (List Int)) rfl) (And.intro (all_le0 (rL (rI .i64)) ([] : List (List Int)) rfl) (And.intro (all_t (rL (rI .i64)) ([] : List (List Int)) rfl) True.intro)))))) (congrArg res_spec_DecodeTones (Option.some.inj hm)) (by kernel_rfl)
  · skip
    obtain ⟨x0_1, h0_1, hm⟩ := bind_some hm
    obtain ⟨x0_2, h0_2, hm⟩ := bind_some hm
    obtain ⟨x0_3, h0_3, hm⟩ := bind_some hm
    obtain ⟨x0_4, h0_4, hm⟩ := bind_some hm
    obtain ⟨x0_5, h0_5, hm⟩ := bind_some hm
    obtain ⟨h0_6, hm⟩ | ⟨h0_6, hm⟩ := split_ite hm
    · skip
      obtain ⟨h0_7, hm⟩ | ⟨h0_7, hm⟩ := split_ite hm
      · skip
        refine go_on (u' := .c c_spec_DecodeTones_27) (K' := K_spec_DecodeTones_27) (st' := s_spec_DecodeTones_27 p0 x0_5 x0_2 x0_3 x0_4 true) [.num p0.length, .bit false, .rows (List.map (rI .u8) ([84, 79, 78, 49] : List Int)), .num 4, .rows (List.map (rI .u8) ([84, 79, 78, 49] : List Int)), .res (res_spec_l10R_mark x0_1), .res (res_spec_l10R_take x0_2), .res (res_spec_l10R_take x0_3), .res (res_spec_l10R_take x0_4), .res (res_spec_l10R_take x0_5), .bit true, .bit true, .bit true, .bit true, .bit true, .bit true, .bit true, .bit true, .bit true, .bit true, .bit true, .bit true, .bit true, .bit true, .num (([] : List (List Int)).length), .num (([] : List (List Int)).length), .num (([] : List (List Int)).length), .num (([] : List (List Int)).length)] 1000 (And.intro (len_map (rI .u8) (show p0.length = p0.length from rfl)) (And.intro h0_0 (And.intro (Eq.refl (List.map (rI .u8) ([84, 79, 78, 49] : List Int))) (And.intro (len_map (rI .u8) (show 4 = ([84, 79, 78, 49] : List Int).length from rfl)) (And.intro (all_le (rI .u8) ([84, 79, 78, 49] : List Int) rfl) (And.intro (all_dt (rI .u8) ([84, 79, 78, 49] : List Int) rfl) (And.intro (ok_spec_l10R_mark (S_l10R.mk p0 0 0) ([84, 79, 78, 49] : List Int) x0_1 h0_1) (And.intro (ok_spec_l10R_take x0_1 20 x0_2 h0_2) (And.intro (ok_spec_l10R_take x0_2.2 4 x0_3 h0_3) (And.intro (ok_spec_l10R_take x0_3.2 12 x0_4 h0_4) (And.intro (ok_spec_l10R_take x0_4.2 4 x0_5 h0_5) (And.intro h0_6 (And.intro h0_6 (And.intro h0_6 (And.intro h0_7 (And.intro h0_7 (And.intro h0_7 (And.intro h0_7 (And.intro h0_7 (And.intro h0_7 (And.intro h0_7 (And.intro h0_7 (And.intro h0_6 (And.intro h0_7 (And.intro h0_6 (And.intro (lens 0 (([] : List (List Int)).length) rfl) (And.intro (lens 0 (([] : List (List Int)).length) rfl) (And.intro (lens 0 (([] : List (List Int)).length) rfl) (And.intro (lens 0 (([] : List (List Int)).length) rfl) True.intro))))))))))))))))))))))))))))) ?_ (by kernel_rfl)
        exact ok_spec_DecodeTones_27 p0 x0_5 x0_2 x0_3 x0_4 true r hm
      · skip
        obtain ⟨x0_8, h0_8, hm⟩ := bind_some hm
        refine go_on (u' := .c c_spec_DecodeTones_27) (K' := K_spec_DecodeTones_27) (st' := s_spec_DecodeTones_27 p0 x0_5 x0_2 x0_3 x0_4 (!x0_8)) [.num p0.length, .bit false, .rows (List.map (rI .u8) ([84, 79, 78, 49] : List Int)), .num 4, .rows (List.map (rI .u8) ([84, 79, 78, 49] : List Int)), .res (res_spec_l10R_mark x0_1), .res (res_spec_l10R_take x0_2), .res (res_spec_l10R_take x0_3), .res (res_spec_l10R_take x0_4), .res (res_spec_l10R_take x0_5), .bit true, .bit true, .bit true, .bit false, .bit false, .bit false, .bit false, .bit false, .bit false, .bit false, .res (res_spec_l11Head x0_8), .bit false, .bit true, .bit false, .bit true, .num (([] : List (List Int)).length), .num (([] : List (List Int)).length), .num (([] : List (List Int)).length), .num (([] : List (List Int)).length)] 1000 (And.intro (len_map (rI .u8) (show p0.length = p0.length from rfl)) (And.intro h0_0 (And.intro (Eq.refl (List.map (rI .u8) ([84, 79, 78, 49] : List Int))) (And.intro (len_map (rI .u8) (show 4 = ([84, 79, 78, 49] : List Int).length from rfl)) (And.intro (all_le (rI .u8) ([84, 79, 78, 49] : List Int) rfl) (And.intro (all_dt (rI .u8) ([84, 79, 78, 49] : List Int) rfl) (And.intro (ok_spec_l10R_mark (S_l10R.mk p0 0 0) ([84, 79, 78, 49] : List Int) x0_1 h0_1) (And.intro (ok_spec_l10R_take x0_1 20 x0_2 h0_2) (And.intro (ok_spec_l10R_take x0_2.2 4 x0_3 h0_3) (And.intro (ok_spec_l10R_take x0_3.2 12 x0_4 h0_4) (And.intro (ok_spec_l10R_take x0_4.2 4 x0_5 h0_5) (And.intro h0_6 (And.intro h0_6 (And.intro h0_6 (And.intro h0_7 (And.intro h0_7 (And.intro h0_7 (And.intro h0_7 (And.intro h0_7 (And.intro h0_7 (And.intro h0_7 (And.intro (ok_spec_l11Head x0_2.1 x0_3.1 x0_4.1 x0_8 h0_8) (And.intro h0_7 (And.intro h0_6 (And.intro h0_7 (And.intro h0_6 (And.intro (lens 0 (([] : List (List Int)).length) rfl) (And.intro (lens 0 (([] : List (List Int)).length) rfl) (And.intro (lens 0 (([] : List (List Int)).length) rfl) (And.intro (lens 0 (([] : List (List Int)).length) rfl) True.intro)))))))))))))))))))))))))))))) ?_ (by kernel_rfl)
        exact ok_spec_DecodeTones_27 p0 x0_5 x0_2 x0_3 x0_4 (!x0_8) r hm
    · skip
      refine go_on (u' := .c c_spec_DecodeTones_27) (K' := K_spec_DecodeTones_27) (st' := s_spec_DecodeTones_27 p0 x0_5 x0_2 x0_3 x0_4 false) [.num p0.length, .bit false, .rows (List.map (rI .u8) ([84, 79, 78, 49] : List Int)), .num 4, .rows (List.map (rI .u8) ([84, 79, 78, 49] : List Int)), .res (res_spec_l10R_mark x0_1), .res (res_spec_l10R_take x0_2), .res (res_spec_l10R_take x0_3), .res (res_spec_l10R_take x0_4), .res (res_spec_l10R_take x0_5), .bit false, .bit false, .bit false, .bit false, .bit false, .num (([] : List (List Int)).length), .num (([] : List (List Int)).length), .num (([] : List (List Int)).length), .num (([] : List (List Int)).length)] 1000 (And.intro (len_map (rI .u8) (show p0.length = p0.length from rfl)) (And.intro h0_0 (And.intro (Eq.refl (List.map (rI .u8) ([84, 79, 78, 49] : List Int))) (And.intro (len_map (rI .u8) (show 4 = ([84, 79, 78, 49] : List Int).length from rfl)) (And.intro (all_le (rI .u8) ([84, 79, 78, 49] : List Int) rfl) (And.intro (all_dt (rI .u8) ([84, 79, 78, 49] : List Int) rfl) (And.intro (ok_spec_l10R_mark (S_l10R.mk p0 0 0) ([84, 79, 78, 49] : List Int) x0_1 h0_1) (And.intro (ok_spec_l10R_take x0_1 20 x0_2 h0_2) (And.intro (ok_spec_l10R_take x0_2.2 4 x0_3 h0_3) (And.intro (ok_spec_l10R_take x0_3.2 12 x0_4 h0_4) (And.intro (ok_spec_l10R_take x0_4.2 4 x0_5 h0_5) (And.intro h0_6 (And.intro h0_6 (And.intro h0_6 (And.intro h0_6 (And.intro h0_6 (And.intro (lens 0 (([] : List (List Int)).length) rfl) (And.intro (lens 0 (([] : List (List Int)).length) rfl) (And.intro (lens 0 (([] : List (List Int)).length) rfl) (And.intro (lens 0 (([] : List (List Int)).length) rfl) True.intro)))))))))))))))))))) ?_ (by kernel_rfl)
      exact ok_spec_DecodeTones_27 p0 x0_5 x0_2 x0_3 x0_4 false r hm

theorem ok_spec_DecodeTones (p0 : (List Int)) (r : Int × S_Tones) (hm : m_spec_DecodeTones p0 = some r) : Runs ext tbl 21 (as_spec_DecodeTones p0) (res_spec_DecodeTones r) :=
  runs_of (vf := vf_spec_DecodeTones) (by kernel_rfl) rfl (st := (enter vf_spec_DecodeTones (as_spec_DecodeTones p0)).getD default) (by kernel_rfl) (go_on [] 1000 True.intro (ok_spec_DecodeTones_0 p0 r hm) (by kernel_rfl))
theorem ok_impl_DecodeTonesC1_0 (p0 : Int) (r : Int × S_Tones) (hm : m_impl_DecodeTonesC1_0 p0 = some r) : EvU ext tbl (.c c_impl_DecodeTonesC1_0) K_impl_DecodeTonesC1_0 (s_impl_DecodeTonesC1_0 p0) (Post vf_impl_DecodeTonesC1 (res_impl_DecodeTonesC1 r)) := by
  exact go_end [.rows (List.map (rL (rI .i64)) ([] : List (List Int))), .rows (List.map (rL (rI .i64)) ([] : List (List Int)))] 1000 (And.intro (all_le0 (rL (rI .i64)) ([] : List (List Int)) rfl) (And.intro (all_t (rL (rI .i64)) ([] : List (List Int)) rfl) (And.intro (all_le0 (rL (rI .i64)) ([] : List (List Int)) rfl) (And.intro (all_t (rL (rI .i64)) ([] : List (List Int)) rfl) True.intro)))) (congrArg res_impl_DecodeTonesC1 (Option.some.inj hm)) (by kernel_rfl)

theorem ok_impl_DecodeTonesC1 (p0 : Int) (r : Int × S_Tones) (hm : m_impl_DecodeTonesC1 p0 = some r) : Runs ext tbl 88 (as_impl_DecodeTonesC1 p0) (res_impl_DecodeTonesC1 r) :=
  runs_of (vf := vf_impl_DecodeTonesC1) (by kernel_rfl) rfl (st := (enter vf_impl_DecodeTonesC1 (as_impl_DecodeTonesC1 p0)).getD default) (by kernel_rfl) (go_on [] 1000 True.intro (ok_impl_DecodeTonesC1_0 p0 r hm) (by kernel_rfl))
def O_impl_zmagic_7 (Q : VX → St → Prop) (e : (Int) ⊕ ((Unit))) : Prop := match e with | .inl e => Q = Post vf_impl_zmagic (res_impl_zmagic e) | .inr e => EvU ext tbl (.c c_impl_zmagic_33) K_impl_zmagic_33 (s_impl_zmagic_33) Q
theorem ok_impl_zmagic_33 (r : Int) (hm : m_impl_zmagic_33 = some r) : EvU ext tbl (.c c_impl_zmagic_33) K_impl_zmagic_33 (s_impl_zmagic_33) (Post vf_impl_zmagic (res_impl_zmagic r)) := by
  exact go_end [] 1000 True.intro (congrArg res_impl_zmagic (Option.some.inj hm)) (by kernel_rfl)

theorem ok_impl_zmagic_7 (p0 : (List Int)) (p1 : ByteArray) (i7_0 : Int) (y : (Int) ⊕ ((Int) ⊕ ((Unit)))) (hm : m_impl_zmagic_7 p0 p1 i7_0 = some y) (Q : VX → St → Prop)
    (hin : ∀ s, y = .inl s → EvU ext tbl (.c c_impl_zmagic_7) K_impl_zmagic_7 (s_impl_zmagic_7 p0 p1 s) Q) (hout : ∀ e, y = .inr e → O_impl_zmagic_7 Q e) : EvU ext tbl (.c c_impl_zmagic_7) K_impl_zmagic_7 (s_impl_zmagic_7 p0 p1 i7_0) Q := by
  obtain ⟨h7_0, hm⟩ | ⟨h7_0, hm⟩ := split_ite hm
  · skip
    obtain ⟨h7_1, hm⟩ | ⟨h7_1, hm⟩ := split_ite hm
    · skip
      have hQ : Q = Post vf_impl_zmagic (res_impl_zmagic 2) := hout (.inl 2) (Option.some.inj hm).symm
      subst hQ
      exact go_end [.bit true, .num p0.length, .bit true] 1000 (And.intro h7_0 (And.intro (len_map (rI .u8) (show p0.length = p0.length from rfl)) (And.intro h7_1 True.intro))) (rfl : res_impl_zmagic 2 = res_impl_zmagic 2) (by kernel_rfl)
    · skip
      obtain ⟨x7_2, h7_2, hm⟩ := bind_some hm
      obtain ⟨x7_3, h7_3, hm⟩ := bind_some hm
      obtain ⟨h7_4, hm⟩ | ⟨h7_4, hm⟩ := split_ite hm
      · skip
        have hQ : Q = Post vf_impl_zmagic (res_impl_zmagic 4) := hout (.inl 4) (Option.some.inj hm).symm
        subst hQ
        exact go_end [.bit true, .num p0.length, .bit false, .row ((rI .u8) x7_2), .int x7_3, .bit true] 1000 (And.intro h7_0 (And.intro (len_map (rI .u8) (show p0.length = p0.length from rfl)) (And.intro h7_1 (And.intro (rd_nn h7_2) (And.intro (at_row (rI .u8) (rd_get h7_2)) (And.intro (sat_nn h7_3) (And.intro (sat_at h7_3) (And.intro h7_4 True.intro)))))))) (rfl : res_impl_zmagic 4 = res_impl_zmagic 4) (by kernel_rfl)
      · skip
        refine go_on (u' := .c c_impl_zmagic_7) (K' := K_impl_zmagic_7) (st' := s_impl_zmagic_7 p0 p1 (w64 (i7_0 + 1))) [.bit true, .num p0.length, .bit false, .row ((rI .u8) x7_2), .int x7_3, .bit false] 1000 (And.intro h7_0 (And.intro (len_map (rI .u8) (show p0.length = p0.length from rfl)) (And.intro h7_1 (And.intro (rd_nn h7_2) (And.intro (at_row (rI .u8) (rd_get h7_2)) (And.intro (sat_nn h7_3) (And.intro (sat_at h7_3) (And.intro h7_4 True.intro)))))))) ?_ (by kernel_rfl)
        exact hin (w64 (i7_0 + 1)) (Option.some.inj hm).symm
  · skip
    refine go_on (u' := .c c_impl_zmagic_33) (K' := K_impl_zmagic_33) (st' := s_impl_zmagic_33) [.bit false] 1000 (And.intro h7_0 True.intro) ?_ (by kernel_rfl)
    exact hout (.inr ()) (Option.some.inj hm).symm

theorem ok_impl_zmagic_0 (p0 : (List Int)) (p1 : ByteArray) (r : Int) (hm : m_impl_zmagic_0 p0 p1 = some r) : EvU ext tbl (.c c_impl_zmagic_0) K_impl_zmagic_0 (s_impl_zmagic_0 p0 p1) (Post vf_impl_zmagic (res_impl_zmagic r)) := by
  refine go_on (u' := .c c_impl_zmagic_7) (K' := K_impl_zmagic_7) (st' := s_impl_zmagic_7 p0 p1 0) [] 1000 True.intro ?_ (by kernel_rfl)
  obtain ⟨e, he, hm⟩ := bind_some hm
  refine loop_rule (u := .c c_impl_zmagic_7) (K := K_impl_zmagic_7) (Q := (Post vf_impl_zmagic (res_impl_zmagic r))) (b := lp_impl_zmagic_7 p0 p1) (We := O_impl_zmagic_7 (Post vf_impl_zmagic (res_impl_zmagic r))) (stJ := fun s => s_impl_zmagic_7 p0 p1 s) (s := 0) (fun s y hb hin hout => ok_impl_zmagic_7 p0 p1 s y hb (Post vf_impl_zmagic (res_impl_zmagic r)) hin hout) he ?_
  rcases e with e | e
  · skip
    exact congrArg (fun r => Post vf_impl_zmagic (res_impl_zmagic r)) (Option.some.inj hm).symm
  · skip
    show EvU ext tbl (.c c_impl_zmagic_33) K_impl_zmagic_33 (s_impl_zmagic_33) _
    exact ok_impl_zmagic_33 r hm

theorem ok_impl_zmagic (p0 : (List Int)) (p1 : ByteArray) (r : Int) (hm : m_impl_zmagic p0 p1 = some r) : Runs ext tbl 89 (as_impl_zmagic p0 p1) (res_impl_zmagic r) :=
  runs_of (vf := vf_impl_zmagic) (by kernel_rfl) rfl (st := (enter vf_impl_zmagic (as_impl_zmagic p0 p1)).getD default) (by kernel_rfl) (go_on [] 1000 True.intro (ok_impl_zmagic_0 p0 p1 r hm) (by kernel_rfl))
theorem ok_impl_ztake_bit_0 (p0 : S_ztake) (r : Int × S_ztake) (hm : m_impl_ztake_bit_0 p0 = some r) : EvU ext tbl (.c c_impl_ztake_bit_0) K_impl_ztake_bit_0 (s_impl_ztake_bit_0 p0) (Post vf_impl_ztake_bit (res_impl_ztake_bit r)) := by
  obtain ⟨h0_0, hm⟩ | ⟨h0_0, hm⟩ := split_ite hm
  · skip
    exact go_end [.num p0.b.length, .bit true] 1000 (And.intro (len_map (rI .u8) (show p0.b.length = p0.b.length from rfl)) (And.intro h0_0 True.intro)) (congrArg res_impl_ztake_bit (Option.some.inj hm)) (by kernel_rfl)
  · skip
    obtain ⟨x0_1, h0_1, hm⟩ := bind_some hm
    obtain ⟨x0_2, h0_2, hm⟩ := bind_some hm
    exact go_end [.num p0.b.length, .bit false, .row ((rI .u8) x0_1)] 1000 (And.intro (len_map (rI .u8) (show p0.b.length = p0.b.length from rfl)) (And.intro h0_0 (And.intro (by decide : (8 : Int) ≠ 0) (And.intro (rd_nn h0_1) (And.intro (at_row (rI .u8) (rd_get h0_1)) (And.intro (by decide : (8 : Int) ≠ 0) (And.intro (ck_p h0_2) True.intro))))))) (congrArg res_impl_ztake_bit (Option.some.inj hm)) (by kernel_rfl)

theorem ok_impl_ztake_bit (p0 : S_ztake) (r : Int × S_ztake) (hm : m_impl_ztake_bit p0 = some r) : Runs ext tbl 91 (as_impl_ztake_bit p0) (res_impl_ztake_bit r) :=
  runs_of (vf := vf_impl_ztake_bit) (by kernel_rfl) rfl (st := (enter vf_impl_ztake_bit (as_impl_ztake_bit p0)).getD default) (by kernel_rfl) (go_on [] 1000 True.intro (ok_impl_ztake_bit_0 p0 r hm) (by kernel_rfl))
def O_impl_ztake_take_9 (Q : VX → St → Prop) (e : (Int × (List Int) × Int × Bool)) : Prop := EvU ext tbl (.c c_impl_ztake_take_19) K_impl_ztake_take_19 (s_impl_ztake_take_19 e.1 e.2.1 e.2.2.1 e.2.2.2) Q
theorem ok_impl_ztake_take_19 (i19_0 : Int) (l19_1 : (List Int)) (i19_2 : Int) (b19_3 : Bool) (r : Int × S_ztake) (hm : m_impl_ztake_take_19 i19_0 l19_1 i19_2 b19_3 = some r) : EvU ext tbl (.c c_impl_ztake_take_19) K_impl_ztake_take_19 (s_impl_ztake_take_19 i19_0 l19_1 i19_2 b19_3) (Post vf_impl_ztake_take (res_impl_ztake_take r)) := by
  exact go_end [] 1000 True.intro (congrArg res_impl_ztake_take (Option.some.inj hm)) (by kernel_rfl)

theorem ok_impl_ztake_take_9 (p1 : Int) (i9_0 : Int) (i9_1 : Int) (l9_2 : (List Int)) (i9_3 : Int) (b9_4 : Bool) (y : (Int × Int × (List Int) × Int × Bool) ⊕ ((Int × (List Int) × Int × Bool))) (hm : m_impl_ztake_take_9 p1 i9_0 i9_1 l9_2 i9_3 b9_4 = some y) (Q : VX → St → Prop)
    (hin : ∀ s, y = .inl s → EvU ext tbl (.c c_impl_ztake_take_9) K_impl_ztake_take_9 (s_impl_ztake_take_9 p1 s.1 s.2.1 s.2.2.1 s.2.2.2.1 s.2.2.2.2) Q) (hout : ∀ e, y = .inr e → O_impl_ztake_take_9 Q e) : EvU ext tbl (.c c_impl_ztake_take_9) K_impl_ztake_take_9 (s_impl_ztake_take_9 p1 i9_0 i9_1 l9_2 i9_3 b9_4) Q := by
  obtain ⟨h9_0, hm⟩ | ⟨h9_0, hm⟩ := split_ite hm
  · skip
    obtain ⟨x9_1, h9_1, hm⟩ := bind_some hm
    refine go_on (u' := .c c_impl_ztake_take_9) (K' := K_impl_ztake_take_9) (st' := s_impl_ztake_take_9 p1 (orI .u64 (shlI .u64 i9_0 1) (wr .u64 x9_1.1)) (w64 (i9_1 + 1)) x9_1.2.b x9_1.2.at_ x9_1.2.short) [.bit true, .res (res_impl_ztake_bit x9_1)] 1000 (And.intro h9_0 (And.intro (by decide : (0 : Int) ≤ 1) (And.intro (ok_impl_ztake_bit (S_ztake.mk l9_2 i9_3 b9_4) x9_1 h9_1) True.intro))) ?_ (by kernel_rfl)
    exact hin ((orI .u64 (shlI .u64 i9_0 1) (wr .u64 x9_1.1)), (w64 (i9_1 + 1)), x9_1.2.b, x9_1.2.at_, x9_1.2.short) (Option.some.inj hm).symm
  · skip
    refine go_on (u' := .c c_impl_ztake_take_19) (K' := K_impl_ztake_take_19) (st' := s_impl_ztake_take_19 i9_0 l9_2 i9_3 b9_4) [.bit false] 1000 (And.intro h9_0 True.intro) ?_ (by kernel_rfl)
    exact hout (i9_0, l9_2, i9_3, b9_4) (Option.some.inj hm).symm

theorem ok_impl_ztake_take_0 (p1 : Int) (p0 : S_ztake) (r : Int × S_ztake) (hm : m_impl_ztake_take_0 p1 p0 = some r) : EvU ext tbl (.c c_impl_ztake_take_0) K_impl_ztake_take_0 (s_impl_ztake_take_0 p1 p0) (Post vf_impl_ztake_take (res_impl_ztake_take r)) := by
  refine go_on (u' := .c c_impl_ztake_take_9) (K' := K_impl_ztake_take_9) (st' := s_impl_ztake_take_9 p1 0 0 p0.b p0.at_ p0.short) [] 1000 True.intro ?_ (by kernel_rfl)
  obtain ⟨e, he, hm⟩ := bind_some hm
  refine loop_rule (u := .c c_impl_ztake_take_9) (K := K_impl_ztake_take_9) (Q := (Post vf_impl_ztake_take (res_impl_ztake_take r))) (b := lp_impl_ztake_take_9 p1) (We := O_impl_ztake_take_9 (Post vf_impl_ztake_take (res_impl_ztake_take r))) (stJ := fun s => s_impl_ztake_take_9 p1 s.1 s.2.1 s.2.2.1 s.2.2.2.1 s.2.2.2.2) (s := (0, 0, p0.b, p0.at_, p0.short)) (fun s y hb hin hout => ok_impl_ztake_take_9 p1 s.1 s.2.1 s.2.2.1 s.2.2.2.1 s.2.2.2.2 y hb (Post vf_impl_ztake_take (res_impl_ztake_take r)) hin hout) he ?_
  show EvU ext tbl (.c c_impl_ztake_take_19) K_impl_ztake_take_19 (s_impl_ztake_take_19 e.1 e.2.1 e.2.2.1 e.2.2.2) _
  exact ok_impl_ztake_take_19 e.1 e.2.1 e.2.2.1 e.2.2.2 r hm

theorem ok_impl_ztake_take (p0 : S_ztake) (p1 : Int) (r : Int × S_ztake) (hm : m_impl_ztake_take p0 p1 = some r) : Runs ext tbl 90 (as_impl_ztake_take p0 p1) (res_impl_ztake_take r) :=
  runs_of (vf := vf_impl_ztake_take) (by kernel_rfl) rfl (st := (enter vf_impl_ztake_take (as_impl_ztake_take p0 p1)).getD default) (by kernel_rfl) (go_on [] 1000 True.intro (ok_impl_ztake_take_0 p1 p0 r hm) (by kernel_rfl))
theorem ok_impl_Unfold_0 (p0 : Int) (r : Int) (hm : m_impl_Unfold_0 p0 = some r) : EvU ext tbl (.c c_impl_Unfold_0) K_impl_Unfold_0 (s_impl_Unfold_0 p0) (Post vf_impl_Unfold (res_impl_Unfold r)) := by
  exact go_end [] 1000 (And.intro (by decide : (0 : Int) ≤ 1) True.intro) (congrArg res_impl_Unfold (Option.some.inj hm)) (by kernel_rfl)

theorem ok_impl_Unfold (p0 : Int) (r : Int) (hm : m_impl_Unfold p0 = some r) : Runs ext tbl 92 (as_impl_Unfold p0) (res_impl_Unfold r) :=
  runs_of (vf := vf_impl_Unfold) (by kernel_rfl) rfl (st := (enter vf_impl_Unfold (as_impl_Unfold p0)).getD default) (by kernel_rfl) (go_on [] 1000 True.intro (ok_impl_Unfold_0 p0 r hm) (by kernel_rfl))
def O_impl_ztake_fill_7 (Q : VX → St → Prop) (e : (Bool × (List Int) × Int × Bool)) : Prop := EvU ext tbl (.c c_impl_ztake_fill_15) K_impl_ztake_fill_15 (s_impl_ztake_fill_15 e.1 e.2.1 e.2.2.1 e.2.2.2) Q
theorem ok_impl_ztake_fill_15 (b15_0 : Bool) (l15_1 : (List Int)) (i15_2 : Int) (b15_3 : Bool) (r : Bool × S_ztake) (hm : m_impl_ztake_fill_15 b15_0 l15_1 i15_2 b15_3 = some r) : EvU ext tbl (.c c_impl_ztake_fill_15) K_impl_ztake_fill_15 (s_impl_ztake_fill_15 b15_0 l15_1 i15_2 b15_3) (Post vf_impl_ztake_fill (res_impl_ztake_fill r)) := by
  exact go_end [] 1000 True.intro (congrArg res_impl_ztake_fill (Option.some.inj hm)) (by kernel_rfl)

theorem ok_impl_ztake_fill_7 (b7_0 : Bool) (l7_1 : (List Int)) (i7_2 : Int) (b7_3 : Bool) (y : (Bool × (List Int) × Int × Bool) ⊕ ((Bool × (List Int) × Int × Bool))) (hm : m_impl_ztake_fill_7 b7_0 l7_1 i7_2 b7_3 = some y) (Q : VX → St → Prop)
    (hin : ∀ s, y = .inl s → EvU ext tbl (.c c_impl_ztake_fill_7) K_impl_ztake_fill_7 (s_impl_ztake_fill_7 s.1 s.2.1 s.2.2.1 s.2.2.2) Q) (hout : ∀ e, y = .inr e → O_impl_ztake_fill_7 Q e) : EvU ext tbl (.c c_impl_ztake_fill_7) K_impl_ztake_fill_7 (s_impl_ztake_fill_7 b7_0 l7_1 i7_2 b7_3) Q := by
  obtain ⟨h7_0, hm⟩ | ⟨h7_0, hm⟩ := split_ite hm
  · skip
    obtain ⟨x7_1, h7_1, hm⟩ := bind_some hm
    obtain ⟨h7_2, hm⟩ | ⟨h7_2, hm⟩ := split_ite hm
    · skip
      refine go_on (u' := .c c_impl_ztake_fill_7) (K' := K_impl_ztake_fill_7) (st' := s_impl_ztake_fill_7 b7_0 x7_1.2.b x7_1.2.at_ x7_1.2.short) [.bit true, .res (res_impl_ztake_bit x7_1), .bit true, .bit true] 1000 (And.intro (by decide : (8 : Int) ≠ 0) (And.intro h7_0 (And.intro (ok_impl_ztake_bit (S_ztake.mk l7_1 i7_2 b7_3) x7_1 h7_1) (And.intro h7_2 (And.intro h7_2 True.intro))))) ?_ (by kernel_rfl)
      exact hin (b7_0, x7_1.2.b, x7_1.2.at_, x7_1.2.short) (Option.some.inj hm).symm
    · skip
      refine go_on (u' := .c c_impl_ztake_fill_7) (K' := K_impl_ztake_fill_7) (st' := s_impl_ztake_fill_7 false x7_1.2.b x7_1.2.at_ x7_1.2.short) [.bit true, .res (res_impl_ztake_bit x7_1), .bit false, .bit false] 1000 (And.intro (by decide : (8 : Int) ≠ 0) (And.intro h7_0 (And.intro (ok_impl_ztake_bit (S_ztake.mk l7_1 i7_2 b7_3) x7_1 h7_1) (And.intro h7_2 (And.intro h7_2 True.intro))))) ?_ (by kernel_rfl)
      exact hin (false, x7_1.2.b, x7_1.2.at_, x7_1.2.short) (Option.some.inj hm).symm
  · skip
    refine go_on (u' := .c c_impl_ztake_fill_15) (K' := K_impl_ztake_fill_15) (st' := s_impl_ztake_fill_15 b7_0 l7_1 i7_2 b7_3) [.bit false] 1000 (And.intro (by decide : (8 : Int) ≠ 0) (And.intro h7_0 True.intro)) ?_ (by kernel_rfl)
    exact hout (b7_0, l7_1, i7_2, b7_3) (Option.some.inj hm).symm

theorem ok_impl_ztake_fill_0 (p0 : S_ztake) (r : Bool × S_ztake) (hm : m_impl_ztake_fill_0 p0 = some r) : EvU ext tbl (.c c_impl_ztake_fill_0) K_impl_ztake_fill_0 (s_impl_ztake_fill_0 p0) (Post vf_impl_ztake_fill (res_impl_ztake_fill r)) := by
  refine go_on (u' := .c c_impl_ztake_fill_7) (K' := K_impl_ztake_fill_7) (st' := s_impl_ztake_fill_7 true p0.b p0.at_ p0.short) [] 1000 True.intro ?_ (by kernel_rfl)
  obtain ⟨e, he, hm⟩ := bind_some hm
  refine loop_rule (u := .c c_impl_ztake_fill_7) (K := K_impl_ztake_fill_7) (Q := (Post vf_impl_ztake_fill (res_impl_ztake_fill r))) (b := lp_impl_ztake_fill_7) (We := O_impl_ztake_fill_7 (Post vf_impl_ztake_fill (res_impl_ztake_fill r))) (stJ := fun s => s_impl_ztake_fill_7 s.1 s.2.1 s.2.2.1 s.2.2.2) (s := (true, p0.b, p0.at_, p0.short)) (fun s y hb hin hout => ok_impl_ztake_fill_7 s.1 s.2.1 s.2.2.1 s.2.2.2 y hb (Post vf_impl_ztake_fill (res_impl_ztake_fill r)) hin hout) he ?_
  show EvU ext tbl (.c c_impl_ztake_fill_15) K_impl_ztake_fill_15 (s_impl_ztake_fill_15 e.1 e.2.1 e.2.2.1 e.2.2.2) _
  exact ok_impl_ztake_fill_15 e.1 e.2.1 e.2.2.1 e.2.2.2 r hm

theorem ok_impl_ztake_fill (p0 : S_ztake) (r : Bool × S_ztake) (hm : m_impl_ztake_fill p0 = some r) : Runs ext tbl 93 (as_impl_ztake_fill p0) (res_impl_ztake_fill r) :=
  runs_of (vf := vf_impl_ztake_fill) (by kernel_rfl) rfl (st := (enter vf_impl_ztake_fill (as_impl_ztake_fill p0)).getD default) (by kernel_rfl) (go_on [] 1000 True.intro (ok_impl_ztake_fill_0 p0 r hm) (by kernel_rfl))
def O_impl_DecodeTones_121 (p0 : (List Int)) (i108_0 : Int) (i42_0 : Int) (i42_1 : Int) (i108_1 : Int) (i32_1 : Int) (i32_2 : Int) (i32_3 : Int) (l85_3 : (List Int)) (l108_5 : (List Int)) (l42_5 : (List (List Int))) (l42_6 : (List (List Int))) (Q : VX → St → Prop) (e : ((Int × (List Int) × Int × Bool)) ⊕ ((Int × S_Tones))) : Prop := match e with | .inl e => EvU ext tbl (.c c_impl_DecodeTones_137) K_impl_DecodeTones_137 (s_impl_DecodeTones_137 p0 i108_0 i42_0 i42_1 i108_1 i32_1 i32_2 i32_3 l85_3 l108_5 l42_5 l42_6 e.1 e.2.1 e.2.2.1 e.2.2.2) Q | .inr e => Q = Post vf_impl_DecodeTones (res_impl_DecodeTones e)
def O_impl_DecodeTones_108 (p0 : (List Int)) (i42_0 : Int) (i42_1 : Int) (i32_1 : Int) (i32_2 : Int) (i32_3 : Int) (l85_3 : (List Int)) (l42_5 : (List (List Int))) (l42_6 : (List (List Int))) (Q : VX → St → Prop) (e : (((List Int) × Int × Bool × (List Int))) ⊕ ((Int × S_Tones))) : Prop := match e with | .inl e => EvU ext tbl (.c c_impl_DecodeTones_157) K_impl_DecodeTones_157 (s_impl_DecodeTones_157 p0 i42_0 i42_1 i32_1 i32_2 i32_3 l85_3 l42_5 l42_6 e.1 e.2.1 e.2.2.1 e.2.2.2) Q | .inr e => Q = Post vf_impl_DecodeTones (res_impl_DecodeTones e)
def O_impl_DecodeTones_57 (p0 : (List Int)) (i42_0 : Int) (i42_1 : Int) (i32_1 : Int) (i32_2 : Int) (i32_3 : Int) (l42_5 : (List (List Int))) (l42_6 : (List (List Int))) (Q : VX → St → Prop) (e : ((Int × S_Tones)) ⊕ (((List Int) × Int × Bool × (List Int)))) : Prop := match e with | .inl e => Q = Post vf_impl_DecodeTones (res_impl_DecodeTones e) | .inr e => EvU ext tbl (.c c_impl_DecodeTones_85) K_impl_DecodeTones_85 (s_impl_DecodeTones_85 p0 i42_0 i42_1 i32_1 i32_2 i32_3 l42_5 l42_6 e.1 e.2.1 e.2.2.1 e.2.2.2) Q
def O_impl_DecodeTones_42 (p0 : (List Int)) (i32_1 : Int) (i32_2 : Int) (i32_3 : Int) (Q : VX → St → Prop) (e : (((List Int) × Int × Bool × (List (List Int)) × (List (List Int)))) ⊕ ((Int × S_Tones))) : Prop := match e with | .inl e => EvU ext tbl (.c c_impl_DecodeTones_161) K_impl_DecodeTones_161 (s_impl_DecodeTones_161 p0 i32_1 i32_2 i32_3 e.1 e.2.1 e.2.2.1 e.2.2.2.1 e.2.2.2.2) Q | .inr e => Q = Post vf_impl_DecodeTones (res_impl_DecodeTones e)
theorem ok_impl_DecodeTones_137 (p0 : (List Int)) (i108_0 : Int) (i42_0 : Int) (i42_1 : Int) (i108_1 : Int) (i32_1 : Int) (i32_2 : Int) (i32_3 : Int) (l85_3 : (List Int)) (l108_5 : (List Int)) (l42_5 : (List (List Int))) (l42_6 : (List (List Int))) (i137_0 : Int) (l137_1 : (List Int)) (i137_2 : Int) (b137_3 : Bool) (y : (Int × Int × (List Int) × Int × Bool × (List Int)) ⊕ ((((List Int) × Int × Bool × (List Int))) ⊕ ((Int × S_Tones)))) (hm : m_impl_DecodeTones_137 p0 i108_0 i42_0 i42_1 i108_1 i32_1 i32_2 i32_3 l85_3 l108_5 l42_5 l42_6 i137_0 l137_1 i137_2 b137_3 = some y) (Q : VX → St → Prop)
    (hin : ∀ s, y = .inl s → EvU ext tbl (.c c_impl_DecodeTones_108) K_impl_DecodeTones_108 (s_impl_DecodeTones_108 p0 i42_0 i42_1 i32_1 i32_2 i32_3 l85_3 l42_5 l42_6 s.1 s.2.1 s.2.2.1 s.2.2.2.1 s.2.2.2.2.1 s.2.2.2.2.2) Q) (hout : ∀ e, y = .inr e → O_impl_DecodeTones_108 p0 i42_0 i42_1 i32_1 i32_2 i32_3 l85_3 l42_5 l42_6 Q e) : EvU ext tbl (.c c_impl_DecodeTones_137) K_impl_DecodeTones_137 (s_impl_DecodeTones_137 p0 i108_0 i42_0 i42_1 i108_1 i32_1 i32_2 i32_3 l85_3 l108_5 l42_5 l42_6 i137_0 l137_1 i137_2 b137_3) Q := by
  obtain ⟨x137_0, h137_0, hm⟩ := bind_some hm
  obtain ⟨x137_1, h137_1, hm⟩ := bind_some hm
  obtain ⟨h137_2, hm⟩ | ⟨h137_2, hm⟩ := split_ite hm
  · skip
    obtain ⟨x137_3, h137_3, hm⟩ := bind_some hm
    have hQ : Q = Post vf_impl_DecodeTones (res_impl_DecodeTones (x137_3.1, x137_3.2)) := hout (.inr (x137_3.1, x137_3.2)) (Option.some.inj hm).symm
    subst hQ
    exact go_end [.res (res_impl_ztake_take x137_1), .bit true, .res (res_impl_DecodeTonesC1 x137_3), .num x137_3.2.slots.length, .num x137_3.2.grades.length, .rows (List.map (rL (rI .i64)) x137_3.2.slots), .rows (List.map (rL (rI .i64)) x137_3.2.grades)] 1000 (And.intro (ck_p h137_0) (And.intro (ok_impl_ztake_take (S_ztake.mk l137_1 i137_2 b137_3) i108_0 x137_1 h137_1) (And.intro h137_2 (And.intro (ok_impl_DecodeTonesC1 2 x137_3 h137_3) (And.intro (len_map (rL (rI .i64)) (show x137_3.2.slots.length = x137_3.2.slots.length from rfl)) (And.intro (len_map (rL (rI .i64)) (show x137_3.2.grades.length = x137_3.2.grades.length from rfl)) (And.intro (all_le0 (rL (rI .i64)) x137_3.2.slots rfl) (And.intro (all_t (rL (rI .i64)) x137_3.2.slots rfl) (And.intro (all_le0 (rL (rI .i64)) x137_3.2.grades rfl) (And.intro (all_t (rL (rI .i64)) x137_3.2.grades rfl) True.intro)))))))))) (rfl : res_impl_DecodeTones (x137_3.1, x137_3.2) = res_impl_DecodeTones (x137_3.1, x137_3.2)) (by kernel_rfl)
  · skip
    obtain ⟨h137_3, hm⟩ | ⟨h137_3, hm⟩ := split_ite hm
    · skip
      obtain ⟨x137_4, h137_4, hm⟩ := bind_some hm
      have hQ : Q = Post vf_impl_DecodeTones (res_impl_DecodeTones (x137_4.1, x137_4.2)) := hout (.inr (x137_4.1, x137_4.2)) (Option.some.inj hm).symm
      subst hQ
      exact go_end [.res (res_impl_ztake_take x137_1), .bit false, .bit true, .res (res_impl_DecodeTonesC1 x137_4), .num x137_4.2.slots.length, .num x137_4.2.grades.length, .rows (List.map (rL (rI .i64)) x137_4.2.slots), .rows (List.map (rL (rI .i64)) x137_4.2.grades)] 1000 (And.intro (ck_p h137_0) (And.intro (ok_impl_ztake_take (S_ztake.mk l137_1 i137_2 b137_3) i108_0 x137_1 h137_1) (And.intro h137_2 (And.intro h137_3 (And.intro (ok_impl_DecodeTonesC1 5 x137_4 h137_4) (And.intro (len_map (rL (rI .i64)) (show x137_4.2.slots.length = x137_4.2.slots.length from rfl)) (And.intro (len_map (rL (rI .i64)) (show x137_4.2.grades.length = x137_4.2.grades.length from rfl)) (And.intro (all_le0 (rL (rI .i64)) x137_4.2.slots rfl) (And.intro (all_t (rL (rI .i64)) x137_4.2.slots rfl) (And.intro (all_le0 (rL (rI .i64)) x137_4.2.grades rfl) (And.intro (all_t (rL (rI .i64)) x137_4.2.grades rfl) True.intro))))))))))) (rfl : res_impl_DecodeTones (x137_4.1, x137_4.2) = res_impl_DecodeTones (x137_4.1, x137_4.2)) (by kernel_rfl)
    · skip
      obtain ⟨x137_4, h137_4, hm⟩ := bind_some hm
      obtain ⟨x137_5, h137_5, hm⟩ := bind_some hm
      refine go_on (u' := .c c_impl_DecodeTones_108) (K' := K_impl_DecodeTones_108) (st' := s_impl_DecodeTones_108 p0 i42_0 i42_1 i32_1 i32_2 i32_3 l85_3 l42_5 l42_6 i108_0 (w64 (i108_1 + 1)) x137_1.2.b x137_1.2.at_ x137_1.2.short (l108_5 ++ ([x137_4] : List Int))) [.res (res_impl_ztake_take x137_1), .bit false, .bit false, .res (res_impl_Unfold x137_4), .rows (List.map (rI .i64) ([x137_4] : List Int)), .num 1, .rows (List.map (rI .i64) (l108_5 ++ ([x137_4] : List Int))), .num ((l108_5 ++ ([x137_4] : List Int)).length), .num l85_3.length, .num ((l108_5 ++ ([x137_4] : List Int)).length), .num (([] : List (List Int)).length), .num (([] : List (List Int)).length), .num l42_5.length, .num l42_6.length] 1000 (And.intro (ck_p h137_0) (And.intro (ok_impl_ztake_take (S_ztake.mk l137_1 i137_2 b137_3) i108_0 x137_1 h137_1) (And.intro h137_2 (And.intro h137_3 (And.intro (ok_impl_Unfold (orI .u64 (shlI .u64 i137_0 i108_0) x137_1.1) x137_4 h137_4) (And.intro (Eq.refl (List.map (rI .i64) ([x137_4] : List Int))) (And.intro (len_map (rI .i64) (show 1 = ([x137_4] : List Int).length from rfl)) (And.intro (all_le (rI .i64) ([x137_4] : List Int) rfl) (And.intro (app_ck (rI .i64) l108_5 ([x137_4] : List Int) rfl rfl h137_5) (And.intro (app_tell (rI .i64) l108_5 ([x137_4] : List Int) rfl rfl) (And.intro (len_map (rI .i64) (show (l108_5 ++ ([x137_4] : List Int)).length = (l108_5 ++ ([x137_4] : List Int)).length from rfl)) (And.intro (lens l85_3.length l85_3.length rfl) (And.intro (lens ((l108_5 ++ ([x137_4] : List Int)).length) ((l108_5 ++ ([x137_4] : List Int)).length) rfl) (And.intro (lens (([] : List (List Int)).length) (([] : List (List Int)).length) rfl) (And.intro (lens (([] : List (List Int)).length) (([] : List (List Int)).length) rfl) (And.intro (lens l42_5.length l42_5.length rfl) (And.intro (lens l42_6.length l42_6.length rfl) True.intro))))))))))))))))) ?_ (by kernel_rfl)
      exact hin (i108_0, (w64 (i108_1 + 1)), x137_1.2.b, x137_1.2.at_, x137_1.2.short, (l108_5 ++ ([x137_4] : List Int))) (Option.some.inj hm).symm

theorem ok_impl_DecodeTones_121 (p0 : (List Int)) (i108_0 : Int) (i42_0 : Int) (i42_1 : Int) (i108_1 : Int) (i32_1 : Int) (i32_2 : Int) (i32_3 : Int) (l85_3 : (List Int)) (l108_5 : (List Int)) (l42_5 : (List (List Int))) (l42_6 : (List (List Int))) (i121_0 : Int) (l121_1 : (List Int)) (i121_2 : Int) (b121_3 : Bool) (y : (Int × (List Int) × Int × Bool) ⊕ (((Int × (List Int) × Int × Bool)) ⊕ ((Int × S_Tones)))) (hm : m_impl_DecodeTones_121 p0 i108_0 i42_0 i42_1 i108_1 i32_1 i32_2 i32_3 l85_3 l108_5 l42_5 l42_6 i121_0 l121_1 i121_2 b121_3 = some y) (Q : VX → St → Prop)
    (hin : ∀ s, y = .inl s → EvU ext tbl (.c c_impl_DecodeTones_121) K_impl_DecodeTones_121 (s_impl_DecodeTones_121 p0 i108_0 i42_0 i42_1 i108_1 i32_1 i32_2 i32_3 l85_3 l108_5 l42_5 l42_6 s.1 s.2.1 s.2.2.1 s.2.2.2) Q) (hout : ∀ e, y = .inr e → O_impl_DecodeTones_121 p0 i108_0 i42_0 i42_1 i108_1 i32_1 i32_2 i32_3 l85_3 l108_5 l42_5 l42_6 Q e) : EvU ext tbl (.c c_impl_DecodeTones_121) K_impl_DecodeTones_121 (s_impl_DecodeTones_121 p0 i108_0 i42_0 i42_1 i108_1 i32_1 i32_2 i32_3 l85_3 l108_5 l42_5 l42_6 i121_0 l121_1 i121_2 b121_3) Q := by
  obtain ⟨x121_0, h121_0, hm⟩ := bind_some hm
  obtain ⟨h121_1, hm⟩ | ⟨h121_1, hm⟩ := split_ite hm
  · skip
    obtain ⟨h121_2, hm⟩ | ⟨h121_2, hm⟩ := split_ite hm
    · skip
      refine go_on (u' := .c c_impl_DecodeTones_137) (K' := K_impl_DecodeTones_137) (st' := s_impl_DecodeTones_137 p0 i108_0 i42_0 i42_1 i108_1 i32_1 i32_2 i32_3 l85_3 l108_5 l42_5 l42_6 i121_0 x121_0.2.b x121_0.2.at_ x121_0.2.short) [.res (res_impl_ztake_bit x121_0), .bit true, .bit true, .bit true, .bit true, .bit true, .bit true, .bit false, .num l85_3.length, .num l108_5.length, .num (([] : List (List Int)).length), .num (([] : List (List Int)).length), .num l42_5.length, .num l42_6.length] 1000 (And.intro (ok_impl_ztake_bit (S_ztake.mk l121_1 i121_2 b121_3) x121_0 h121_0) (And.intro h121_1 (And.intro h121_1 (And.intro h121_1 (And.intro h121_1 (And.intro h121_1 (And.intro h121_1 (And.intro (not_f h121_2) (And.intro (lens l85_3.length l85_3.length rfl) (And.intro (lens l108_5.length l108_5.length rfl) (And.intro (lens (([] : List (List Int)).length) (([] : List (List Int)).length) rfl) (And.intro (lens (([] : List (List Int)).length) (([] : List (List Int)).length) rfl) (And.intro (lens l42_5.length l42_5.length rfl) (And.intro (lens l42_6.length l42_6.length rfl) True.intro)))))))))))))) ?_ (by kernel_rfl)
      exact hout (.inl (i121_0, x121_0.2.b, x121_0.2.at_, x121_0.2.short)) (Option.some.inj hm).symm
    · skip
      obtain ⟨x121_3, h121_3, hm⟩ := bind_some hm
      obtain ⟨h121_4, hm⟩ | ⟨h121_4, hm⟩ := split_ite hm
      · skip
        obtain ⟨x121_5, h121_5, hm⟩ := bind_some hm
        have hQ : Q = Post vf_impl_DecodeTones (res_impl_DecodeTones (x121_5.1, x121_5.2)) := hout (.inr (x121_5.1, x121_5.2)) (Option.some.inj hm).symm
        subst hQ
        exact go_end [.res (res_impl_ztake_bit x121_0), .bit true, .bit true, .bit true, .bit true, .bit true, .bit true, .bit true, .bit true, .res (res_impl_DecodeTonesC1 x121_5), .num x121_5.2.slots.length, .num x121_5.2.grades.length, .rows (List.map (rL (rI .i64)) x121_5.2.slots), .rows (List.map (rL (rI .i64)) x121_5.2.grades)] 1000 (And.intro (ok_impl_ztake_bit (S_ztake.mk l121_1 i121_2 b121_3) x121_0 h121_0) (And.intro h121_1 (And.intro h121_1 (And.intro h121_1 (And.intro h121_1 (And.intro h121_1 (And.intro h121_1 (And.intro (not_t h121_2) (And.intro (ck_p h121_3) (And.intro h121_4 (And.intro (ok_impl_DecodeTonesC1 5 x121_5 h121_5) (And.intro (len_map (rL (rI .i64)) (show x121_5.2.slots.length = x121_5.2.slots.length from rfl)) (And.intro (len_map (rL (rI .i64)) (show x121_5.2.grades.length = x121_5.2.grades.length from rfl)) (And.intro (all_le0 (rL (rI .i64)) x121_5.2.slots rfl) (And.intro (all_t (rL (rI .i64)) x121_5.2.slots rfl) (And.intro (all_le0 (rL (rI .i64)) x121_5.2.grades rfl) (And.intro (all_t (rL (rI .i64)) x121_5.2.grades rfl) True.intro))))))))))))))))) (rfl : res_impl_DecodeTones (x121_5.1, x121_5.2) = res_impl_DecodeTones (x121_5.1, x121_5.2)) (by kernel_rfl)
      · skip
        refine go_on (u' := .c c_impl_DecodeTones_121) (K' := K_impl_DecodeTones_121) (st' := s_impl_DecodeTones_121 p0 i108_0 i42_0 i42_1 i108_1 i32_1 i32_2 i32_3 l85_3 l108_5 l42_5 l42_6 (wr .u64 (i121_0 + 1)) x121_0.2.b x121_0.2.at_ x121_0.2.short) [.res (res_impl_ztake_bit x121_0), .bit true, .bit true, .bit true, .bit true, .bit true, .bit true, .bit true, .bit false, .num l85_3.length, .num l108_5.length, .num (([] : List (List Int)).length), .num (([] : List (List Int)).length), .num l42_5.length, .num l42_6.length] 1000 (And.intro (ok_impl_ztake_bit (S_ztake.mk l121_1 i121_2 b121_3) x121_0 h121_0) (And.intro h121_1 (And.intro h121_1 (And.intro h121_1 (And.intro h121_1 (And.intro h121_1 (And.intro h121_1 (And.intro (not_t h121_2) (And.intro (ck_p h121_3) (And.intro h121_4 (And.intro (lens l85_3.length l85_3.length rfl) (And.intro (lens l108_5.length l108_5.length rfl) (And.intro (lens (([] : List (List Int)).length) (([] : List (List Int)).length) rfl) (And.intro (lens (([] : List (List Int)).length) (([] : List (List Int)).length) rfl) (And.intro (lens l42_5.length l42_5.length rfl) (And.intro (lens l42_6.length l42_6.length rfl) True.intro)))))))))))))))) ?_ (by kernel_rfl)
        exact hin ((wr .u64 (i121_0 + 1)), x121_0.2.b, x121_0.2.at_, x121_0.2.short) (Option.some.inj hm).symm
  · skip
    refine go_on (u' := .c c_impl_DecodeTones_137) (K' := K_impl_DecodeTones_137) (st' := s_impl_DecodeTones_137 p0 i108_0 i42_0 i42_1 i108_1 i32_1 i32_2 i32_3 l85_3 l108_5 l42_5 l42_6 i121_0 x121_0.2.b x121_0.2.at_ x121_0.2.short) [.res (res_impl_ztake_bit x121_0), .bit false, .bit false, .bit false, .bit false, .bit false, .bit false, .bit false, .num l85_3.length, .num l108_5.length, .num (([] : List (List Int)).length), .num (([] : List (List Int)).length), .num l42_5.length, .num l42_6.length] 1000 (And.intro (ok_impl_ztake_bit (S_ztake.mk l121_1 i121_2 b121_3) x121_0 h121_0) (And.intro h121_1 (And.intro h121_1 (And.intro h121_1 (And.intro h121_1 (And.intro h121_1 (And.intro h121_1 (And.intro (Eq.refl false) (And.intro (lens l85_3.length l85_3.length rfl) (And.intro (lens l108_5.length l108_5.length rfl) (And.intro (lens (([] : List (List Int)).length) (([] : List (List Int)).length) rfl) (And.intro (lens (([] : List (List Int)).length) (([] : List (List Int)).length) rfl) (And.intro (lens l42_5.length l42_5.length rfl) (And.intro (lens l42_6.length l42_6.length rfl) True.intro)))))))))))))) ?_ (by kernel_rfl)
    exact hout (.inl (i121_0, x121_0.2.b, x121_0.2.at_, x121_0.2.short)) (Option.some.inj hm).symm

theorem ok_impl_DecodeTones_157 (p0 : (List Int)) (i42_0 : Int) (i42_1 : Int) (i32_1 : Int) (i32_2 : Int) (i32_3 : Int) (l85_3 : (List Int)) (l42_5 : (List (List Int))) (l42_6 : (List (List Int))) (l157_0 : (List Int)) (i157_1 : Int) (b157_2 : Bool) (l157_3 : (List Int)) (y : (Int × Int × (List Int) × Int × Bool × (List (List Int)) × (List (List Int))) ⊕ ((((List Int) × Int × Bool × (List (List Int)) × (List (List Int)))) ⊕ ((Int × S_Tones)))) (hm : m_impl_DecodeTones_157 p0 i42_0 i42_1 i32_1 i32_2 i32_3 l85_3 l42_5 l42_6 l157_0 i157_1 b157_2 l157_3 = some y) (Q : VX → St → Prop)
    (hin : ∀ s, y = .inl s → EvU ext tbl (.c c_impl_DecodeTones_42) K_impl_DecodeTones_42 (s_impl_DecodeTones_42 p0 i32_1 i32_2 i32_3 s.1 s.2.1 s.2.2.1 s.2.2.2.1 s.2.2.2.2.1 s.2.2.2.2.2.1 s.2.2.2.2.2.2) Q) (hout : ∀ e, y = .inr e → O_impl_DecodeTones_42 p0 i32_1 i32_2 i32_3 Q e) : EvU ext tbl (.c c_impl_DecodeTones_157) K_impl_DecodeTones_157 (s_impl_DecodeTones_157 p0 i42_0 i42_1 i32_1 i32_2 i32_3 l85_3 l42_5 l42_6 l157_0 i157_1 b157_2 l157_3) Q := by
  obtain ⟨x157_0, h157_0, hm⟩ := bind_some hm
  obtain ⟨x157_1, h157_1, hm⟩ := bind_some hm
  refine go_on (u' := .c c_impl_DecodeTones_42) (K' := K_impl_DecodeTones_42) (st' := s_impl_DecodeTones_42 p0 i32_1 i32_2 i32_3 i42_0 (w64 (i42_1 + 1)) l157_0 i157_1 b157_2 (l42_5 ++ ([l157_3] : List (List Int))) (l42_6 ++ ([l85_3] : List (List Int)))) [.rows (List.map (rI .i64) l157_3), .rows (List.map (rL (rI .i64)) ([l157_3] : List (List Int))), .num 1, .rows (List.map (rL (rI .i64)) (l42_5 ++ ([l157_3] : List (List Int)))), .num ((l42_5 ++ ([l157_3] : List (List Int))).length), .rows (List.map (rI .i64) l85_3), .rows (List.map (rL (rI .i64)) ([l85_3] : List (List Int))), .num 1, .rows (List.map (rL (rI .i64)) (l42_6 ++ ([l85_3] : List (List Int)))), .num ((l42_6 ++ ([l85_3] : List (List Int))).length), .num (([] : List (List Int)).length), .num (([] : List (List Int)).length), .num ((l42_5 ++ ([l157_3] : List (List Int))).length), .num ((l42_6 ++ ([l85_3] : List (List Int))).length)] 1000 (And.intro (all_le0 (rI .i64) l157_3 rfl) (And.intro (all_t (rI .i64) l157_3 rfl) (And.intro (Eq.refl (List.map (rL (rI .i64)) ([l157_3] : List (List Int)))) (And.intro (len_map (rL (rI .i64)) (show 1 = ([l157_3] : List (List Int)).length from rfl)) (And.intro (all_eq (rL (rI .i64)) ([l157_3] : List (List Int)) rfl) (And.intro (all_le (rL (rI .i64)) ([l157_3] : List (List Int)) rfl) (And.intro (app_ck_ro (rL (rI .i64)) l42_5 ([l157_3] : List (List Int)) rfl h157_0) (And.intro (app_tell_ro (rL (rI .i64)) l42_5 ([l157_3] : List (List Int)) rfl) (And.intro (len_map (rL (rI .i64)) (show (l42_5 ++ ([l157_3] : List (List Int))).length = (l42_5 ++ ([l157_3] : List (List Int))).length from rfl)) (And.intro (all_le0 (rI .i64) l85_3 rfl) (And.intro (all_t (rI .i64) l85_3 rfl) (And.intro (Eq.refl (List.map (rL (rI .i64)) ([l85_3] : List (List Int)))) (And.intro (len_map (rL (rI .i64)) (show 1 = ([l85_3] : List (List Int)).length from rfl)) (And.intro (all_eq (rL (rI .i64)) ([l85_3] : List (List Int)) rfl) (And.intro (all_le (rL (rI .i64)) ([l85_3] : List (List Int)) rfl) (And.intro (app_ck_ro (rL (rI .i64)) l42_6 ([l85_3] : List (List Int)) rfl h157_1) (And.intro (app_tell_ro (rL (rI .i64)) l42_6 ([l85_3] : List (List Int)) rfl) (And.intro (len_map (rL (rI .i64)) (show (l42_6 ++ ([l85_3] : List (List Int))).length = (l42_6 ++ ([l85_3] : List (List Int))).length from rfl)) (And.intro (lens (([] : List (List Int)).length) (([] : List (List Int)).length) rfl) (And.intro (lens (([] : List (List Int)).length) (([] : List (List Int)).length) rfl) (And.intro (lens ((l42_5 ++ ([l157_3] : List (List Int))).length) ((l42_5 ++ ([l157_3] : List (List Int))).length) rfl) (And.intro (lens ((l42_6 ++ ([l85_3] : List (List Int))).length) ((l42_6 ++ ([l85_3] : List (List Int))).length) rfl) True.intro)))))))))))))))))))))) ?_ (by kernel_rfl)
  exact hin (i42_0, (w64 (i42_1 + 1)), l157_0, i157_1, b157_2, (l42_5 ++ ([l157_3] : List (List Int))), (l42_6 ++ ([l85_3] : List (List Int)))) (Option.some.inj hm).symm

theorem ok_impl_DecodeTones_108 (p0 : (List Int)) (i42_0 : Int) (i42_1 : Int) (i32_1 : Int) (i32_2 : Int) (i32_3 : Int) (l85_3 : (List Int)) (l42_5 : (List (List Int))) (l42_6 : (List (List Int))) (i108_0 : Int) (i108_1 : Int) (l108_2 : (List Int)) (i108_3 : Int) (b108_4 : Bool) (l108_5 : (List Int)) (y : (Int × Int × (List Int) × Int × Bool × (List Int)) ⊕ ((((List Int) × Int × Bool × (List Int))) ⊕ ((Int × S_Tones)))) (hm : m_impl_DecodeTones_108 p0 i42_0 i42_1 i32_1 i32_2 i32_3 l85_3 l42_5 l42_6 i108_0 i108_1 l108_2 i108_3 b108_4 l108_5 = some y) (Q : VX → St → Prop)
    (hin : ∀ s, y = .inl s → EvU ext tbl (.c c_impl_DecodeTones_108) K_impl_DecodeTones_108 (s_impl_DecodeTones_108 p0 i42_0 i42_1 i32_1 i32_2 i32_3 l85_3 l42_5 l42_6 s.1 s.2.1 s.2.2.1 s.2.2.2.1 s.2.2.2.2.1 s.2.2.2.2.2) Q) (hout : ∀ e, y = .inr e → O_impl_DecodeTones_108 p0 i42_0 i42_1 i32_1 i32_2 i32_3 l85_3 l42_5 l42_6 Q e) : EvU ext tbl (.c c_impl_DecodeTones_108) K_impl_DecodeTones_108 (s_impl_DecodeTones_108 p0 i42_0 i42_1 i32_1 i32_2 i32_3 l85_3 l42_5 l42_6 i108_0 i108_1 l108_2 i108_3 b108_4 l108_5) Q := by
  obtain ⟨h108_0, hm⟩ | ⟨h108_0, hm⟩ := split_ite hm
  · skip
    refine go_on (u' := .c c_impl_DecodeTones_121) (K' := K_impl_DecodeTones_121) (st' := s_impl_DecodeTones_121 p0 i108_0 i42_0 i42_1 i108_1 i32_1 i32_2 i32_3 l85_3 l108_5 l42_5 l42_6 0 l108_2 i108_3 b108_4) [.bit true, .num l85_3.length, .num l108_5.length, .num (([] : List (List Int)).length), .num (([] : List (List Int)).length), .num l42_5.length, .num l42_6.length] 1000 (And.intro h108_0 (And.intro (lens l85_3.length l85_3.length rfl) (And.intro (lens l108_5.length l108_5.length rfl) (And.intro (lens (([] : List (List Int)).length) (([] : List (List Int)).length) rfl) (And.intro (lens (([] : List (List Int)).length) (([] : List (List Int)).length) rfl) (And.intro (lens l42_5.length l42_5.length rfl) (And.intro (lens l42_6.length l42_6.length rfl) True.intro))))))) ?_ (by kernel_rfl)
    obtain ⟨e, he, hm⟩ := bind_some hm
    refine loop_rule (u := .c c_impl_DecodeTones_121) (K := K_impl_DecodeTones_121) (Q := Q) (b := lp_impl_DecodeTones_121 p0 i108_0 i42_0 i42_1 i108_1 i32_1 i32_2 i32_3 l85_3 l108_5 l42_5 l42_6) (We := O_impl_DecodeTones_121 p0 i108_0 i42_0 i42_1 i108_1 i32_1 i32_2 i32_3 l85_3 l108_5 l42_5 l42_6 Q) (stJ := fun s => s_impl_DecodeTones_121 p0 i108_0 i42_0 i42_1 i108_1 i32_1 i32_2 i32_3 l85_3 l108_5 l42_5 l42_6 s.1 s.2.1 s.2.2.1 s.2.2.2) (s := (0, l108_2, i108_3, b108_4)) (fun s y hb hin hout => ok_impl_DecodeTones_121 p0 i108_0 i42_0 i42_1 i108_1 i32_1 i32_2 i32_3 l85_3 l108_5 l42_5 l42_6 s.1 s.2.1 s.2.2.1 s.2.2.2 y hb Q hin hout) he ?_
    rcases e with e | e
    · skip
      show EvU ext tbl (.c c_impl_DecodeTones_137) K_impl_DecodeTones_137 (s_impl_DecodeTones_137 p0 i108_0 i42_0 i42_1 i108_1 i32_1 i32_2 i32_3 l85_3 l108_5 l42_5 l42_6 e.1 e.2.1 e.2.2.1 e.2.2.2) _
      exact ok_impl_DecodeTones_137 p0 i108_0 i42_0 i42_1 i108_1 i32_1 i32_2 i32_3 l85_3 l108_5 l42_5 l42_6 e.1 e.2.1 e.2.2.1 e.2.2.2 y hm Q hin hout
    · skip
      exact hout (.inr e) (Option.some.inj hm).symm
  · skip
    refine go_on (u' := .c c_impl_DecodeTones_157) (K' := K_impl_DecodeTones_157) (st' := s_impl_DecodeTones_157 p0 i42_0 i42_1 i32_1 i32_2 i32_3 l85_3 l42_5 l42_6 l108_2 i108_3 b108_4 l108_5) [.bit false, .num l85_3.length, .num l108_5.length, .num (([] : List (List Int)).length), .num (([] : List (List Int)).length), .num l42_5.length, .num l42_6.length] 1000 (And.intro h108_0 (And.intro (lens l85_3.length l85_3.length rfl) (And.intro (lens l108_5.length l108_5.length rfl) (And.intro (lens (([] : List (List Int)).length) (([] : List (List Int)).length) rfl) (And.intro (lens (([] : List (List Int)).length) (([] : List (List Int)).length) rfl) (And.intro (lens l42_5.length l42_5.length rfl) (And.intro (lens l42_6.length l42_6.length rfl) True.intro))))))) ?_ (by kernel_rfl)
    exact hout (.inl (l108_2, i108_3, b108_4, l108_5)) (Option.some.inj hm).symm

theorem ok_impl_DecodeTones_85 (p0 : (List Int)) (i42_0 : Int) (i42_1 : Int) (i32_1 : Int) (i32_2 : Int) (i32_3 : Int) (l42_5 : (List (List Int))) (l42_6 : (List (List Int))) (l85_0 : (List Int)) (i85_1 : Int) (b85_2 : Bool) (l85_3 : (List Int)) (y : (Int × Int × (List Int) × Int × Bool × (List (List Int)) × (List (List Int))) ⊕ ((((List Int) × Int × Bool × (List (List Int)) × (List (List Int)))) ⊕ ((Int × S_Tones)))) (hm : m_impl_DecodeTones_85 p0 i42_0 i42_1 i32_1 i32_2 i32_3 l42_5 l42_6 l85_0 i85_1 b85_2 l85_3 = some y) (Q : VX → St → Prop)
    (hin : ∀ s, y = .inl s → EvU ext tbl (.c c_impl_DecodeTones_42) K_impl_DecodeTones_42 (s_impl_DecodeTones_42 p0 i32_1 i32_2 i32_3 s.1 s.2.1 s.2.2.1 s.2.2.2.1 s.2.2.2.2.1 s.2.2.2.2.2.1 s.2.2.2.2.2.2) Q) (hout : ∀ e, y = .inr e → O_impl_DecodeTones_42 p0 i32_1 i32_2 i32_3 Q e) : EvU ext tbl (.c c_impl_DecodeTones_85) K_impl_DecodeTones_85 (s_impl_DecodeTones_85 p0 i42_0 i42_1 i32_1 i32_2 i32_3 l42_5 l42_6 l85_0 i85_1 b85_2 l85_3) Q := by
  obtain ⟨x85_0, h85_0, hm⟩ := bind_some hm
  obtain ⟨h85_1, hm⟩ | ⟨h85_1, hm⟩ := split_ite hm
  · skip
    obtain ⟨x85_2, h85_2, hm⟩ := bind_some hm
    have hQ : Q = Post vf_impl_DecodeTones (res_impl_DecodeTones (x85_2.1, x85_2.2)) := hout (.inr (x85_2.1, x85_2.2)) (Option.some.inj hm).symm
    subst hQ
    exact go_end [.res (res_impl_ztake_take x85_0), .bit true, .res (res_impl_DecodeTonesC1 x85_2), .num x85_2.2.slots.length, .num x85_2.2.grades.length, .rows (List.map (rL (rI .i64)) x85_2.2.slots), .rows (List.map (rL (rI .i64)) x85_2.2.grades)] 1000 (And.intro (ok_impl_ztake_take (S_ztake.mk l85_0 i85_1 b85_2) 5 x85_0 h85_0) (And.intro h85_1 (And.intro (ok_impl_DecodeTonesC1 2 x85_2 h85_2) (And.intro (len_map (rL (rI .i64)) (show x85_2.2.slots.length = x85_2.2.slots.length from rfl)) (And.intro (len_map (rL (rI .i64)) (show x85_2.2.grades.length = x85_2.2.grades.length from rfl)) (And.intro (all_le0 (rL (rI .i64)) x85_2.2.slots rfl) (And.intro (all_t (rL (rI .i64)) x85_2.2.slots rfl) (And.intro (all_le0 (rL (rI .i64)) x85_2.2.grades rfl) (And.intro (all_t (rL (rI .i64)) x85_2.2.grades rfl) True.intro))))))))) (rfl : res_impl_DecodeTones (x85_2.1, x85_2.2) = res_impl_DecodeTones (x85_2.1, x85_2.2)) (by kernel_rfl)
  · skip
    obtain ⟨h85_2, hm⟩ | ⟨h85_2, hm⟩ := split_ite hm
    · skip
      obtain ⟨x85_3, h85_3, hm⟩ := bind_some hm
      have hQ : Q = Post vf_impl_DecodeTones (res_impl_DecodeTones (x85_3.1, x85_3.2)) := hout (.inr (x85_3.1, x85_3.2)) (Option.some.inj hm).symm
      subst hQ
      exact go_end [.res (res_impl_ztake_take x85_0), .bit false, .bit true, .res (res_impl_DecodeTonesC1 x85_3), .num x85_3.2.slots.length, .num x85_3.2.grades.length, .rows (List.map (rL (rI .i64)) x85_3.2.slots), .rows (List.map (rL (rI .i64)) x85_3.2.grades)] 1000 (And.intro (ok_impl_ztake_take (S_ztake.mk l85_0 i85_1 b85_2) 5 x85_0 h85_0) (And.intro h85_1 (And.intro h85_2 (And.intro (ok_impl_DecodeTonesC1 5 x85_3 h85_3) (And.intro (len_map (rL (rI .i64)) (show x85_3.2.slots.length = x85_3.2.slots.length from rfl)) (And.intro (len_map (rL (rI .i64)) (show x85_3.2.grades.length = x85_3.2.grades.length from rfl)) (And.intro (all_le0 (rL (rI .i64)) x85_3.2.slots rfl) (And.intro (all_t (rL (rI .i64)) x85_3.2.slots rfl) (And.intro (all_le0 (rL (rI .i64)) x85_3.2.grades rfl) (And.intro (all_t (rL (rI .i64)) x85_3.2.grades rfl) True.intro)))))))))) (rfl : res_impl_DecodeTones (x85_3.1, x85_3.2) = res_impl_DecodeTones (x85_3.1, x85_3.2)) (by kernel_rfl)
    · skip
      refine go_on (u' := .c c_impl_DecodeTones_108) (K' := K_impl_DecodeTones_108) (st' := s_impl_DecodeTones_108 p0 i42_0 i42_1 i32_1 i32_2 i32_3 l85_3 l42_5 l42_6 (w64 x85_0.1) 0 x85_0.2.b x85_0.2.at_ x85_0.2.short ([] : List Int)) [.res (res_impl_ztake_take x85_0), .bit false, .bit false, .num l85_3.length, .num (([] : List Int).length), .num (([] : List (List Int)).length), .num (([] : List (List Int)).length), .num l42_5.length, .num l42_6.length] 1000 (And.intro (ok_impl_ztake_take (S_ztake.mk l85_0 i85_1 b85_2) 5 x85_0 h85_0) (And.intro h85_1 (And.intro h85_2 (And.intro (lens l85_3.length l85_3.length rfl) (And.intro (lens (([] : List Int).length) (([] : List Int).length) rfl) (And.intro (lens (([] : List (List Int)).length) (([] : List (List Int)).length) rfl) (And.intro (lens (([] : List (List Int)).length) (([] : List (List Int)).length) rfl) (And.intro (lens l42_5.length l42_5.length rfl) (And.intro (lens l42_6.length l42_6.length rfl) True.intro))))))))) ?_ (by kernel_rfl)
      obtain ⟨e, he, hm⟩ := bind_some hm
      refine loop_rule (u := .c c_impl_DecodeTones_108) (K := K_impl_DecodeTones_108) (Q := Q) (b := lp_impl_DecodeTones_108 p0 i42_0 i42_1 i32_1 i32_2 i32_3 l85_3 l42_5 l42_6) (We := O_impl_DecodeTones_108 p0 i42_0 i42_1 i32_1 i32_2 i32_3 l85_3 l42_5 l42_6 Q) (stJ := fun s => s_impl_DecodeTones_108 p0 i42_0 i42_1 i32_1 i32_2 i32_3 l85_3 l42_5 l42_6 s.1 s.2.1 s.2.2.1 s.2.2.2.1 s.2.2.2.2.1 s.2.2.2.2.2) (s := ((w64 x85_0.1), 0, x85_0.2.b, x85_0.2.at_, x85_0.2.short, ([] : List Int))) (fun s y hb hin hout => ok_impl_DecodeTones_108 p0 i42_0 i42_1 i32_1 i32_2 i32_3 l85_3 l42_5 l42_6 s.1 s.2.1 s.2.2.1 s.2.2.2.1 s.2.2.2.2.1 s.2.2.2.2.2 y hb Q hin hout) he ?_
      rcases e with e | e
      · skip
        show EvU ext tbl (.c c_impl_DecodeTones_157) K_impl_DecodeTones_157 (s_impl_DecodeTones_157 p0 i42_0 i42_1 i32_1 i32_2 i32_3 l85_3 l42_5 l42_6 e.1 e.2.1 e.2.2.1 e.2.2.2) _
        exact ok_impl_DecodeTones_157 p0 i42_0 i42_1 i32_1 i32_2 i32_3 l85_3 l42_5 l42_6 e.1 e.2.1 e.2.2.1 e.2.2.2 y hm Q hin hout
      · skip
        exact hout (.inr e) (Option.some.inj hm).symm

theorem ok_impl_DecodeTones_57 (p0 : (List Int)) (i42_0 : Int) (i42_1 : Int) (i32_1 : Int) (i32_2 : Int) (i32_3 : Int) (l42_5 : (List (List Int))) (l42_6 : (List (List Int))) (i57_0 : Int) (l57_1 : (List Int)) (i57_2 : Int) (b57_3 : Bool) (l57_4 : (List Int)) (y : (Int × (List Int) × Int × Bool × (List Int)) ⊕ (((Int × S_Tones)) ⊕ (((List Int) × Int × Bool × (List Int))))) (hm : m_impl_DecodeTones_57 p0 i42_0 i42_1 i32_1 i32_2 i32_3 l42_5 l42_6 i57_0 l57_1 i57_2 b57_3 l57_4 = some y) (Q : VX → St → Prop)
    (hin : ∀ s, y = .inl s → EvU ext tbl (.c c_impl_DecodeTones_57) K_impl_DecodeTones_57 (s_impl_DecodeTones_57 p0 i42_0 i42_1 i32_1 i32_2 i32_3 l42_5 l42_6 s.1 s.2.1 s.2.2.1 s.2.2.2.1 s.2.2.2.2) Q) (hout : ∀ e, y = .inr e → O_impl_DecodeTones_57 p0 i42_0 i42_1 i32_1 i32_2 i32_3 l42_5 l42_6 Q e) : EvU ext tbl (.c c_impl_DecodeTones_57) K_impl_DecodeTones_57 (s_impl_DecodeTones_57 p0 i42_0 i42_1 i32_1 i32_2 i32_3 l42_5 l42_6 i57_0 l57_1 i57_2 b57_3 l57_4) Q := by
  obtain ⟨h57_0, hm⟩ | ⟨h57_0, hm⟩ := split_ite hm
  · skip
    obtain ⟨x57_1, h57_1, hm⟩ := bind_some hm
    obtain ⟨h57_2, hm⟩ | ⟨h57_2, hm⟩ := split_ite hm
    · skip
      obtain ⟨x57_3, h57_3, hm⟩ := bind_some hm
      have hQ : Q = Post vf_impl_DecodeTones (res_impl_DecodeTones (x57_3.1, x57_3.2)) := hout (.inl (x57_3.1, x57_3.2)) (Option.some.inj hm).symm
      subst hQ
      exact go_end [.bit true, .res (res_impl_ztake_take x57_1), .bit true, .res (res_impl_DecodeTonesC1 x57_3), .num x57_3.2.slots.length, .num x57_3.2.grades.length, .rows (List.map (rL (rI .i64)) x57_3.2.slots), .rows (List.map (rL (rI .i64)) x57_3.2.grades)] 1000 (And.intro h57_0 (And.intro (ok_impl_ztake_take (S_ztake.mk l57_1 i57_2 b57_3) 4 x57_1 h57_1) (And.intro h57_2 (And.intro (ok_impl_DecodeTonesC1 2 x57_3 h57_3) (And.intro (len_map (rL (rI .i64)) (show x57_3.2.slots.length = x57_3.2.slots.length from rfl)) (And.intro (len_map (rL (rI .i64)) (show x57_3.2.grades.length = x57_3.2.grades.length from rfl)) (And.intro (all_le0 (rL (rI .i64)) x57_3.2.slots rfl) (And.intro (all_t (rL (rI .i64)) x57_3.2.slots rfl) (And.intro (all_le0 (rL (rI .i64)) x57_3.2.grades rfl) (And.intro (all_t (rL (rI .i64)) x57_3.2.grades rfl) True.intro)))))))))) (rfl : res_impl_DecodeTones (x57_3.1, x57_3.2) = res_impl_DecodeTones (x57_3.1, x57_3.2)) (by kernel_rfl)
    · skip
      obtain ⟨h57_3, hm⟩ | ⟨h57_3, hm⟩ := split_ite hm
      · skip
        obtain ⟨x57_4, h57_4, hm⟩ := bind_some hm
        have hQ : Q = Post vf_impl_DecodeTones (res_impl_DecodeTones (x57_4.1, x57_4.2)) := hout (.inl (x57_4.1, x57_4.2)) (Option.some.inj hm).symm
        subst hQ
        exact go_end [.bit true, .res (res_impl_ztake_take x57_1), .bit false, .bit true, .res (res_impl_DecodeTonesC1 x57_4), .num x57_4.2.slots.length, .num x57_4.2.grades.length, .rows (List.map (rL (rI .i64)) x57_4.2.slots), .rows (List.map (rL (rI .i64)) x57_4.2.grades)] 1000 (And.intro h57_0 (And.intro (ok_impl_ztake_take (S_ztake.mk l57_1 i57_2 b57_3) 4 x57_1 h57_1) (And.intro h57_2 (And.intro h57_3 (And.intro (ok_impl_DecodeTonesC1 5 x57_4 h57_4) (And.intro (len_map (rL (rI .i64)) (show x57_4.2.slots.length = x57_4.2.slots.length from rfl)) (And.intro (len_map (rL (rI .i64)) (show x57_4.2.grades.length = x57_4.2.grades.length from rfl)) (And.intro (all_le0 (rL (rI .i64)) x57_4.2.slots rfl) (And.intro (all_t (rL (rI .i64)) x57_4.2.slots rfl) (And.intro (all_le0 (rL (rI .i64)) x57_4.2.grades rfl) (And.intro (all_t (rL (rI .i64)) x57_4.2.grades rfl) True.intro))))))))))) (rfl : res_impl_DecodeTones (x57_4.1, x57_4.2) = res_impl_DecodeTones (x57_4.1, x57_4.2)) (by kernel_rfl)
      · skip
        obtain ⟨x57_4, h57_4, hm⟩ := bind_some hm
        refine go_on (u' := .c c_impl_DecodeTones_57) (K' := K_impl_DecodeTones_57) (st' := s_impl_DecodeTones_57 p0 i42_0 i42_1 i32_1 i32_2 i32_3 l42_5 l42_6 (w64 (i57_0 + 1)) x57_1.2.b x57_1.2.at_ x57_1.2.short (l57_4 ++ ([(w64 x57_1.1)] : List Int))) [.bit true, .res (res_impl_ztake_take x57_1), .bit false, .bit false, .rows (List.map (rI .i64) ([(w64 x57_1.1)] : List Int)), .num 1, .rows (List.map (rI .i64) (l57_4 ++ ([(w64 x57_1.1)] : List Int))), .num ((l57_4 ++ ([(w64 x57_1.1)] : List Int)).length), .num ((l57_4 ++ ([(w64 x57_1.1)] : List Int)).length), .num (([] : List Int).length), .num (([] : List (List Int)).length), .num (([] : List (List Int)).length), .num l42_5.length, .num l42_6.length] 1000 (And.intro h57_0 (And.intro (ok_impl_ztake_take (S_ztake.mk l57_1 i57_2 b57_3) 4 x57_1 h57_1) (And.intro h57_2 (And.intro h57_3 (And.intro (Eq.refl (List.map (rI .i64) ([(w64 x57_1.1)] : List Int))) (And.intro (len_map (rI .i64) (show 1 = ([(w64 x57_1.1)] : List Int).length from rfl)) (And.intro (all_le (rI .i64) ([(w64 x57_1.1)] : List Int) rfl) (And.intro (app_ck (rI .i64) l57_4 ([(w64 x57_1.1)] : List Int) rfl rfl h57_4) (And.intro (app_tell (rI .i64) l57_4 ([(w64 x57_1.1)] : List Int) rfl rfl) (And.intro (len_map (rI .i64) (show (l57_4 ++ ([(w64 x57_1.1)] : List Int)).length = (l57_4 ++ ([(w64 x57_1.1)] : List Int)).length from rfl)) (And.intro (lens ((l57_4 ++ ([(w64 x57_1.1)] : List Int)).length) ((l57_4 ++ ([(w64 x57_1.1)] : List Int)).length) rfl) (And.intro (lens (([] : List Int).length) (([] : List Int).length) rfl) (And.intro (lens (([] : List (List Int)).length) (([] : List (List Int)).length) rfl) (And.intro (lens (([] : List (List Int)).length) (([] : List (List Int)).length) rfl) (And.intro (lens l42_5.length l42_5.length rfl) (And.intro (lens l42_6.length l42_6.length rfl) True.intro)))))))))))))))) ?_ (by kernel_rfl)
        exact hin ((w64 (i57_0 + 1)), x57_1.2.b, x57_1.2.at_, x57_1.2.short, (l57_4 ++ ([(w64 x57_1.1)] : List Int))) (Option.some.inj hm).symm
  · skip
    refine go_on (u' := .c c_impl_DecodeTones_85) (K' := K_impl_DecodeTones_85) (st' := s_impl_DecodeTones_85 p0 i42_0 i42_1 i32_1 i32_2 i32_3 l42_5 l42_6 l57_1 i57_2 b57_3 l57_4) [.bit false, .num l57_4.length, .num (([] : List Int).length), .num (([] : List (List Int)).length), .num (([] : List (List Int)).length), .num l42_5.length, .num l42_6.length] 1000 (And.intro h57_0 (And.intro (lens l57_4.length l57_4.length rfl) (And.intro (lens (([] : List Int).length) (([] : List Int).length) rfl) (And.intro (lens (([] : List (List Int)).length) (([] : List (List Int)).length) rfl) (And.intro (lens (([] : List (List Int)).length) (([] : List (List Int)).length) rfl) (And.intro (lens l42_5.length l42_5.length rfl) (And.intro (lens l42_6.length l42_6.length rfl) True.intro))))))) ?_ (by kernel_rfl)
    exact hout (.inr (l57_1, i57_2, b57_3, l57_4)) (Option.some.inj hm).symm

theorem ok_impl_DecodeTones_161 (p0 : (List Int)) (i32_1 : Int) (i32_2 : Int) (i32_3 : Int) (l161_0 : (List Int)) (i161_1 : Int) (b161_2 : Bool) (l161_3 : (List (List Int))) (l161_4 : (List (List Int))) (r : Int × S_Tones) (hm : m_impl_DecodeTones_161 p0 i32_1 i32_2 i32_3 l161_0 i161_1 b161_2 l161_3 l161_4 = some r) : EvU ext tbl (.c c_impl_DecodeTones_161) K_impl_DecodeTones_161 (s_impl_DecodeTones_161 p0 i32_1 i32_2 i32_3 l161_0 i161_1 b161_2 l161_3 l161_4) (Post vf_impl_DecodeTones (res_impl_DecodeTones r)) := by
  obtain ⟨x161_0, h161_0, hm⟩ := bind_some hm
  obtain ⟨h161_1, hm⟩ | ⟨h161_1, hm⟩ := split_ite hm
  · skip
    obtain ⟨h161_2, hm⟩ | ⟨h161_2, hm⟩ := split_ite hm
    · skip
      obtain ⟨x161_3, h161_3, hm⟩ := bind_some hm
      exact go_end [.res (res_impl_ztake_fill x161_0), .bit false, .num p0.length, .bit true, .res (res_impl_DecodeTonesC1 x161_3), .num x161_3.2.slots.length, .num x161_3.2.grades.length, .rows (List.map (rL (rI .i64)) x161_3.2.slots), .rows (List.map (rL (rI .i64)) x161_3.2.grades)] 1000 (And.intro (ok_impl_ztake_fill (S_ztake.mk l161_0 i161_1 b161_2) x161_0 h161_0) (And.intro (not_f h161_1) (And.intro (by decide : (8 : Int) ≠ 0) (And.intro (len_map (rI .u8) (show p0.length = p0.length from rfl)) (And.intro h161_2 (And.intro (ok_impl_DecodeTonesC1 8 x161_3 h161_3) (And.intro (len_map (rL (rI .i64)) (show x161_3.2.slots.length = x161_3.2.slots.length from rfl)) (And.intro (len_map (rL (rI .i64)) (show x161_3.2.grades.length = x161_3.2.grades.length from rfl)) (And.intro (all_le0 (rL (rI .i64)) x161_3.2.slots rfl) (And.intro (all_t (rL (rI .i64)) x161_3.2.slots rfl) (And.intro (all_le0 (rL (rI .i64)) x161_3.2.grades rfl) (And.intro (all_t (rL (rI .i64)) x161_3.2.grades rfl) True.intro)))))))))))) (congrArg res_impl_DecodeTones (Option.some.inj hm)) (by kernel_rfl)
    · skip
      exact go_end [.res (res_impl_ztake_fill x161_0), .bit false, .num p0.length, .bit false, .rows (List.map (rL (rI .i64)) l161_3), .rows (List.map (rL (rI .i64)) l161_4)] 1000 (And.intro (ok_impl_ztake_fill (S_ztake.mk l161_0 i161_1 b161_2) x161_0 h161_0) (And.intro (not_f h161_1) (And.intro (by decide : (8 : Int) ≠ 0) (And.intro (len_map (rI .u8) (show p0.length = p0.length from rfl)) (And.intro h161_2 (And.intro (all_le0 (rL (rI .i64)) l161_3 rfl) (And.intro (all_t (rL (rI .i64)) l161_3 rfl) (And.intro (all_le0 (rL (rI .i64)) l161_4 rfl) (And.intro (all_t (rL (rI .i64)) l161_4 rfl) True.intro))))))))) (congrArg res_impl_DecodeTones (Option.some.inj hm)) (by kernel_rfl)
  · skip
    obtain ⟨x161_2, h161_2, hm⟩ := bind_some hm
    exact go_end [.res (res_impl_ztake_fill x161_0), .bit true, .res (res_impl_DecodeTonesC1 x161_2), .num x161_2.2.slots.length, .num x161_2.2.grades.length, .rows (List.map (rL (rI .i64)) x161_2.2.slots), .rows (List.map (rL (rI .i64)) x161_2.2.grades)] 1000 (And.intro (ok_impl_ztake_fill (S_ztake.mk l161_0 i161_1 b161_2) x161_0 h161_0) (And.intro (not_t h161_1) (And.intro (ok_impl_DecodeTonesC1 4 x161_2 h161_2) (And.intro (len_map (rL (rI .i64)) (show x161_2.2.slots.length = x161_2.2.slots.length from rfl)) (And.intro (len_map (rL (rI .i64)) (show x161_2.2.grades.length = x161_2.2.grades.length from rfl)) (And.intro (all_le0 (rL (rI .i64)) x161_2.2.slots rfl) (And.intro (all_t (rL (rI .i64)) x161_2.2.slots rfl) (And.intro (all_le0 (rL (rI .i64)) x161_2.2.grades rfl) (And.intro (all_t (rL (rI .i64)) x161_2.2.grades rfl) True.intro))))))))) (congrArg res_impl_DecodeTones (Option.some.inj hm)) (by kernel_rfl)

theorem ok_impl_DecodeTones_42 (p0 : (List Int)) (i32_1 : Int) (i32_2 : Int) (i32_3 : Int) (i42_0 : Int) (i42_1 : Int) (l42_2 : (List Int)) (i42_3 : Int) (b42_4 : Bool) (l42_5 : (List (List Int))) (l42_6 : (List (List Int))) (y : (Int × Int × (List Int) × Int × Bool × (List (List Int)) × (List (List Int))) ⊕ ((((List Int) × Int × Bool × (List (List Int)) × (List (List Int)))) ⊕ ((Int × S_Tones)))) (hm : m_impl_DecodeTones_42 p0 i32_1 i32_2 i32_3 i42_0 i42_1 l42_2 i42_3 b42_4 l42_5 l42_6 = some y) (Q : VX → St → Prop)
    (hin : ∀ s, y = .inl s → EvU ext tbl (.c c_impl_DecodeTones_42) K_impl_DecodeTones_42 (s_impl_DecodeTones_42 p0 i32_1 i32_2 i32_3 s.1 s.2.1 s.2.2.1 s.2.2.2.1 s.2.2.2.2.1 s.2.2.2.2.2.1 s.2.2.2.2.2.2) Q) (hout : ∀ e, y = .inr e → O_impl_DecodeTones_42 p0 i32_1 i32_2 i32_3 Q e) : EvU ext tbl (.c c_impl_DecodeTones_42) K_impl_DecodeTones_42 (s_impl_DecodeTones_42 p0 i32_1 i32_2 i32_3 i42_0 i42_1 l42_2 i42_3 b42_4 l42_5 l42_6) Q := by
  obtain ⟨h42_0, hm⟩ | ⟨h42_0, hm⟩ := split_ite hm
  · skip
    refine go_on (u' := .c c_impl_DecodeTones_57) (K' := K_impl_DecodeTones_57) (st' := s_impl_DecodeTones_57 p0 i42_0 i42_1 i32_1 i32_2 i32_3 l42_5 l42_6 0 l42_2 i42_3 b42_4 ([] : List Int)) [.bit true, .num (([] : List Int).length), .num (([] : List Int).length), .num (([] : List (List Int)).length), .num (([] : List (List Int)).length), .num l42_5.length, .num l42_6.length] 1000 (And.intro h42_0 (And.intro (lens 0 (([] : List Int).length) rfl) (And.intro (lens 0 (([] : List Int).length) rfl) (And.intro (lens (([] : List (List Int)).length) (([] : List (List Int)).length) rfl) (And.intro (lens (([] : List (List Int)).length) (([] : List (List Int)).length) rfl) (And.intro (lens l42_5.length l42_5.length rfl) (And.intro (lens l42_6.length l42_6.length rfl) True.intro))))))) ?_ (by kernel_rfl)
    obtain ⟨e, he, hm⟩ := bind_some hm
    refine loop_rule (u := .c c_impl_DecodeTones_57) (K := K_impl_DecodeTones_57) (Q := Q) (b := lp_impl_DecodeTones_57 p0 i42_0 i42_1 i32_1 i32_2 i32_3 l42_5 l42_6) (We := O_impl_DecodeTones_57 p0 i42_0 i42_1 i32_1 i32_2 i32_3 l42_5 l42_6 Q) (stJ := fun s => s_impl_DecodeTones_57 p0 i42_0 i42_1 i32_1 i32_2 i32_3 l42_5 l42_6 s.1 s.2.1 s.2.2.1 s.2.2.2.1 s.2.2.2.2) (s := (0, l42_2, i42_3, b42_4, ([] : List Int))) (fun s y hb hin hout => ok_impl_DecodeTones_57 p0 i42_0 i42_1 i32_1 i32_2 i32_3 l42_5 l42_6 s.1 s.2.1 s.2.2.1 s.2.2.2.1 s.2.2.2.2 y hb Q hin hout) he ?_
    rcases e with e | e
    · skip
      exact hout (.inr e) (Option.some.inj hm).symm
    · skip
      show EvU ext tbl (.c c_impl_DecodeTones_85) K_impl_DecodeTones_85 (s_impl_DecodeTones_85 p0 i42_0 i42_1 i32_1 i32_2 i32_3 l42_5 l42_6 e.1 e.2.1 e.2.2.1 e.2.2.2) _
      exact ok_impl_DecodeTones_85 p0 i42_0 i42_1 i32_1 i32_2 i32_3 l42_5 l42_6 e.1 e.2.1 e.2.2.1 e.2.2.2 y hm Q hin hout
  · skip
    refine go_on (u' := .c c_impl_DecodeTones_161) (K' := K_impl_DecodeTones_161) (st' := s_impl_DecodeTones_161 p0 i32_1 i32_2 i32_3 l42_2 i42_3 b42_4 l42_5 l42_6) [.bit false, .num (([] : List (List Int)).length), .num (([] : List (List Int)).length), .num l42_5.length, .num l42_6.length] 1000 (And.intro h42_0 (And.intro (lens (([] : List (List Int)).length) (([] : List (List Int)).length) rfl) (And.intro (lens (([] : List (List Int)).length) (([] : List (List Int)).length) rfl) (And.intro (lens l42_5.length l42_5.length rfl) (And.intro (lens l42_6.length l42_6.length rfl) True.intro))))) ?_ (by kernel_rfl)
    exact hout (.inl (l42_2, i42_3, b42_4, l42_5, l42_6)) (Option.some.inj hm).symm

theorem ok_impl_DecodeTones_32 (p0 : (List Int)) (x0_7 : Int × S_ztake) (b32_0 : Bool) (i32_1 : Int) (i32_2 : Int) (i32_3 : Int) (r : Int × S_Tones) (hm : m_impl_DecodeTones_32 p0 x0_7 b32_0 i32_1 i32_2 i32_3 = some r) : EvU ext tbl (.c c_impl_DecodeTones_32) K_impl_DecodeTones_32 (s_impl_DecodeTones_32 p0 x0_7 b32_0 i32_1 i32_2 i32_3) (Post vf_impl_DecodeTones (res_impl_DecodeTones r)) := by
  obtain ⟨h32_0, hm⟩ | ⟨h32_0, hm⟩ := split_ite hm
  · skip
    obtain ⟨x32_1, h32_1, hm⟩ := bind_some hm
    exact go_end [.bit true, .res (res_impl_DecodeTonesC1 x32_1), .num x32_1.2.slots.length, .num x32_1.2.grades.length, .rows (List.map (rL (rI .i64)) x32_1.2.slots), .rows (List.map (rL (rI .i64)) x32_1.2.grades)] 1000 (And.intro h32_0 (And.intro (ok_impl_DecodeTonesC1 5 x32_1 h32_1) (And.intro (len_map (rL (rI .i64)) (show x32_1.2.slots.length = x32_1.2.slots.length from rfl)) (And.intro (len_map (rL (rI .i64)) (show x32_1.2.grades.length = x32_1.2.grades.length from rfl)) (And.intro (all_le0 (rL (rI .i64)) x32_1.2.slots rfl) (And.intro (all_t (rL (rI .i64)) x32_1.2.slots rfl) (And.intro (all_le0 (rL (rI .i64)) x32_1.2.grades rfl) (And.intro (all_t (rL (rI .i64)) x32_1.2.grades rfl) True.intro)))))))) (congrArg res_impl_DecodeTones (Option.some.inj hm)) (by kernel_rfl)
  · skip
    refine go_on (u' := .c c_impl_DecodeTones_42) (K' := K_impl_DecodeTones_42) (st' := s_impl_DecodeTones_42 p0 i32_1 i32_2 i32_3 (w64 ((w64 (Int.tdiv (w64 (i32_3 + 15)) 16)) + 1)) 0 x0_7.2.b x0_7.2.at_ x0_7.2.short ([] : List (List Int)) ([] : List (List Int))) [.bit false, .num (([] : List (List Int)).length), .num (([] : List (List Int)).length), .num (([] : List (List Int)).length), .num (([] : List (List Int)).length)] 1000 (And.intro h32_0 (And.intro (by decide : (16 : Int) ≠ 0) (And.intro (lens (([] : List (List Int)).length) (([] : List (List Int)).length) rfl) (And.intro (lens (([] : List (List Int)).length) (([] : List (List Int)).length) rfl) (And.intro (lens (([] : List (List Int)).length) (([] : List (List Int)).length) rfl) (And.intro (lens (([] : List (List Int)).length) (([] : List (List Int)).length) rfl) True.intro)))))) ?_ (by kernel_rfl)
    obtain ⟨e, he, hm⟩ := bind_some hm
    refine loop_rule (u := .c c_impl_DecodeTones_42) (K := K_impl_DecodeTones_42) (Q := (Post vf_impl_DecodeTones (res_impl_DecodeTones r))) (b := lp_impl_DecodeTones_42 p0 i32_1 i32_2 i32_3) (We := O_impl_DecodeTones_42 p0 i32_1 i32_2 i32_3 (Post vf_impl_DecodeTones (res_impl_DecodeTones r))) (stJ := fun s => s_impl_DecodeTones_42 p0 i32_1 i32_2 i32_3 s.1 s.2.1 s.2.2.1 s.2.2.2.1 s.2.2.2.2.1 s.2.2.2.2.2.1 s.2.2.2.2.2.2) (s := ((w64 ((w64 (Int.tdiv (w64 (i32_3 + 15)) 16)) + 1)), 0, x0_7.2.b, x0_7.2.at_, x0_7.2.short, ([] : List (List Int)), ([] : List (List Int)))) (fun s y hb hin hout => ok_impl_DecodeTones_42 p0 i32_1 i32_2 i32_3 s.1 s.2.1 s.2.2.1 s.2.2.2.1 s.2.2.2.2.1 s.2.2.2.2.2.1 s.2.2.2.2.2.2 y hb (Post vf_impl_DecodeTones (res_impl_DecodeTones r)) hin hout) he ?_
    rcases e with e | e
    · skip
      show EvU ext tbl (.c c_impl_DecodeTones_161) K_impl_DecodeTones_161 (s_impl_DecodeTones_161 p0 i32_1 i32_2 i32_3 e.1 e.2.1 e.2.2.1 e.2.2.2.1 e.2.2.2.2) _
      exact ok_impl_DecodeTones_161 p0 i32_1 i32_2 i32_3 e.1 e.2.1 e.2.2.1 e.2.2.2.1 e.2.2.2.2 r hm
    · skip
      exact congrArg (fun r => Post vf_impl_DecodeTones (res_impl_DecodeTones r)) (Option.some.inj hm).symm

theorem ok_impl_DecodeTones_0 (p0 : (List Int)) (r : Int × S_Tones) (hm : m_impl_DecodeTones_0 p0 = some r) : EvU ext tbl (.c c_impl_DecodeTones_0) K_impl_DecodeTones_0 (s_impl_DecodeTones_0 p0) (Post vf_impl_DecodeTones (res_impl_DecodeTones r)) := by
  obtain ⟨h0_0, hm⟩ | ⟨h0_0, hm⟩ := split_ite hm
  · skip
    obtain ⟨x0_1, h0_1, hm⟩ := bind_some hm
    exact go_end [.num p0.length, .bit true, .res (res_impl_DecodeTonesC1 x0_1), .num x0_1.2.slots.length, .num x0_1.2.grades.length, .rows (List.map (rL (rI .i64)) x0_1.2.slots), .rows (List.map (rL (rI .i64)) x0_1.2.grades)] 1000 (And.intro (len_map (rI .u8) (show p0.length = p0.length from rfl)) (And.intro h0_0 (And.intro (ok_impl_DecodeTonesC1 1 x0_1 h0_1) (And.intro (len_map (rL (rI .i64)) (show x0_1.2.slots.length = x0_1.2.slots.length from rfl)) (And.intro (len_map (rL (rI .i64)) (show x0_1.2.grades.length = x0_1.2.grades.length from rfl)) (And.intro (all_le0 (rL (rI .i64)) x0_1.2.slots rfl) (And.intro (all_t (rL (rI .i64)) x0_1.2.slots rfl) (And.intro (all_le0 (rL (rI .i64)) x0_1.2.grades rfl) (And.intro (all_t (rL (rI .i64)) x0_1.2.grades rfl) True.intro))))))))) (congrArg res_impl_DecodeTones (Option.some.inj hm)) (by kernel_rfl)
  · skip
    obtain ⟨x0_1, h0_1, hm⟩ := bind_some hm
    obtain ⟨h0_2, hm⟩ | ⟨h0_2, hm⟩ := split_ite hm
    · skip
      obtain ⟨x0_3, h0_3, hm⟩ := bind_some hm
      exact go_end [.num p0.length, .bit false, .res (res_impl_zmagic x0_1), .bit true, .res (res_impl_zmagic x0_1), .res (res_impl_DecodeTonesC1 x0_3), .num x0_3.2.slots.length, .num x0_3.2.grades.length, .rows (List.map (rL (rI .i64)) x0_3.2.slots), .rows (List.map (rL (rI .i64)) x0_3.2.grades)] 1000 (And.intro (len_map (rI .u8) (show p0.length = p0.length from rfl)) (And.intro h0_0 (And.intro (ok_impl_zmagic p0 (ByteArray.mk #[84, 79, 78, 49]) x0_1 h0_1) (And.intro h0_2 (And.intro (ok_impl_zmagic p0 (ByteArray.mk #[84, 79, 78, 49]) x0_1 h0_1) (And.intro (ok_impl_DecodeTonesC1 x0_1 x0_3 h0_3) (And.intro (len_map (rL (rI .i64)) (show x0_3.2.slots.length = x0_3.2.slots.length from rfl)) (And.intro (len_map (rL (rI .i64)) (show x0_3.2.grades.length = x0_3.2.grades.length from rfl)) (And.intro (all_le0 (rL (rI .i64)) x0_3.2.slots rfl) (And.intro (all_t (rL (rI .i64)) x0_3.2.slots rfl) (And.intro (all_le0 (rL (rI .i64)) x0_3.2.grades rfl) (And.intro (all_t (rL (rI .i64)) x0_3.2.grades rfl) True.intro)))))))))))) (congrArg res_impl_DecodeTones (Option.some.inj hm)) (by kernel_rfl)
    · skip
      obtain ⟨h0_3, hm⟩ | ⟨h0_3, hm⟩ := split_ite hm
      · skip
        obtain ⟨x0_4, h0_4, hm⟩ := bind_some hm
        exact go_end [.num p0.length, .bit false, .res (res_impl_zmagic x0_1), .bit false, .num p0.length, .bit true, .res (res_impl_DecodeTonesC1 x0_4), .num x0_4.2.slots.length, .num x0_4.2.grades.length, .rows (List.map (rL (rI .i64)) x0_4.2.slots), .rows (List.map (rL (rI .i64)) x0_4.2.grades)] 1000 (And.intro (len_map (rI .u8) (show p0.length = p0.length from rfl)) (And.intro h0_0 (And.intro (ok_impl_zmagic p0 (ByteArray.mk #[84, 79, 78, 49]) x0_1 h0_1) (And.intro h0_2 (And.intro (len_map (rI .u8) (show p0.length = p0.length from rfl)) (And.intro h0_3 (And.intro (ok_impl_DecodeTonesC1 2 x0_4 h0_4) (And.intro (len_map (rL (rI .i64)) (show x0_4.2.slots.length = x0_4.2.slots.length from rfl)) (And.intro (len_map (rL (rI .i64)) (show x0_4.2.grades.length = x0_4.2.grades.length from rfl)) (And.intro (all_le0 (rL (rI .i64)) x0_4.2.slots rfl) (And.intro (all_t (rL (rI .i64)) x0_4.2.slots rfl) (And.intro (all_le0 (rL (rI .i64)) x0_4.2.grades rfl) (And.intro (all_t (rL (rI .i64)) x0_4.2.grades rfl) True.intro))))))))))))) (congrArg res_impl_DecodeTones (Option.some.inj hm)) (by kernel_rfl)
      · skip
        obtain ⟨x0_4, h0_4, hm⟩ := bind_some hm
        obtain ⟨x0_5, h0_5, hm⟩ := bind_some hm
        obtain ⟨x0_6, h0_6, hm⟩ := bind_some hm
        obtain ⟨x0_7, h0_7, hm⟩ := bind_some hm
        obtain ⟨h0_8, hm⟩ | ⟨h0_8, hm⟩ := split_ite hm
        · skip
          refine go_on (u' := .c c_impl_DecodeTones_32) (K' := K_impl_DecodeTones_32) (st' := s_impl_DecodeTones_32 p0 x0_7 true (w64 x0_4.1) (w64 x0_5.1) (w64 x0_6.1)) [.num p0.length, .bit false, .res (res_impl_zmagic x0_1), .bit false, .num p0.length, .bit false, .res (res_impl_ztake_take x0_4), .res (res_impl_ztake_take x0_5), .res (res_impl_ztake_take x0_6), .res (res_impl_ztake_take x0_7), .bit true, .bit true, .bit true, .bit true, .bit true, .bit true, .bit true, .bit true, .bit true, .bit true, .bit true, .bit true, .num (([] : List (List Int)).length), .num (([] : List (List Int)).length), .num (([] : List (List Int)).length), .num (([] : List (List Int)).length)] 1000 (And.intro (len_map (rI .u8) (show p0.length = p0.length from rfl)) (And.intro h0_0 (And.intro (ok_impl_zmagic p0 (ByteArray.mk #[84, 79, 78, 49]) x0_1 h0_1) (And.intro h0_2 (And.intro (len_map (rI .u8) (show p0.length = p0.length from rfl)) (And.intro h0_3 (And.intro (ok_impl_ztake_take (S_ztake.mk p0 32 false) 20 x0_4 h0_4) (And.intro (ok_impl_ztake_take x0_4.2 4 x0_5 h0_5) (And.intro (ok_impl_ztake_take x0_5.2 12 x0_6 h0_6) (And.intro (ok_impl_ztake_take x0_6.2 4 x0_7 h0_7) (And.intro h0_8 (And.intro h0_8 (And.intro h0_8 (And.intro h0_8 (And.intro (Eq.refl true) (And.intro (Eq.refl true) (And.intro (Eq.refl true) (And.intro (Eq.refl true) (And.intro (Eq.refl true) (And.intro (Eq.refl true) (And.intro (Eq.refl true) (And.intro (Eq.refl true) (And.intro (lens 0 (([] : List (List Int)).length) rfl) (And.intro (lens 0 (([] : List (List Int)).length) rfl) (And.intro (lens 0 (([] : List (List Int)).length) rfl) (And.intro (lens 0 (([] : List (List Int)).length) rfl) True.intro)))))))))))))))))))))))))) ?_ (by kernel_rfl)
          exact ok_impl_DecodeTones_32 p0 x0_7 true (w64 x0_4.1) (w64 x0_5.1) (w64 x0_6.1) r hm
        · skip
          obtain ⟨h0_9, hm⟩ | ⟨h0_9, hm⟩ := split_ite hm
          · skip
            refine go_on (u' := .c c_impl_DecodeTones_32) (K' := K_impl_DecodeTones_32) (st' := s_impl_DecodeTones_32 p0 x0_7 true (w64 x0_4.1) (w64 x0_5.1) (w64 x0_6.1)) [.num p0.length, .bit false, .res (res_impl_zmagic x0_1), .bit false, .num p0.length, .bit false, .res (res_impl_ztake_take x0_4), .res (res_impl_ztake_take x0_5), .res (res_impl_ztake_take x0_6), .res (res_impl_ztake_take x0_7), .bit false, .bit false, .bit false, .bit false, .bit true, .bit true, .bit true, .bit true, .bit true, .bit true, .bit true, .bit true, .num (([] : List (List Int)).length), .num (([] : List (List Int)).length), .num (([] : List (List Int)).length), .num (([] : List (List Int)).length)] 1000 (And.intro (len_map (rI .u8) (show p0.length = p0.length from rfl)) (And.intro h0_0 (And.intro (ok_impl_zmagic p0 (ByteArray.mk #[84, 79, 78, 49]) x0_1 h0_1) (And.intro h0_2 (And.intro (len_map (rI .u8) (show p0.length = p0.length from rfl)) (And.intro h0_3 (And.intro (ok_impl_ztake_take (S_ztake.mk p0 32 false) 20 x0_4 h0_4) (And.intro (ok_impl_ztake_take x0_4.2 4 x0_5 h0_5) (And.intro (ok_impl_ztake_take x0_5.2 12 x0_6 h0_6) (And.intro (ok_impl_ztake_take x0_6.2 4 x0_7 h0_7) (And.intro h0_8 (And.intro h0_8 (And.intro h0_8 (And.intro h0_8 (And.intro h0_9 (And.intro h0_9 (And.intro h0_9 (And.intro h0_9 (And.intro (Eq.refl true) (And.intro (Eq.refl true) (And.intro (Eq.refl true) (And.intro (Eq.refl true) (And.intro (lens 0 (([] : List (List Int)).length) rfl) (And.intro (lens 0 (([] : List (List Int)).length) rfl) (And.intro (lens 0 (([] : List (List Int)).length) rfl) (And.intro (lens 0 (([] : List (List Int)).length) rfl) True.intro)))))))))))))))))))))))))) ?_ (by kernel_rfl)
            exact ok_impl_DecodeTones_32 p0 x0_7 true (w64 x0_4.1) (w64 x0_5.1) (w64 x0_6.1) r hm
          · skip
            obtain ⟨h0_10, hm⟩ | ⟨h0_10, hm⟩ := split_ite hm
            · skip
              refine go_on (u' := .c c_impl_DecodeTones_32) (K' := K_impl_DecodeTones_32) (st' := s_impl_DecodeTones_32 p0 x0_7 true (w64 x0_4.1) (w64 x0_5.1) (w64 x0_6.1)) [.num p0.length, .bit false, .res (res_impl_zmagic x0_1), .bit false, .num p0.length, .bit false, .res (res_impl_ztake_take x0_4), .res (res_impl_ztake_take x0_5), .res (res_impl_ztake_take x0_6), .res (res_impl_ztake_take x0_7), .bit false, .bit false, .bit false, .bit false, .bit false, .bit false, .bit false, .bit false, .bit true, .bit true, .bit true, .bit true, .num (([] : List (List Int)).length), .num (([] : List (List Int)).length), .num (([] : List (List Int)).length), .num (([] : List (List Int)).length)] 1000 (And.intro (len_map (rI .u8) (show p0.length = p0.length from rfl)) (And.intro h0_0 (And.intro (ok_impl_zmagic p0 (ByteArray.mk #[84, 79, 78, 49]) x0_1 h0_1) (And.intro h0_2 (And.intro (len_map (rI .u8) (show p0.length = p0.length from rfl)) (And.intro h0_3 (And.intro (ok_impl_ztake_take (S_ztake.mk p0 32 false) 20 x0_4 h0_4) (And.intro (ok_impl_ztake_take x0_4.2 4 x0_5 h0_5) (And.intro (ok_impl_ztake_take x0_5.2 12 x0_6 h0_6) (And.intro (ok_impl_ztake_take x0_6.2 4 x0_7 h0_7) (And.intro h0_8 (And.intro h0_8 (And.intro h0_8 (And.intro h0_8 (And.intro h0_9 (And.intro h0_9 (And.intro h0_9 (And.intro h0_9 (And.intro h0_10 (And.intro h0_10 (And.intro h0_10 (And.intro h0_10 (And.intro (lens 0 (([] : List (List Int)).length) rfl) (And.intro (lens 0 (([] : List (List Int)).length) rfl) (And.intro (lens 0 (([] : List (List Int)).length) rfl) (And.intro (lens 0 (([] : List (List Int)).length) rfl) True.intro)))))))))))))))))))))))))) ?_ (by kernel_rfl)
              exact ok_impl_DecodeTones_32 p0 x0_7 true (w64 x0_4.1) (w64 x0_5.1) (w64 x0_6.1) r hm
            · skip
              refine go_on (u' := .c c_impl_DecodeTones_32) (K' := K_impl_DecodeTones_32) (st' := s_impl_DecodeTones_32 p0 x0_7 (decide ((w64 x0_6.1) > 4000)) (w64 x0_4.1) (w64 x0_5.1) (w64 x0_6.1)) [.num p0.length, .bit false, .res (res_impl_zmagic x0_1), .bit false, .num p0.length, .bit false, .res (res_impl_ztake_take x0_4), .res (res_impl_ztake_take x0_5), .res (res_impl_ztake_take x0_6), .res (res_impl_ztake_take x0_7), .bit false, .bit false, .bit false, .bit false, .bit false, .bit false, .bit false, .bit false, .bit false, .bit false, .bit false, .bit false, .num (([] : List (List Int)).length), .num (([] : List (List Int)).length), .num (([] : List (List Int)).length), .num (([] : List (List Int)).length)] 1000 (And.intro (len_map (rI .u8) (show p0.length = p0.length from rfl)) (And.intro h0_0 (And.intro (ok_impl_zmagic p0 (ByteArray.mk #[84, 79, 78, 49]) x0_1 h0_1) (And.intro h0_2 (And.intro (len_map (rI .u8) (show p0.length = p0.length from rfl)) (And.intro h0_3 (And.intro (ok_impl_ztake_take (S_ztake.mk p0 32 false) 20 x0_4 h0_4) (And.intro (ok_impl_ztake_take x0_4.2 4 x0_5 h0_5) (And.intro (ok_impl_ztake_take x0_5.2 12 x0_6 h0_6) (And.intro (ok_impl_ztake_take x0_6.2 4 x0_7 h0_7) (And.intro h0_8 (And.intro h0_8 (And.intro h0_8 (And.intro h0_8 (And.intro h0_9 (And.intro h0_9 (And.intro h0_9 (And.intro h0_9 (And.intro h0_10 (And.intro h0_10 (And.intro h0_10 (And.intro h0_10 (And.intro (lens 0 (([] : List (List Int)).length) rfl) (And.intro (lens 0 (([] : List (List Int)).length) rfl) (And.intro (lens 0 (([] : List (List Int)).length) rfl) (And.intro (lens 0 (([] : List (List Int)).length) rfl) True.intro)))))))))))))))))))))))))) ?_ (by kernel_rfl)
              exact ok_impl_DecodeTones_32 p0 x0_7 (decide ((w64 x0_6.1) > 4000)) (w64 x0_4.1) (w64 x0_5.1) (w64 x0_6.1) r hm

theorem ok_impl_DecodeTones (p0 : (List Int)) (r : Int × S_Tones) (hm : m_impl_DecodeTones p0 = some r) : Runs ext tbl 23 (as_impl_DecodeTones p0) (res_impl_DecodeTones r) :=
  runs_of (vf := vf_impl_DecodeTones) (by kernel_rfl) rfl (st := (enter vf_impl_DecodeTones (as_impl_DecodeTones p0)).getD default) (by kernel_rfl) (go_on [] 1000 True.intro (ok_impl_DecodeTones_0 p0 r hm) (by kernel_rfl))
def O_laws_eqIntS_15 (Q : VX → St → Prop) (e : (Bool) ⊕ ((Unit))) : Prop := match e with | .inl e => Q = Post vf_laws_eqIntS (res_laws_eqIntS e) | .inr e => EvU ext tbl (.c c_laws_eqIntS_31) K_laws_eqIntS_31 (s_laws_eqIntS_31) Q
theorem ok_laws_eqIntS_31 (r : Bool) (hm : m_laws_eqIntS_31 = some r) : EvU ext tbl (.c c_laws_eqIntS_31) K_laws_eqIntS_31 (s_laws_eqIntS_31) (Post vf_laws_eqIntS (res_laws_eqIntS r)) := by
  exact go_end [] 1000 True.intro (congrArg res_laws_eqIntS (Option.some.inj hm)) (by kernel_rfl)

theorem ok_laws_eqIntS_15 (p0 : (List Int)) (p1 : (List Int)) (i15_0 : Int) (y : (Int) ⊕ ((Bool) ⊕ ((Unit)))) (hm : m_laws_eqIntS_15 p0 p1 i15_0 = some y) (Q : VX → St → Prop)
    (hin : ∀ s, y = .inl s → EvU ext tbl (.c c_laws_eqIntS_15) K_laws_eqIntS_15 (s_laws_eqIntS_15 p0 p1 s) Q) (hout : ∀ e, y = .inr e → O_laws_eqIntS_15 Q e) : EvU ext tbl (.c c_laws_eqIntS_15) K_laws_eqIntS_15 (s_laws_eqIntS_15 p0 p1 i15_0) Q := by
  obtain ⟨h15_0, hm⟩ | ⟨h15_0, hm⟩ := split_ite hm
  · skip
    obtain ⟨x15_1, h15_1, hm⟩ := bind_some hm
    obtain ⟨x15_2, h15_2, hm⟩ := bind_some hm
    obtain ⟨h15_3, hm⟩ | ⟨h15_3, hm⟩ := split_ite hm
    · skip
      have hQ : Q = Post vf_laws_eqIntS (res_laws_eqIntS false) := hout (.inl false) (Option.some.inj hm).symm
      subst hQ
      exact go_end [.num p0.length, .bit true, .row ((rI .i64) x15_1), .row ((rI .i64) x15_2), .bit true] 1000 (And.intro (len_map (rI .i64) (show p0.length = p0.length from rfl)) (And.intro h15_0 (And.intro (rd_nn h15_1) (And.intro (at_row (rI .i64) (rd_get h15_1)) (And.intro (rd_nn h15_2) (And.intro (at_row (rI .i64) (rd_get h15_2)) (And.intro h15_3 True.intro))))))) (rfl : res_laws_eqIntS false = res_laws_eqIntS false) (by kernel_rfl)
    · skip
      refine go_on (u' := .c c_laws_eqIntS_15) (K' := K_laws_eqIntS_15) (st' := s_laws_eqIntS_15 p0 p1 (w64 (i15_0 + 1))) [.num p0.length, .bit true, .row ((rI .i64) x15_1), .row ((rI .i64) x15_2), .bit false] 1000 (And.intro (len_map (rI .i64) (show p0.length = p0.length from rfl)) (And.intro h15_0 (And.intro (rd_nn h15_1) (And.intro (at_row (rI .i64) (rd_get h15_1)) (And.intro (rd_nn h15_2) (And.intro (at_row (rI .i64) (rd_get h15_2)) (And.intro h15_3 True.intro))))))) ?_ (by kernel_rfl)
      exact hin (w64 (i15_0 + 1)) (Option.some.inj hm).symm
  · skip
    refine go_on (u' := .c c_laws_eqIntS_31) (K' := K_laws_eqIntS_31) (st' := s_laws_eqIntS_31) [.num p0.length, .bit false] 1000 (And.intro (len_map (rI .i64) (show p0.length = p0.length from rfl)) (And.intro h15_0 True.intro)) ?_ (by kernel_rfl)
    exact hout (.inr ()) (Option.some.inj hm).symm

theorem ok_laws_eqIntS_0 (p0 : (List Int)) (p1 : (List Int)) (r : Bool) (hm : m_laws_eqIntS_0 p0 p1 = some r) : EvU ext tbl (.c c_laws_eqIntS_0) K_laws_eqIntS_0 (s_laws_eqIntS_0 p0 p1) (Post vf_laws_eqIntS (res_laws_eqIntS r)) := by
  obtain ⟨h0_0, hm⟩ | ⟨h0_0, hm⟩ := split_ite hm
  · skip
    exact go_end [.num p0.length, .num p1.length, .bit true] 1000 (And.intro (len_map (rI .i64) (show p0.length = p0.length from rfl)) (And.intro (len_map (rI .i64) (show p1.length = p1.length from rfl)) (And.intro h0_0 True.intro))) (congrArg res_laws_eqIntS (Option.some.inj hm)) (by kernel_rfl)
  · skip
    refine go_on (u' := .c c_laws_eqIntS_15) (K' := K_laws_eqIntS_15) (st' := s_laws_eqIntS_15 p0 p1 0) [.num p0.length, .num p1.length, .bit false] 1000 (And.intro (len_map (rI .i64) (show p0.length = p0.length from rfl)) (And.intro (len_map (rI .i64) (show p1.length = p1.length from rfl)) (And.intro h0_0 True.intro))) ?_ (by kernel_rfl)
    obtain ⟨e, he, hm⟩ := bind_some hm
    refine loop_rule (u := .c c_laws_eqIntS_15) (K := K_laws_eqIntS_15) (Q := (Post vf_laws_eqIntS (res_laws_eqIntS r))) (b := lp_laws_eqIntS_15 p0 p1) (We := O_laws_eqIntS_15 (Post vf_laws_eqIntS (res_laws_eqIntS r))) (stJ := fun s => s_laws_eqIntS_15 p0 p1 s) (s := 0) (fun s y hb hin hout => ok_laws_eqIntS_15 p0 p1 s y hb (Post vf_laws_eqIntS (res_laws_eqIntS r)) hin hout) he ?_
    rcases e with e | e
    · skip
      exact congrArg (fun r => Post vf_laws_eqIntS (res_laws_eqIntS r)) (Option.some.inj hm).symm
    · skip
      show EvU ext tbl (.c c_laws_eqIntS_31) K_laws_eqIntS_31 (s_laws_eqIntS_31) _
      exact ok_laws_eqIntS_31 r hm

theorem ok_laws_eqIntS (p0 : (List Int)) (p1 : (List Int)) (r : Bool) (hm : m_laws_eqIntS p0 p1 = some r) : Runs ext tbl 62 (as_laws_eqIntS p0 p1) (res_laws_eqIntS r) :=
  runs_of (vf := vf_laws_eqIntS) (by kernel_rfl) rfl (st := (enter vf_laws_eqIntS (as_laws_eqIntS p0 p1)).getD default) (by kernel_rfl) (go_on [] 1000 True.intro (ok_laws_eqIntS_0 p0 p1 r hm) (by kernel_rfl))
def O_laws_eqIntSS_15 (Q : VX → St → Prop) (e : (Bool) ⊕ ((Unit))) : Prop := match e with | .inl e => Q = Post vf_laws_eqIntSS (res_laws_eqIntSS e) | .inr e => EvU ext tbl (.c c_laws_eqIntSS_31) K_laws_eqIntSS_31 (s_laws_eqIntSS_31) Q
theorem ok_laws_eqIntSS_31 (r : Bool) (hm : m_laws_eqIntSS_31 = some r) : EvU ext tbl (.c c_laws_eqIntSS_31) K_laws_eqIntSS_31 (s_laws_eqIntSS_31) (Post vf_laws_eqIntSS (res_laws_eqIntSS r)) := by
  exact go_end [] 1000 True.intro (congrArg res_laws_eqIntSS (Option.some.inj hm)) (by kernel_rfl)

theorem ok_laws_eqIntSS_15 (p0 : (List (List Int))) (p1 : (List (List Int))) (i15_0 : Int) (y : (Int) ⊕ ((Bool) ⊕ ((Unit)))) (hm : m_laws_eqIntSS_15 p0 p1 i15_0 = some y) (Q : VX → St → Prop)
    (hin : ∀ s, y = .inl s → EvU ext tbl (.c c_laws_eqIntSS_15) K_laws_eqIntSS_15 (s_laws_eqIntSS_15 p0 p1 s) Q) (hout : ∀ e, y = .inr e → O_laws_eqIntSS_15 Q e) : EvU ext tbl (.c c_laws_eqIntSS_15) K_laws_eqIntSS_15 (s_laws_eqIntSS_15 p0 p1 i15_0) Q := by
  obtain ⟨h15_0, hm⟩ | ⟨h15_0, hm⟩ := split_ite hm
  · skip
    obtain ⟨x15_1, h15_1, hm⟩ := bind_some hm
    obtain ⟨x15_2, h15_2, hm⟩ := bind_some hm
    obtain ⟨x15_3, h15_3, hm⟩ := bind_some hm
    obtain ⟨h15_4, hm⟩ | ⟨h15_4, hm⟩ := split_ite hm
    · skip
      refine go_on (u' := .c c_laws_eqIntSS_15) (K' := K_laws_eqIntSS_15) (st' := s_laws_eqIntSS_15 p0 p1 (w64 (i15_0 + 1))) [.num p0.length, .bit true, .row ((rL (rI .i64)) x15_1), .row ((rL (rI .i64)) x15_2), .res (res_laws_eqIntS x15_3), .bit false] 1000 (And.intro (len_map (rL (rI .i64)) (show p0.length = p0.length from rfl)) (And.intro h15_0 (And.intro (rd_nn h15_1) (And.intro (at_row (rL (rI .i64)) (rd_get h15_1)) (And.intro (rd_nn h15_2) (And.intro (at_row (rL (rI .i64)) (rd_get h15_2)) (And.intro (ok_laws_eqIntS x15_1 x15_2 x15_3 h15_3) (And.intro (not_f h15_4) True.intro)))))))) ?_ (by kernel_rfl)
      exact hin (w64 (i15_0 + 1)) (Option.some.inj hm).symm
    · skip
      have hQ : Q = Post vf_laws_eqIntSS (res_laws_eqIntSS false) := hout (.inl false) (Option.some.inj hm).symm
      subst hQ
      exact go_end [.num p0.length, .bit true, .row ((rL (rI .i64)) x15_1), .row ((rL (rI .i64)) x15_2), .res (res_laws_eqIntS x15_3), .bit true] 1000 (And.intro (len_map (rL (rI .i64)) (show p0.length = p0.length from rfl)) (And.intro h15_0 (And.intro (rd_nn h15_1) (And.intro (at_row (rL (rI .i64)) (rd_get h15_1)) (And.intro (rd_nn h15_2) (And.intro (at_row (rL (rI .i64)) (rd_get h15_2)) (And.intro (ok_laws_eqIntS x15_1 x15_2 x15_3 h15_3) (And.intro (not_t h15_4) True.intro)))))))) (rfl : res_laws_eqIntSS false = res_laws_eqIntSS false) (by kernel_rfl)
  · skip
    refine go_on (u' := .c c_laws_eqIntSS_31) (K' := K_laws_eqIntSS_31) (st' := s_laws_eqIntSS_31) [.num p0.length, .bit false] 1000 (And.intro (len_map (rL (rI .i64)) (show p0.length = p0.length from rfl)) (And.intro h15_0 True.intro)) ?_ (by kernel_rfl)
    exact hout (.inr ()) (Option.some.inj hm).symm

theorem ok_laws_eqIntSS_0 (p0 : (List (List Int))) (p1 : (List (List Int))) (r : Bool) (hm : m_laws_eqIntSS_0 p0 p1 = some r) : EvU ext tbl (.c c_laws_eqIntSS_0) K_laws_eqIntSS_0 (s_laws_eqIntSS_0 p0 p1) (Post vf_laws_eqIntSS (res_laws_eqIntSS r)) := by
  obtain ⟨h0_0, hm⟩ | ⟨h0_0, hm⟩ := split_ite hm
  · skip
    exact go_end [.num p0.length, .num p1.length, .bit true] 1000 (And.intro (len_map (rL (rI .i64)) (show p0.length = p0.length from rfl)) (And.intro (len_map (rL (rI .i64)) (show p1.length = p1.length from rfl)) (And.intro h0_0 True.intro))) (congrArg res_laws_eqIntSS (Option.some.inj hm)) (by kernel_rfl)
  · skip
    refine go_on (u' := .c c_laws_eqIntSS_15) (K' := K_laws_eqIntSS_15) (st' := s_laws_eqIntSS_15 p0 p1 0) [.num p0.length, .num p1.length, .bit false] 1000 (And.intro (len_map (rL (rI .i64)) (show p0.length = p0.length from rfl)) (And.intro (len_map (rL (rI .i64)) (show p1.length = p1.length from rfl)) (And.intro h0_0 True.intro))) ?_ (by kernel_rfl)
    obtain ⟨e, he, hm⟩ := bind_some hm
    refine loop_rule (u := .c c_laws_eqIntSS_15) (K := K_laws_eqIntSS_15) (Q := (Post vf_laws_eqIntSS (res_laws_eqIntSS r))) (b := lp_laws_eqIntSS_15 p0 p1) (We := O_laws_eqIntSS_15 (Post vf_laws_eqIntSS (res_laws_eqIntSS r))) (stJ := fun s => s_laws_eqIntSS_15 p0 p1 s) (s := 0) (fun s y hb hin hout => ok_laws_eqIntSS_15 p0 p1 s y hb (Post vf_laws_eqIntSS (res_laws_eqIntSS r)) hin hout) he ?_
    rcases e with e | e
    · skip
      exact congrArg (fun r => Post vf_laws_eqIntSS (res_laws_eqIntSS r)) (Option.some.inj hm).symm
    · skip
      show EvU ext tbl (.c c_laws_eqIntSS_31) K_laws_eqIntSS_31 (s_laws_eqIntSS_31) _
      exact ok_laws_eqIntSS_31 r hm

theorem ok_laws_eqIntSS (p0 : (List (List Int))) (p1 : (List (List Int))) (r : Bool) (hm : m_laws_eqIntSS p0 p1 = some r) : Runs ext tbl 40 (as_laws_eqIntSS p0 p1) (res_laws_eqIntSS r) :=
  runs_of (vf := vf_laws_eqIntSS) (by kernel_rfl) rfl (st := (enter vf_laws_eqIntSS (as_laws_eqIntSS p0 p1)).getD default) (by kernel_rfl) (go_on [] 1000 True.intro (ok_laws_eqIntSS_0 p0 p1 r hm) (by kernel_rfl))
theorem ok_laws_eqTones_0 (p0 : S_Tones) (p1 : S_Tones) (r : Bool) (hm : m_laws_eqTones_0 p0 p1 = some r) : EvU ext tbl (.c c_laws_eqTones_0) K_laws_eqTones_0 (s_laws_eqTones_0 p0 p1) (Post vf_laws_eqTones (res_laws_eqTones r)) := by
  obtain ⟨h0_0, hm⟩ | ⟨h0_0, hm⟩ := split_ite hm
  · skip
    exact go_end [.bit true] 1000 (And.intro h0_0 True.intro) (congrArg res_laws_eqTones (Option.some.inj hm)) (by kernel_rfl)
  · skip
    obtain ⟨h0_1, hm⟩ | ⟨h0_1, hm⟩ := split_ite hm
    · skip
      exact go_end [.bit false, .bit true] 1000 (And.intro h0_0 (And.intro h0_1 True.intro)) (congrArg res_laws_eqTones (Option.some.inj hm)) (by kernel_rfl)
    · skip
      obtain ⟨h0_2, hm⟩ | ⟨h0_2, hm⟩ := split_ite hm
      · skip
        exact go_end [.bit false, .bit false, .bit true] 1000 (And.intro h0_0 (And.intro h0_1 (And.intro h0_2 True.intro))) (congrArg res_laws_eqTones (Option.some.inj hm)) (by kernel_rfl)
      · skip
        obtain ⟨x0_3, h0_3, hm⟩ := bind_some hm
        obtain ⟨h0_4, hm⟩ | ⟨h0_4, hm⟩ := split_ite hm
        · skip
          obtain ⟨x0_5, h0_5, hm⟩ := bind_some hm
          obtain ⟨h0_6, hm⟩ | ⟨h0_6, hm⟩ := split_ite hm
          · skip
            exact go_end [.bit false, .bit false, .bit false, .res (res_laws_eqIntSS x0_3), .bit false, .res (res_laws_eqIntSS x0_5), .bit false] 1000 (And.intro h0_0 (And.intro h0_1 (And.intro h0_2 (And.intro (ok_laws_eqIntSS p0.slots p1.slots x0_3 h0_3) (And.intro (not_f h0_4) (And.intro (ok_laws_eqIntSS p0.grades p1.grades x0_5 h0_5) (And.intro (not_f h0_6) True.intro))))))) (congrArg res_laws_eqTones (Option.some.inj hm)) (by kernel_rfl)
          · skip
            exact go_end [.bit false, .bit false, .bit false, .res (res_laws_eqIntSS x0_3), .bit false, .res (res_laws_eqIntSS x0_5), .bit true] 1000 (And.intro h0_0 (And.intro h0_1 (And.intro h0_2 (And.intro (ok_laws_eqIntSS p0.slots p1.slots x0_3 h0_3) (And.intro (not_f h0_4) (And.intro (ok_laws_eqIntSS p0.grades p1.grades x0_5 h0_5) (And.intro (not_t h0_6) True.intro))))))) (congrArg res_laws_eqTones (Option.some.inj hm)) (by kernel_rfl)
        · skip
          exact go_end [.bit false, .bit false, .bit false, .res (res_laws_eqIntSS x0_3), .bit true] 1000 (And.intro h0_0 (And.intro h0_1 (And.intro h0_2 (And.intro (ok_laws_eqIntSS p0.slots p1.slots x0_3 h0_3) (And.intro (not_t h0_4) True.intro))))) (congrArg res_laws_eqTones (Option.some.inj hm)) (by kernel_rfl)

theorem ok_laws_eqTones (p0 : S_Tones) (p1 : S_Tones) (r : Bool) (hm : m_laws_eqTones p0 p1 = some r) : Runs ext tbl 17 (as_laws_eqTones p0 p1) (res_laws_eqTones r) :=
  runs_of (vf := vf_laws_eqTones) (by kernel_rfl) rfl (st := (enter vf_laws_eqTones (as_laws_eqTones p0 p1)).getD default) (by kernel_rfl) (go_on [] 1000 True.intro (ok_laws_eqTones_0 p0 p1 r hm) (by kernel_rfl))
def O_laws_eqByteS_15 (Q : VX → St → Prop) (e : (Bool) ⊕ ((Unit))) : Prop := match e with | .inl e => Q = Post vf_laws_eqByteS (res_laws_eqByteS e) | .inr e => EvU ext tbl (.c c_laws_eqByteS_31) K_laws_eqByteS_31 (s_laws_eqByteS_31) Q
theorem ok_laws_eqByteS_31 (r : Bool) (hm : m_laws_eqByteS_31 = some r) : EvU ext tbl (.c c_laws_eqByteS_31) K_laws_eqByteS_31 (s_laws_eqByteS_31) (Post vf_laws_eqByteS (res_laws_eqByteS r)) := by
  exact go_end [] 1000 True.intro (congrArg res_laws_eqByteS (Option.some.inj hm)) (by kernel_rfl)

theorem ok_laws_eqByteS_15 (p0 : (List Int)) (p1 : (List Int)) (i15_0 : Int) (y : (Int) ⊕ ((Bool) ⊕ ((Unit)))) (hm : m_laws_eqByteS_15 p0 p1 i15_0 = some y) (Q : VX → St → Prop)
    (hin : ∀ s, y = .inl s → EvU ext tbl (.c c_laws_eqByteS_15) K_laws_eqByteS_15 (s_laws_eqByteS_15 p0 p1 s) Q) (hout : ∀ e, y = .inr e → O_laws_eqByteS_15 Q e) : EvU ext tbl (.c c_laws_eqByteS_15) K_laws_eqByteS_15 (s_laws_eqByteS_15 p0 p1 i15_0) Q := by
  obtain ⟨h15_0, hm⟩ | ⟨h15_0, hm⟩ := split_ite hm
  · skip
    obtain ⟨x15_1, h15_1, hm⟩ := bind_some hm
    obtain ⟨x15_2, h15_2, hm⟩ := bind_some hm
    obtain ⟨h15_3, hm⟩ | ⟨h15_3, hm⟩ := split_ite hm
    · skip
      have hQ : Q = Post vf_laws_eqByteS (res_laws_eqByteS false) := hout (.inl false) (Option.some.inj hm).symm
      subst hQ
      exact go_end [.num p0.length, .bit true, .row ((rI .u8) x15_1), .row ((rI .u8) x15_2), .bit true] 1000 (And.intro (len_map (rI .u8) (show p0.length = p0.length from rfl)) (And.intro h15_0 (And.intro (rd_nn h15_1) (And.intro (at_row (rI .u8) (rd_get h15_1)) (And.intro (rd_nn h15_2) (And.intro (at_row (rI .u8) (rd_get h15_2)) (And.intro h15_3 True.intro))))))) (rfl : res_laws_eqByteS false = res_laws_eqByteS false) (by kernel_rfl)
    · skip
      refine go_on (u' := .c c_laws_eqByteS_15) (K' := K_laws_eqByteS_15) (st' := s_laws_eqByteS_15 p0 p1 (w64 (i15_0 + 1))) [.num p0.length, .bit true, .row ((rI .u8) x15_1), .row ((rI .u8) x15_2), .bit false] 1000 (And.intro (len_map (rI .u8) (show p0.length = p0.length from rfl)) (And.intro h15_0 (And.intro (rd_nn h15_1) (And.intro (at_row (rI .u8) (rd_get h15_1)) (And.intro (rd_nn h15_2) (And.intro (at_row (rI .u8) (rd_get h15_2)) (And.intro h15_3 True.intro))))))) ?_ (by kernel_rfl)
      exact hin (w64 (i15_0 + 1)) (Option.some.inj hm).symm
  · skip
    refine go_on (u' := .c c_laws_eqByteS_31) (K' := K_laws_eqByteS_31) (st' := s_laws_eqByteS_31) [.num p0.length, .bit false] 1000 (And.intro (len_map (rI .u8) (show p0.length = p0.length from rfl)) (And.intro h15_0 True.intro)) ?_ (by kernel_rfl)
    exact hout (.inr ()) (Option.some.inj hm).symm

theorem ok_laws_eqByteS_0 (p0 : (List Int)) (p1 : (List Int)) (r : Bool) (hm : m_laws_eqByteS_0 p0 p1 = some r) : EvU ext tbl (.c c_laws_eqByteS_0) K_laws_eqByteS_0 (s_laws_eqByteS_0 p0 p1) (Post vf_laws_eqByteS (res_laws_eqByteS r)) := by
  obtain ⟨h0_0, hm⟩ | ⟨h0_0, hm⟩ := split_ite hm
  · skip
    exact go_end [.num p0.length, .num p1.length, .bit true] 1000 (And.intro (len_map (rI .u8) (show p0.length = p0.length from rfl)) (And.intro (len_map (rI .u8) (show p1.length = p1.length from rfl)) (And.intro h0_0 True.intro))) (congrArg res_laws_eqByteS (Option.some.inj hm)) (by kernel_rfl)
  · skip
    refine go_on (u' := .c c_laws_eqByteS_15) (K' := K_laws_eqByteS_15) (st' := s_laws_eqByteS_15 p0 p1 0) [.num p0.length, .num p1.length, .bit false] 1000 (And.intro (len_map (rI .u8) (show p0.length = p0.length from rfl)) (And.intro (len_map (rI .u8) (show p1.length = p1.length from rfl)) (And.intro h0_0 True.intro))) ?_ (by kernel_rfl)
    obtain ⟨e, he, hm⟩ := bind_some hm
    refine loop_rule (u := .c c_laws_eqByteS_15) (K := K_laws_eqByteS_15) (Q := (Post vf_laws_eqByteS (res_laws_eqByteS r))) (b := lp_laws_eqByteS_15 p0 p1) (We := O_laws_eqByteS_15 (Post vf_laws_eqByteS (res_laws_eqByteS r))) (stJ := fun s => s_laws_eqByteS_15 p0 p1 s) (s := 0) (fun s y hb hin hout => ok_laws_eqByteS_15 p0 p1 s y hb (Post vf_laws_eqByteS (res_laws_eqByteS r)) hin hout) he ?_
    rcases e with e | e
    · skip
      exact congrArg (fun r => Post vf_laws_eqByteS (res_laws_eqByteS r)) (Option.some.inj hm).symm
    · skip
      show EvU ext tbl (.c c_laws_eqByteS_31) K_laws_eqByteS_31 (s_laws_eqByteS_31) _
      exact ok_laws_eqByteS_31 r hm

theorem ok_laws_eqByteS (p0 : (List Int)) (p1 : (List Int)) (r : Bool) (hm : m_laws_eqByteS p0 p1 = some r) : Runs ext tbl 16 (as_laws_eqByteS p0 p1) (res_laws_eqByteS r) :=
  runs_of (vf := vf_laws_eqByteS) (by kernel_rfl) rfl (st := (enter vf_laws_eqByteS (as_laws_eqByteS p0 p1)).getD default) (by kernel_rfl) (go_on [] 1000 True.intro (ok_laws_eqByteS_0 p0 p1 r hm) (by kernel_rfl))
def O_laws_markByteS_7 (Q : VX → St → Prop) (e : (Int × (List Int))) : Prop := EvU ext tbl (.c c_laws_markByteS_19) K_laws_markByteS_19 (s_laws_markByteS_19 e.1 e.2) Q
theorem ok_laws_markByteS_19 (i19_0 : Int) (l19_1 : (List Int)) (r : Int × (List Int)) (hm : m_laws_markByteS_19 i19_0 l19_1 = some r) : EvU ext tbl (.c c_laws_markByteS_19) K_laws_markByteS_19 (s_laws_markByteS_19 i19_0 l19_1) (Post vf_laws_markByteS (res_laws_markByteS r)) := by
  exact go_end [] 1000 True.intro (congrArg res_laws_markByteS (Option.some.inj hm)) (by kernel_rfl)

theorem ok_laws_markByteS_7 (i7_0 : Int) (i7_1 : Int) (l7_2 : (List Int)) (y : (Int × Int × (List Int)) ⊕ ((Int × (List Int)))) (hm : m_laws_markByteS_7 i7_0 i7_1 l7_2 = some y) (Q : VX → St → Prop)
    (hin : ∀ s, y = .inl s → EvU ext tbl (.c c_laws_markByteS_7) K_laws_markByteS_7 (s_laws_markByteS_7 s.1 s.2.1 s.2.2) Q) (hout : ∀ e, y = .inr e → O_laws_markByteS_7 Q e) : EvU ext tbl (.c c_laws_markByteS_7) K_laws_markByteS_7 (s_laws_markByteS_7 i7_0 i7_1 l7_2) Q := by
  obtain ⟨h7_0, hm⟩ | ⟨h7_0, hm⟩ := split_ite hm
  · skip
    obtain ⟨x7_1, h7_1, hm⟩ := bind_some hm
    refine go_on (u' := .c c_laws_markByteS_7) (K' := K_laws_markByteS_7) (st' := s_laws_markByteS_7 (w64 (i7_0 + 1)) (w64 (i7_1 + 1)) (l7_2.set (0 + Int.toNat i7_1) (wr .u8 i7_0))) [.bit true, .rows (List.map (rI .u8) (l7_2.set (0 + Int.toNat i7_1) (wr .u8 i7_0))), .num ((l7_2.set (0 + Int.toNat i7_1) (wr .u8 i7_0)).length)] 1000 (And.intro h7_0 (And.intro (rd_in rfl h7_1) (And.intro (put_ob (rI .u8) (wr .u8 i7_0) 0 (.lit (.int .u8 (wr .u8 i7_0))) (rd_get0 h7_1) (by kernel_rfl) (by kernel_rfl)) (And.intro (lens l7_2.length ((l7_2.set (0 + Int.toNat i7_1) (wr .u8 i7_0)).length) (set_len rfl)) True.intro)))) ?_ (by kernel_rfl)
    exact hin ((w64 (i7_0 + 1)), (w64 (i7_1 + 1)), (l7_2.set (0 + Int.toNat i7_1) (wr .u8 i7_0))) (Option.some.inj hm).symm
  · skip
    refine go_on (u' := .c c_laws_markByteS_19) (K' := K_laws_markByteS_19) (st' := s_laws_markByteS_19 i7_0 l7_2) [.bit false, .num l7_2.length] 1000 (And.intro h7_0 (And.intro (lens l7_2.length l7_2.length rfl) True.intro)) ?_ (by kernel_rfl)
    exact hout (i7_0, l7_2) (Option.some.inj hm).symm

theorem ok_laws_markByteS_0 (p1 : Int) (p0 : (List Int)) (r : Int × (List Int)) (hm : m_laws_markByteS_0 p1 p0 = some r) : EvU ext tbl (.c c_laws_markByteS_0) K_laws_markByteS_0 (s_laws_markByteS_0 p1 p0) (Post vf_laws_markByteS (res_laws_markByteS r)) := by
  refine go_on (u' := .c c_laws_markByteS_7) (K' := K_laws_markByteS_7) (st' := s_laws_markByteS_7 p1 0 p0) [.num p0.length] 1000 (And.intro (lens p0.length p0.length rfl) True.intro) ?_ (by kernel_rfl)
  obtain ⟨e, he, hm⟩ := bind_some hm
  refine loop_rule (u := .c c_laws_markByteS_7) (K := K_laws_markByteS_7) (Q := (Post vf_laws_markByteS (res_laws_markByteS r))) (b := lp_laws_markByteS_7) (We := O_laws_markByteS_7 (Post vf_laws_markByteS (res_laws_markByteS r))) (stJ := fun s => s_laws_markByteS_7 s.1 s.2.1 s.2.2) (s := (p1, 0, p0)) (fun s y hb hin hout => ok_laws_markByteS_7 s.1 s.2.1 s.2.2 y hb (Post vf_laws_markByteS (res_laws_markByteS r)) hin hout) he ?_
  show EvU ext tbl (.c c_laws_markByteS_19) K_laws_markByteS_19 (s_laws_markByteS_19 e.1 e.2) _
  exact ok_laws_markByteS_19 e.1 e.2 r hm

theorem ok_laws_markByteS (p0 : (List Int)) (p1 : Int) (r : Int × (List Int)) (hm : m_laws_markByteS p0 p1 = some r) : Runs ext tbl 19 (as_laws_markByteS p0 p1) (res_laws_markByteS r) :=
  runs_of (vf := vf_laws_markByteS) (by kernel_rfl) rfl (st := (enter vf_laws_markByteS (as_laws_markByteS p0 p1)).getD default) (by kernel_rfl) (go_on [.num p0.length] 1000 (And.intro (len_map (rI .u8) (rfl : p0.length = p0.length)) True.intro) (ok_laws_markByteS_0 p1 p0 r hm) (by kernel_rfl))
def O_laws_markIntS_7 (Q : VX → St → Prop) (e : (Int × (List Int))) : Prop := EvU ext tbl (.c c_laws_markIntS_19) K_laws_markIntS_19 (s_laws_markIntS_19 e.1 e.2) Q
theorem ok_laws_markIntS_19 (i19_0 : Int) (l19_1 : (List Int)) (r : Int × (List Int)) (hm : m_laws_markIntS_19 i19_0 l19_1 = some r) : EvU ext tbl (.c c_laws_markIntS_19) K_laws_markIntS_19 (s_laws_markIntS_19 i19_0 l19_1) (Post vf_laws_markIntS (res_laws_markIntS r)) := by
  exact go_end [] 1000 True.intro (congrArg res_laws_markIntS (Option.some.inj hm)) (by kernel_rfl)

theorem ok_laws_markIntS_7 (i7_0 : Int) (i7_1 : Int) (l7_2 : (List Int)) (y : (Int × Int × (List Int)) ⊕ ((Int × (List Int)))) (hm : m_laws_markIntS_7 i7_0 i7_1 l7_2 = some y) (Q : VX → St → Prop)
    (hin : ∀ s, y = .inl s → EvU ext tbl (.c c_laws_markIntS_7) K_laws_markIntS_7 (s_laws_markIntS_7 s.1 s.2.1 s.2.2) Q) (hout : ∀ e, y = .inr e → O_laws_markIntS_7 Q e) : EvU ext tbl (.c c_laws_markIntS_7) K_laws_markIntS_7 (s_laws_markIntS_7 i7_0 i7_1 l7_2) Q := by
  obtain ⟨h7_0, hm⟩ | ⟨h7_0, hm⟩ := split_ite hm
  · skip
    obtain ⟨x7_1, h7_1, hm⟩ := bind_some hm
    refine go_on (u' := .c c_laws_markIntS_7) (K' := K_laws_markIntS_7) (st' := s_laws_markIntS_7 (w64 (i7_0 + 1)) (w64 (i7_1 + 1)) (l7_2.set (0 + Int.toNat i7_1) i7_0)) [.bit true, .rows (List.map (rI .i64) (l7_2.set (0 + Int.toNat i7_1) i7_0)), .num ((l7_2.set (0 + Int.toNat i7_1) i7_0).length)] 1000 (And.intro h7_0 (And.intro (rd_in rfl h7_1) (And.intro (put_ob (rI .i64) i7_0 0 (.lit (.int .i64 i7_0)) (rd_get0 h7_1) (by kernel_rfl) (by kernel_rfl)) (And.intro (lens l7_2.length ((l7_2.set (0 + Int.toNat i7_1) i7_0).length) (set_len rfl)) True.intro)))) ?_ (by kernel_rfl)
    exact hin ((w64 (i7_0 + 1)), (w64 (i7_1 + 1)), (l7_2.set (0 + Int.toNat i7_1) i7_0)) (Option.some.inj hm).symm
  · skip
    refine go_on (u' := .c c_laws_markIntS_19) (K' := K_laws_markIntS_19) (st' := s_laws_markIntS_19 i7_0 l7_2) [.bit false, .num l7_2.length] 1000 (And.intro h7_0 (And.intro (lens l7_2.length l7_2.length rfl) True.intro)) ?_ (by kernel_rfl)
    exact hout (i7_0, l7_2) (Option.some.inj hm).symm

theorem ok_laws_markIntS_0 (p1 : Int) (p0 : (List Int)) (r : Int × (List Int)) (hm : m_laws_markIntS_0 p1 p0 = some r) : EvU ext tbl (.c c_laws_markIntS_0) K_laws_markIntS_0 (s_laws_markIntS_0 p1 p0) (Post vf_laws_markIntS (res_laws_markIntS r)) := by
  refine go_on (u' := .c c_laws_markIntS_7) (K' := K_laws_markIntS_7) (st' := s_laws_markIntS_7 p1 0 p0) [.num p0.length] 1000 (And.intro (lens p0.length p0.length rfl) True.intro) ?_ (by kernel_rfl)
  obtain ⟨e, he, hm⟩ := bind_some hm
  refine loop_rule (u := .c c_laws_markIntS_7) (K := K_laws_markIntS_7) (Q := (Post vf_laws_markIntS (res_laws_markIntS r))) (b := lp_laws_markIntS_7) (We := O_laws_markIntS_7 (Post vf_laws_markIntS (res_laws_markIntS r))) (stJ := fun s => s_laws_markIntS_7 s.1 s.2.1 s.2.2) (s := (p1, 0, p0)) (fun s y hb hin hout => ok_laws_markIntS_7 s.1 s.2.1 s.2.2 y hb (Post vf_laws_markIntS (res_laws_markIntS r)) hin hout) he ?_
  show EvU ext tbl (.c c_laws_markIntS_19) K_laws_markIntS_19 (s_laws_markIntS_19 e.1 e.2) _
  exact ok_laws_markIntS_19 e.1 e.2 r hm

theorem ok_laws_markIntS (p0 : (List Int)) (p1 : Int) (r : Int × (List Int)) (hm : m_laws_markIntS p0 p1 = some r) : Runs ext tbl 63 (as_laws_markIntS p0 p1) (res_laws_markIntS r) :=
  runs_of (vf := vf_laws_markIntS) (by kernel_rfl) rfl (st := (enter vf_laws_markIntS (as_laws_markIntS p0 p1)).getD default) (by kernel_rfl) (go_on [.num p0.length] 1000 (And.intro (len_map (rI .i64) (rfl : p0.length = p0.length)) True.intro) (ok_laws_markIntS_0 p1 p0 r hm) (by kernel_rfl))
def O_laws_markIntSS_7 (Q : VX → St → Prop) (e : (Int × (List (List Int)))) : Prop := EvU ext tbl (.c c_laws_markIntSS_17) K_laws_markIntSS_17 (s_laws_markIntSS_17 e.1 e.2) Q
theorem ok_laws_markIntSS_17 (i17_0 : Int) (l17_1 : (List (List Int))) (r : Int × (List (List Int))) (hm : m_laws_markIntSS_17 i17_0 l17_1 = some r) : EvU ext tbl (.c c_laws_markIntSS_17) K_laws_markIntSS_17 (s_laws_markIntSS_17 i17_0 l17_1) (Post vf_laws_markIntSS (res_laws_markIntSS r)) := by
  exact go_end [] 1000 True.intro (congrArg res_laws_markIntSS (Option.some.inj hm)) (by kernel_rfl)

theorem ok_laws_markIntSS_7 (i7_0 : Int) (i7_1 : Int) (l7_2 : (List (List Int))) (y : (Int × Int × (List (List Int))) ⊕ ((Int × (List (List Int))))) (hm : m_laws_markIntSS_7 i7_0 i7_1 l7_2 = some y) (Q : VX → St → Prop)
    (hin : ∀ s, y = .inl s → EvU ext tbl (.c c_laws_markIntSS_7) K_laws_markIntSS_7 (s_laws_markIntSS_7 s.1 s.2.1 s.2.2) Q) (hout : ∀ e, y = .inr e → O_laws_markIntSS_7 Q e) : EvU ext tbl (.c c_laws_markIntSS_7) K_laws_markIntSS_7 (s_laws_markIntSS_7 i7_0 i7_1 l7_2) Q := by
  obtain ⟨h7_0, hm⟩ | ⟨h7_0, hm⟩ := split_ite hm
  · skip
    obtain ⟨x7_1, h7_1, hm⟩ := bind_some hm
    obtain ⟨x7_2, h7_2, hm⟩ := bind_some hm
    obtain ⟨x7_3, h7_3, hm⟩ := bind_some hm
    refine go_on (u' := .c c_laws_markIntSS_7) (K' := K_laws_markIntSS_7) (st' := s_laws_markIntSS_7 x7_2.1 (w64 (i7_1 + 1)) (l7_2.set (0 + Int.toNat i7_1) x7_2.2)) [.bit true, .row ((rL (rI .i64)) x7_1), .num x7_1.length, .row ((rL (rI .i64)) x7_1), .res (res_laws_markIntS x7_2), .row ((rL (rI .i64)) x7_1), .row ((rL (rI .i64)) x7_1), .rows (List.map (rL (rI .i64)) (l7_2.set (0 + Int.toNat i7_1) x7_2.2)), .num ((l7_2.set (0 + Int.toNat i7_1) x7_2.2).length)] 1000 (And.intro h7_0 (And.intro (rd_in rfl h7_1) (And.intro (at_row (rL (rI .i64)) (rd_get0 h7_1)) (And.intro (len_map (rI .i64) (show x7_1.length = x7_1.length from rfl)) (And.intro (at_row (rL (rI .i64)) (rd_get0 h7_1)) (And.intro (all_eq (rI .i64) x7_1 rfl) (And.intro (ok_laws_markIntS x7_1 i7_0 x7_2 h7_2) (And.intro (at_row (rL (rI .i64)) (rd_get0 h7_1)) (And.intro (len2 (rI .i64) x7_2.2 x7_1 (ck_p h7_3)) (And.intro (at_row (rL (rI .i64)) (rd_get0 h7_1)) (And.intro (upd_ob (rL (rI .i64)) l7_2 (0 + Int.toNat i7_1) x7_1 x7_2.2 0 (.sl (x7_2.2.map (rI .i64))) (by kernel_rfl)) (And.intro (lens l7_2.length ((l7_2.set (0 + Int.toNat i7_1) x7_2.2).length) (set_len rfl)) True.intro)))))))))))) ?_ (by kernel_rfl)
    exact hin (x7_2.1, (w64 (i7_1 + 1)), (l7_2.set (0 + Int.toNat i7_1) x7_2.2)) (Option.some.inj hm).symm
  · skip
    refine go_on (u' := .c c_laws_markIntSS_17) (K' := K_laws_markIntSS_17) (st' := s_laws_markIntSS_17 i7_0 l7_2) [.bit false, .num l7_2.length] 1000 (And.intro h7_0 (And.intro (lens l7_2.length l7_2.length rfl) True.intro)) ?_ (by kernel_rfl)
    exact hout (i7_0, l7_2) (Option.some.inj hm).symm

theorem ok_laws_markIntSS_0 (p1 : Int) (p0 : (List (List Int))) (r : Int × (List (List Int))) (hm : m_laws_markIntSS_0 p1 p0 = some r) : EvU ext tbl (.c c_laws_markIntSS_0) K_laws_markIntSS_0 (s_laws_markIntSS_0 p1 p0) (Post vf_laws_markIntSS (res_laws_markIntSS r)) := by
  refine go_on (u' := .c c_laws_markIntSS_7) (K' := K_laws_markIntSS_7) (st' := s_laws_markIntSS_7 p1 0 p0) [.num p0.length] 1000 (And.intro (lens p0.length p0.length rfl) True.intro) ?_ (by kernel_rfl)
  obtain ⟨e, he, hm⟩ := bind_some hm
  refine loop_rule (u := .c c_laws_markIntSS_7) (K := K_laws_markIntSS_7) (Q := (Post vf_laws_markIntSS (res_laws_markIntSS r))) (b := lp_laws_markIntSS_7) (We := O_laws_markIntSS_7 (Post vf_laws_markIntSS (res_laws_markIntSS r))) (stJ := fun s => s_laws_markIntSS_7 s.1 s.2.1 s.2.2) (s := (p1, 0, p0)) (fun s y hb hin hout => ok_laws_markIntSS_7 s.1 s.2.1 s.2.2 y hb (Post vf_laws_markIntSS (res_laws_markIntSS r)) hin hout) he ?_
  show EvU ext tbl (.c c_laws_markIntSS_17) K_laws_markIntSS_17 (s_laws_markIntSS_17 e.1 e.2) _
  exact ok_laws_markIntSS_17 e.1 e.2 r hm

theorem ok_laws_markIntSS (p0 : (List (List Int))) (p1 : Int) (r : Int × (List (List Int))) (hm : m_laws_markIntSS p0 p1 = some r) : Runs ext tbl 43 (as_laws_markIntSS p0 p1) (res_laws_markIntSS r) :=
  runs_of (vf := vf_laws_markIntSS) (by kernel_rfl) rfl (st := (enter vf_laws_markIntSS (as_laws_markIntSS p0 p1)).getD default) (by kernel_rfl) (go_on [.num p0.length] 1000 (And.intro (len_map (rL (rI .i64)) (rfl : p0.length = p0.length)) True.intro) (ok_laws_markIntSS_0 p1 p0 r hm) (by kernel_rfl))
theorem ok_laws_markTones_0 (p0 : S_Tones) (p1 : Int) (r : Int × S_Tones) (hm : m_laws_markTones_0 p0 p1 = some r) : EvU ext tbl (.c c_laws_markTones_0) K_laws_markTones_0 (s_laws_markTones_0 p0 p1) (Post vf_laws_markTones (res_laws_markTones r)) := by
  obtain ⟨x0_0, h0_0, hm⟩ := bind_some hm
  obtain ⟨x0_1, h0_1, hm⟩ := bind_some hm
  obtain ⟨x0_2, h0_2, hm⟩ := bind_some hm
  obtain ⟨x0_3, h0_3, hm⟩ := bind_some hm
  exact go_end [.res (res_laws_markIntSS x0_0), .res (res_laws_markIntSS x0_2)] 1000 (And.intro (all_eq (rL (rI .i64)) p0.slots rfl) (And.intro (ok_laws_markIntSS p0.slots p1 x0_0 h0_0) (And.intro (len2 (rL (rI .i64)) x0_0.2 p0.slots (ck_p h0_1)) (And.intro (all_eq (rL (rI .i64)) p0.grades rfl) (And.intro (ok_laws_markIntSS p0.grades x0_0.1 x0_2 h0_2) (And.intro (len2 (rL (rI .i64)) x0_2.2 p0.grades (ck_p h0_3)) True.intro)))))) (congrArg res_laws_markTones (Option.some.inj hm)) (by kernel_rfl)

theorem ok_laws_markTones (p0 : S_Tones) (p1 : Int) (r : Int × S_Tones) (hm : m_laws_markTones p0 p1 = some r) : Runs ext tbl 18 (as_laws_markTones p0 p1) (res_laws_markTones r) :=
  runs_of (vf := vf_laws_markTones) (by kernel_rfl) rfl (st := (enter vf_laws_markTones (as_laws_markTones p0 p1)).getD default) (by kernel_rfl) (go_on [.num p0.slots.length, .num p0.grades.length] 1000 (And.intro (len_map (rL (rI .i64)) (rfl : p0.slots.length = p0.slots.length)) (And.intro (len_map (rL (rI .i64)) (rfl : p0.grades.length = p0.grades.length)) True.intro)) (ok_laws_markTones_0 p0 p1 r hm) (by kernel_rfl))
def O_laws_heldIntS_7 (Q : VX → St → Prop) (e : (Int) ⊕ ((Int))) : Prop := match e with | .inl e => Q = Post vf_laws_heldIntS (res_laws_heldIntS e) | .inr e => EvU ext tbl (.c c_laws_heldIntS_25) K_laws_heldIntS_25 (s_laws_heldIntS_25 e) Q
theorem ok_laws_heldIntS_25 (i25_0 : Int) (r : Int) (hm : m_laws_heldIntS_25 i25_0 = some r) : EvU ext tbl (.c c_laws_heldIntS_25) K_laws_heldIntS_25 (s_laws_heldIntS_25 i25_0) (Post vf_laws_heldIntS (res_laws_heldIntS r)) := by
  exact go_end [] 1000 True.intro (congrArg res_laws_heldIntS (Option.some.inj hm)) (by kernel_rfl)

theorem ok_laws_heldIntS_7 (p0 : (List Int)) (i7_0 : Int) (i7_1 : Int) (y : (Int × Int) ⊕ ((Int) ⊕ ((Int)))) (hm : m_laws_heldIntS_7 p0 i7_0 i7_1 = some y) (Q : VX → St → Prop)
    (hin : ∀ s, y = .inl s → EvU ext tbl (.c c_laws_heldIntS_7) K_laws_heldIntS_7 (s_laws_heldIntS_7 p0 s.1 s.2) Q) (hout : ∀ e, y = .inr e → O_laws_heldIntS_7 Q e) : EvU ext tbl (.c c_laws_heldIntS_7) K_laws_heldIntS_7 (s_laws_heldIntS_7 p0 i7_0 i7_1) Q := by
  obtain ⟨h7_0, hm⟩ | ⟨h7_0, hm⟩ := split_ite hm
  · skip
    obtain ⟨x7_1, h7_1, hm⟩ := bind_some hm
    obtain ⟨h7_2, hm⟩ | ⟨h7_2, hm⟩ := split_ite hm
    · skip
      have hQ : Q = Post vf_laws_heldIntS (res_laws_heldIntS (-1)) := hout (.inl (-1)) (Option.some.inj hm).symm
      subst hQ
      exact go_end [.num p0.length, .bit true, .row ((rI .i64) x7_1), .bit true] 1000 (And.intro (len_map (rI .i64) (show p0.length = p0.length from rfl)) (And.intro h7_0 (And.intro (rd_nn h7_1) (And.intro (at_row (rI .i64) (rd_get h7_1)) (And.intro h7_2 True.intro))))) (rfl : res_laws_heldIntS (-1) = res_laws_heldIntS (-1)) (by kernel_rfl)
    · skip
      refine go_on (u' := .c c_laws_heldIntS_7) (K' := K_laws_heldIntS_7) (st' := s_laws_heldIntS_7 p0 (w64 (i7_0 + 1)) (w64 (i7_1 + 1))) [.num p0.length, .bit true, .row ((rI .i64) x7_1), .bit false] 1000 (And.intro (len_map (rI .i64) (show p0.length = p0.length from rfl)) (And.intro h7_0 (And.intro (rd_nn h7_1) (And.intro (at_row (rI .i64) (rd_get h7_1)) (And.intro h7_2 True.intro))))) ?_ (by kernel_rfl)
      exact hin ((w64 (i7_0 + 1)), (w64 (i7_1 + 1))) (Option.some.inj hm).symm
  · skip
    refine go_on (u' := .c c_laws_heldIntS_25) (K' := K_laws_heldIntS_25) (st' := s_laws_heldIntS_25 i7_0) [.num p0.length, .bit false] 1000 (And.intro (len_map (rI .i64) (show p0.length = p0.length from rfl)) (And.intro h7_0 True.intro)) ?_ (by kernel_rfl)
    exact hout (.inr i7_0) (Option.some.inj hm).symm

theorem ok_laws_heldIntS_0 (p0 : (List Int)) (p1 : Int) (r : Int) (hm : m_laws_heldIntS_0 p0 p1 = some r) : EvU ext tbl (.c c_laws_heldIntS_0) K_laws_heldIntS_0 (s_laws_heldIntS_0 p0 p1) (Post vf_laws_heldIntS (res_laws_heldIntS r)) := by
  refine go_on (u' := .c c_laws_heldIntS_7) (K' := K_laws_heldIntS_7) (st' := s_laws_heldIntS_7 p0 p1 0) [] 1000 True.intro ?_ (by kernel_rfl)
  obtain ⟨e, he, hm⟩ := bind_some hm
  refine loop_rule (u := .c c_laws_heldIntS_7) (K := K_laws_heldIntS_7) (Q := (Post vf_laws_heldIntS (res_laws_heldIntS r))) (b := lp_laws_heldIntS_7 p0) (We := O_laws_heldIntS_7 (Post vf_laws_heldIntS (res_laws_heldIntS r))) (stJ := fun s => s_laws_heldIntS_7 p0 s.1 s.2) (s := (p1, 0)) (fun s y hb hin hout => ok_laws_heldIntS_7 p0 s.1 s.2 y hb (Post vf_laws_heldIntS (res_laws_heldIntS r)) hin hout) he ?_
  rcases e with e | e
  · skip
    exact congrArg (fun r => Post vf_laws_heldIntS (res_laws_heldIntS r)) (Option.some.inj hm).symm
  · skip
    show EvU ext tbl (.c c_laws_heldIntS_25) K_laws_heldIntS_25 (s_laws_heldIntS_25 e) _
    exact ok_laws_heldIntS_25 e r hm

theorem ok_laws_heldIntS (p0 : (List Int)) (p1 : Int) (r : Int) (hm : m_laws_heldIntS p0 p1 = some r) : Runs ext tbl 64 (as_laws_heldIntS p0 p1) (res_laws_heldIntS r) :=
  runs_of (vf := vf_laws_heldIntS) (by kernel_rfl) rfl (st := (enter vf_laws_heldIntS (as_laws_heldIntS p0 p1)).getD default) (by kernel_rfl) (go_on [] 1000 True.intro (ok_laws_heldIntS_0 p0 p1 r hm) (by kernel_rfl))
def O_laws_heldIntSS_7 (Q : VX → St → Prop) (e : (Int) ⊕ ((Int))) : Prop := match e with | .inl e => Q = Post vf_laws_heldIntSS (res_laws_heldIntSS e) | .inr e => EvU ext tbl (.c c_laws_heldIntSS_25) K_laws_heldIntSS_25 (s_laws_heldIntSS_25 e) Q
theorem ok_laws_heldIntSS_25 (i25_0 : Int) (r : Int) (hm : m_laws_heldIntSS_25 i25_0 = some r) : EvU ext tbl (.c c_laws_heldIntSS_25) K_laws_heldIntSS_25 (s_laws_heldIntSS_25 i25_0) (Post vf_laws_heldIntSS (res_laws_heldIntSS r)) := by
  exact go_end [] 1000 True.intro (congrArg res_laws_heldIntSS (Option.some.inj hm)) (by kernel_rfl)

theorem ok_laws_heldIntSS_7 (p0 : (List (List Int))) (i7_0 : Int) (i7_1 : Int) (y : (Int × Int) ⊕ ((Int) ⊕ ((Int)))) (hm : m_laws_heldIntSS_7 p0 i7_0 i7_1 = some y) (Q : VX → St → Prop)
    (hin : ∀ s, y = .inl s → EvU ext tbl (.c c_laws_heldIntSS_7) K_laws_heldIntSS_7 (s_laws_heldIntSS_7 p0 s.1 s.2) Q) (hout : ∀ e, y = .inr e → O_laws_heldIntSS_7 Q e) : EvU ext tbl (.c c_laws_heldIntSS_7) K_laws_heldIntSS_7 (s_laws_heldIntSS_7 p0 i7_0 i7_1) Q := by
  obtain ⟨h7_0, hm⟩ | ⟨h7_0, hm⟩ := split_ite hm
  · skip
    obtain ⟨x7_1, h7_1, hm⟩ := bind_some hm
    obtain ⟨x7_2, h7_2, hm⟩ := bind_some hm
    obtain ⟨h7_3, hm⟩ | ⟨h7_3, hm⟩ := split_ite hm
    · skip
      have hQ : Q = Post vf_laws_heldIntSS (res_laws_heldIntSS (-1)) := hout (.inl (-1)) (Option.some.inj hm).symm
      subst hQ
      exact go_end [.num p0.length, .bit true, .row ((rL (rI .i64)) x7_1), .res (res_laws_heldIntS x7_2), .bit true] 1000 (And.intro (len_map (rL (rI .i64)) (show p0.length = p0.length from rfl)) (And.intro h7_0 (And.intro (rd_nn h7_1) (And.intro (at_row (rL (rI .i64)) (rd_get h7_1)) (And.intro (ok_laws_heldIntS x7_1 i7_0 x7_2 h7_2) (And.intro h7_3 True.intro)))))) (rfl : res_laws_heldIntSS (-1) = res_laws_heldIntSS (-1)) (by kernel_rfl)
    · skip
      refine go_on (u' := .c c_laws_heldIntSS_7) (K' := K_laws_heldIntSS_7) (st' := s_laws_heldIntSS_7 p0 x7_2 (w64 (i7_1 + 1))) [.num p0.length, .bit true, .row ((rL (rI .i64)) x7_1), .res (res_laws_heldIntS x7_2), .bit false] 1000 (And.intro (len_map (rL (rI .i64)) (show p0.length = p0.length from rfl)) (And.intro h7_0 (And.intro (rd_nn h7_1) (And.intro (at_row (rL (rI .i64)) (rd_get h7_1)) (And.intro (ok_laws_heldIntS x7_1 i7_0 x7_2 h7_2) (And.intro h7_3 True.intro)))))) ?_ (by kernel_rfl)
      exact hin (x7_2, (w64 (i7_1 + 1))) (Option.some.inj hm).symm
  · skip
    refine go_on (u' := .c c_laws_heldIntSS_25) (K' := K_laws_heldIntSS_25) (st' := s_laws_heldIntSS_25 i7_0) [.num p0.length, .bit false] 1000 (And.intro (len_map (rL (rI .i64)) (show p0.length = p0.length from rfl)) (And.intro h7_0 True.intro)) ?_ (by kernel_rfl)
    exact hout (.inr i7_0) (Option.some.inj hm).symm

theorem ok_laws_heldIntSS_0 (p0 : (List (List Int))) (p1 : Int) (r : Int) (hm : m_laws_heldIntSS_0 p0 p1 = some r) : EvU ext tbl (.c c_laws_heldIntSS_0) K_laws_heldIntSS_0 (s_laws_heldIntSS_0 p0 p1) (Post vf_laws_heldIntSS (res_laws_heldIntSS r)) := by
  refine go_on (u' := .c c_laws_heldIntSS_7) (K' := K_laws_heldIntSS_7) (st' := s_laws_heldIntSS_7 p0 p1 0) [] 1000 True.intro ?_ (by kernel_rfl)
  obtain ⟨e, he, hm⟩ := bind_some hm
  refine loop_rule (u := .c c_laws_heldIntSS_7) (K := K_laws_heldIntSS_7) (Q := (Post vf_laws_heldIntSS (res_laws_heldIntSS r))) (b := lp_laws_heldIntSS_7 p0) (We := O_laws_heldIntSS_7 (Post vf_laws_heldIntSS (res_laws_heldIntSS r))) (stJ := fun s => s_laws_heldIntSS_7 p0 s.1 s.2) (s := (p1, 0)) (fun s y hb hin hout => ok_laws_heldIntSS_7 p0 s.1 s.2 y hb (Post vf_laws_heldIntSS (res_laws_heldIntSS r)) hin hout) he ?_
  rcases e with e | e
  · skip
    exact congrArg (fun r => Post vf_laws_heldIntSS (res_laws_heldIntSS r)) (Option.some.inj hm).symm
  · skip
    show EvU ext tbl (.c c_laws_heldIntSS_25) K_laws_heldIntSS_25 (s_laws_heldIntSS_25 e) _
    exact ok_laws_heldIntSS_25 e r hm

theorem ok_laws_heldIntSS (p0 : (List (List Int))) (p1 : Int) (r : Int) (hm : m_laws_heldIntSS p0 p1 = some r) : Runs ext tbl 44 (as_laws_heldIntSS p0 p1) (res_laws_heldIntSS r) :=
  runs_of (vf := vf_laws_heldIntSS) (by kernel_rfl) rfl (st := (enter vf_laws_heldIntSS (as_laws_heldIntSS p0 p1)).getD default) (by kernel_rfl) (go_on [] 1000 True.intro (ok_laws_heldIntSS_0 p0 p1 r hm) (by kernel_rfl))
theorem ok_laws_heldTones_0 (p0 : S_Tones) (p1 : Int) (r : Int) (hm : m_laws_heldTones_0 p0 p1 = some r) : EvU ext tbl (.c c_laws_heldTones_0) K_laws_heldTones_0 (s_laws_heldTones_0 p0 p1) (Post vf_laws_heldTones (res_laws_heldTones r)) := by
  obtain ⟨x0_0, h0_0, hm⟩ := bind_some hm
  obtain ⟨h0_1, hm⟩ | ⟨h0_1, hm⟩ := split_ite hm
  · skip
    exact go_end [.res (res_laws_heldIntSS x0_0), .bit true] 1000 (And.intro (ok_laws_heldIntSS p0.slots p1 x0_0 h0_0) (And.intro h0_1 True.intro)) (congrArg res_laws_heldTones (Option.some.inj hm)) (by kernel_rfl)
  · skip
    obtain ⟨x0_2, h0_2, hm⟩ := bind_some hm
    obtain ⟨h0_3, hm⟩ | ⟨h0_3, hm⟩ := split_ite hm
    · skip
      exact go_end [.res (res_laws_heldIntSS x0_0), .bit false, .res (res_laws_heldIntSS x0_2), .bit true] 1000 (And.intro (ok_laws_heldIntSS p0.slots p1 x0_0 h0_0) (And.intro h0_1 (And.intro (ok_laws_heldIntSS p0.grades x0_0 x0_2 h0_2) (And.intro h0_3 True.intro)))) (congrArg res_laws_heldTones (Option.some.inj hm)) (by kernel_rfl)
    · skip
      exact go_end [.res (res_laws_heldIntSS x0_0), .bit false, .res (res_laws_heldIntSS x0_2), .bit false] 1000 (And.intro (ok_laws_heldIntSS p0.slots p1 x0_0 h0_0) (And.intro h0_1 (And.intro (ok_laws_heldIntSS p0.grades x0_0 x0_2 h0_2) (And.intro h0_3 True.intro)))) (congrArg res_laws_heldTones (Option.some.inj hm)) (by kernel_rfl)

theorem ok_laws_heldTones (p0 : S_Tones) (p1 : Int) (r : Int) (hm : m_laws_heldTones p0 p1 = some r) : Runs ext tbl 24 (as_laws_heldTones p0 p1) (res_laws_heldTones r) :=
  runs_of (vf := vf_laws_heldTones) (by kernel_rfl) rfl (st := (enter vf_laws_heldTones (as_laws_heldTones p0 p1)).getD default) (by kernel_rfl) (go_on [] 1000 True.intro (ok_laws_heldTones_0 p0 p1 r hm) (by kernel_rfl))
theorem ok_laws_FnExactDecodeTones_0 (p0 : (List Int)) (r : Bool) (hm : m_laws_FnExactDecodeTones_0 p0 = some r) : EvU ext tbl (.c c_laws_FnExactDecodeTones_0) K_laws_FnExactDecodeTones_0 (s_laws_FnExactDecodeTones_0 p0) (Post vf_laws_FnExactDecodeTones (res_laws_FnExactDecodeTones r)) := by
  obtain ⟨h0_0, hm⟩ | ⟨h0_0, hm⟩ := split_ite hm
  · skip
    exact go_end [.num p0.length, .bit true] 1000 (And.intro (len_map (rI .u8) (show p0.length = p0.length from rfl)) (And.intro h0_0 True.intro)) (congrArg res_laws_FnExactDecodeTones (Option.some.inj hm)) (by kernel_rfl)
  · skip
    obtain ⟨x0_1, h0_1, hm⟩ := bind_some hm
    obtain ⟨x0_2, h0_2, hm⟩ := bind_some hm
    obtain ⟨x0_3, h0_3, hm⟩ := bind_some hm
    obtain ⟨h0_4, hm⟩ | ⟨h0_4, hm⟩ := split_ite hm
    · skip
      exact go_end [.num p0.length, .bit false, .res (res_laws_toByteS x0_1), .num x0_1.length, .rows (List.map (rI .u8) x0_1), .res (res_spec_DecodeTones x0_2), .num x0_2.2.slots.length, .num x0_2.2.grades.length, .res (res_laws_toByteS x0_1), .num x0_1.length, .rows (List.map (rI .u8) x0_1), .res (res_impl_DecodeTones x0_3), .num x0_3.2.slots.length, .num x0_3.2.grades.length, .bit true, .bit true, .bit true, .bit true, .bit true, .bit true] 1000 (And.intro (len_map (rI .u8) (show p0.length = p0.length from rfl)) (And.intro h0_0 (And.intro (ok_laws_toByteS p0 x0_1 h0_1) (And.intro (len_map (rI .u8) (show x0_1.length = x0_1.length from rfl)) (And.intro (all_le (rI .u8) x0_1 rfl) (And.intro (all_dt (rI .u8) x0_1 rfl) (And.intro (ok_spec_DecodeTones x0_1 x0_2 h0_2) (And.intro (len_map (rL (rI .i64)) (show x0_2.2.slots.length = x0_2.2.slots.length from rfl)) (And.intro (len_map (rL (rI .i64)) (show x0_2.2.grades.length = x0_2.2.grades.length from rfl)) (And.intro (ok_laws_toByteS p0 x0_1 h0_1) (And.intro (len_map (rI .u8) (show x0_1.length = x0_1.length from rfl)) (And.intro (all_le (rI .u8) x0_1 rfl) (And.intro (all_dt (rI .u8) x0_1 rfl) (And.intro (ok_impl_DecodeTones x0_1 x0_3 h0_3) (And.intro (len_map (rL (rI .i64)) (show x0_3.2.slots.length = x0_3.2.slots.length from rfl)) (And.intro (len_map (rL (rI .i64)) (show x0_3.2.grades.length = x0_3.2.grades.length from rfl)) (And.intro h0_4 (And.intro h0_4 (And.intro h0_4 (And.intro h0_4 (And.intro h0_4 (And.intro (Eq.refl true) True.intro)))))))))))))))))))))) (congrArg res_laws_FnExactDecodeTones (Option.some.inj hm)) (by kernel_rfl)
    · skip
      obtain ⟨x0_5, h0_5, hm⟩ := bind_some hm
      obtain ⟨h0_6, hm⟩ | ⟨h0_6, hm⟩ := split_ite hm
      · skip
        obtain ⟨x0_7, h0_7, hm⟩ := bind_some hm
        obtain ⟨h0_8, hm⟩ | ⟨h0_8, hm⟩ := split_ite hm
        · skip
          obtain ⟨x0_9, h0_9, hm⟩ := bind_some hm
          obtain ⟨x0_10, h0_10, hm⟩ := bind_some hm
          obtain ⟨h0_11, hm⟩ | ⟨h0_11, hm⟩ := split_ite hm
          · skip
            exact go_end [.num p0.length, .bit false, .res (res_laws_toByteS x0_1), .num x0_1.length, .rows (List.map (rI .u8) x0_1), .res (res_spec_DecodeTones x0_2), .num x0_2.2.slots.length, .num x0_2.2.grades.length, .res (res_laws_toByteS x0_1), .num x0_1.length, .rows (List.map (rI .u8) x0_1), .res (res_impl_DecodeTones x0_3), .num x0_3.2.slots.length, .num x0_3.2.grades.length, .bit false, .bit false, .bit false, .rows (List.map (rL (rI .i64)) x0_3.2.slots), .rows (List.map (rL (rI .i64)) x0_3.2.grades), .rows (List.map (rL (rI .i64)) x0_2.2.slots), .rows (List.map (rL (rI .i64)) x0_2.2.grades), .res (res_laws_eqTones x0_5), .bit false, .bit false, .bit false, .res (res_laws_toByteS x0_1), .num x0_1.length, .rows (List.map (rI .u8) x0_1), .rows (List.map (rI .u8) x0_1), .res (res_laws_eqByteS x0_7), .bit false, .res (res_laws_markByteS x0_9), .bit true, .bit true, .bit true, .bit true, .bit true, .bit true, .bit true, .bit true, .bit true, .bit true] 1000 (And.intro (len_map (rI .u8) (show p0.length = p0.length from rfl)) (And.intro h0_0 (And.intro (ok_laws_toByteS p0 x0_1 h0_1) (And.intro (len_map (rI .u8) (show x0_1.length = x0_1.length from rfl)) (And.intro (all_le (rI .u8) x0_1 rfl) (And.intro (all_dt (rI .u8) x0_1 rfl) (And.intro (ok_spec_DecodeTones x0_1 x0_2 h0_2) (And.intro (len_map (rL (rI .i64)) (show x0_2.2.slots.length = x0_2.2.slots.length from rfl)) (And.intro (len_map (rL (rI .i64)) (show x0_2.2.grades.length = x0_2.2.grades.length from rfl)) (And.intro (ok_laws_toByteS p0 x0_1 h0_1) (And.intro (len_map (rI .u8) (show x0_1.length = x0_1.length from rfl)) (And.intro (all_le (rI .u8) x0_1 rfl) (And.intro (all_dt (rI .u8) x0_1 rfl) (And.intro (ok_impl_DecodeTones x0_1 x0_3 h0_3) (And.intro (len_map (rL (rI .i64)) (show x0_3.2.slots.length = x0_3.2.slots.length from rfl)) (And.intro (len_map (rL (rI .i64)) (show x0_3.2.grades.length = x0_3.2.grades.length from rfl)) (And.intro h0_4 (And.intro h0_4 (And.intro h0_4 (And.intro (all_le (rL (rI .i64)) x0_3.2.slots rfl) (And.intro (all_dt (rL (rI .i64)) x0_3.2.slots rfl) (And.intro (all_le (rL (rI .i64)) x0_3.2.grades rfl) (And.intro (all_dt (rL (rI .i64)) x0_3.2.grades rfl) (And.intro (all_le (rL (rI .i64)) x0_2.2.slots rfl) (And.intro (all_dt (rL (rI .i64)) x0_2.2.slots rfl) (And.intro (all_le (rL (rI .i64)) x0_2.2.grades rfl) (And.intro (all_dt (rL (rI .i64)) x0_2.2.grades rfl) (And.intro (ok_laws_eqTones x0_3.2 x0_2.2 x0_5 h0_5) (And.intro h0_4 (And.intro h0_4 (And.intro (not_f h0_6) (And.intro (ok_laws_toByteS p0 x0_1 h0_1) (And.intro (len_map (rI .u8) (show x0_1.length = x0_1.length from rfl)) (And.intro (all_le (rI .u8) x0_1 rfl) (And.intro (all_dt (rI .u8) x0_1 rfl) (And.intro (all_le (rI .u8) x0_1 rfl) (And.intro (all_dt (rI .u8) x0_1 rfl) (And.intro (ok_laws_eqByteS x0_1 x0_1 x0_7 h0_7) (And.intro (not_f h0_8) (And.intro (all_eq (rI .u8) x0_1 rfl) (And.intro (ok_laws_markByteS x0_1 1 x0_9 h0_9) (And.intro (len2 (rI .u8) x0_9.2 x0_1 (ck_p h0_10)) (And.intro h0_11 (And.intro h0_11 (And.intro h0_11 (And.intro h0_11 (And.intro (Eq.refl true) (And.intro (Eq.refl true) (And.intro (Eq.refl true) (And.intro (Eq.refl true) (And.intro (Eq.refl true) (And.intro (Eq.refl true) True.intro)))))))))))))))))))))))))))))))))))))))))))))))))))) (congrArg res_laws_FnExactDecodeTones (Option.some.inj hm)) (by kernel_rfl)
          · skip
            obtain ⟨x0_12, h0_12, hm⟩ := bind_some hm
            obtain ⟨x0_13, h0_13, hm⟩ := bind_some hm
            obtain ⟨x0_14, h0_14, hm⟩ := bind_some hm
            obtain ⟨x0_15, h0_15, hm⟩ := bind_some hm
            obtain ⟨h0_16, hm⟩ | ⟨h0_16, hm⟩ := split_ite hm
            · skip
              exact go_end [.num p0.length, .bit false, .res (res_laws_toByteS x0_1), .num x0_1.length, .rows (List.map (rI .u8) x0_1), .res (res_spec_DecodeTones x0_2), .num x0_2.2.slots.length, .num x0_2.2.grades.length, .res (res_laws_toByteS x0_1), .num x0_1.length, .rows (List.map (rI .u8) x0_1), .res (res_impl_DecodeTones x0_3), .num x0_3.2.slots.length, .num x0_3.2.grades.length, .bit false, .bit false, .bit false, .rows (List.map (rL (rI .i64)) x0_3.2.slots), .rows (List.map (rL (rI .i64)) x0_3.2.grades), .rows (List.map (rL (rI .i64)) x0_2.2.slots), .rows (List.map (rL (rI .i64)) x0_2.2.grades), .res (res_laws_eqTones x0_5), .bit false, .bit false, .bit false, .res (res_laws_toByteS x0_1), .num x0_1.length, .rows (List.map (rI .u8) x0_1), .rows (List.map (rI .u8) x0_1), .res (res_laws_eqByteS x0_7), .bit false, .res (res_laws_markByteS x0_9), .bit false, .bit false, .bit false, .bit false, .bit false, .bit false, .bit false, .rows (List.map (rL (rI .i64)) x0_3.2.slots), .rows (List.map (rL (rI .i64)) x0_3.2.grades), .rows (List.map (rL (rI .i64)) x0_2.2.slots), .rows (List.map (rL (rI .i64)) x0_2.2.grades), .res (res_laws_eqTones x0_5), .bit false, .bit false, .bit false, .rows (List.map (rL (rI .i64)) x0_3.2.slots), .rows (List.map (rL (rI .i64)) x0_3.2.grades), .res (res_laws_markTones x0_12), .rows (List.map (rL (rI .i64)) x0_12.2.slots), .rows (List.map (rL (rI .i64)) x0_12.2.grades), .res (res_laws_heldTones x0_15), .bit true] 1000 (And.intro (len_map (rI .u8) (show p0.length = p0.length from rfl)) (And.intro h0_0 (And.intro (ok_laws_toByteS p0 x0_1 h0_1) (And.intro (len_map (rI .u8) (show x0_1.length = x0_1.length from rfl)) (And.intro (all_le (rI .u8) x0_1 rfl) (And.intro (all_dt (rI .u8) x0_1 rfl) (And.intro (ok_spec_DecodeTones x0_1 x0_2 h0_2) (And.intro (len_map (rL (rI .i64)) (show x0_2.2.slots.length = x0_2.2.slots.length from rfl)) (And.intro (len_map (rL (rI .i64)) (show x0_2.2.grades.length = x0_2.2.grades.length from rfl)) (And.intro (ok_laws_toByteS p0 x0_1 h0_1) (And.intro (len_map (rI .u8) (show x0_1.length = x0_1.length from rfl)) (And.intro (all_le (rI .u8) x0_1 rfl) (And.intro (all_dt (rI .u8) x0_1 rfl) (And.intro (ok_impl_DecodeTones x0_1 x0_3 h0_3) (And.intro (len_map (rL (rI .i64)) (show x0_3.2.slots.length = x0_3.2.slots.length from rfl)) (And.intro (len_map (rL (rI .i64)) (show x0_3.2.grades.length = x0_3.2.grades.length from rfl)) (And.intro h0_4 (And.intro h0_4 (And.intro h0_4 (And.intro (all_le (rL (rI .i64)) x0_3.2.slots rfl) (And.intro (all_dt (rL (rI .i64)) x0_3.2.slots rfl) (And.intro (all_le (rL (rI .i64)) x0_3.2.grades rfl) (And.intro (all_dt (rL (rI .i64)) x0_3.2.grades rfl) (And.intro (all_le (rL (rI .i64)) x0_2.2.slots rfl) (And.intro (all_dt (rL (rI .i64)) x0_2.2.slots rfl) (And.intro (all_le (rL (rI .i64)) x0_2.2.grades rfl) (And.intro (all_dt (rL (rI .i64)) x0_2.2.grades rfl) (And.intro (ok_laws_eqTones x0_3.2 x0_2.2 x0_5 h0_5) (And.intro h0_4 (And.intro h0_4 (And.intro (not_f h0_6) (And.intro (ok_laws_toByteS p0 x0_1 h0_1) (And.intro (len_map (rI .u8) (show x0_1.length = x0_1.length from rfl)) (And.intro (all_le (rI .u8) x0_1 rfl) (And.intro (all_dt (rI .u8) x0_1 rfl) (And.intro (all_le (rI .u8) x0_1 rfl) (And.intro (all_dt (rI .u8) x0_1 rfl) (And.intro (ok_laws_eqByteS x0_1 x0_1 x0_7 h0_7) (And.intro (not_f h0_8) (And.intro (all_eq (rI .u8) x0_1 rfl) (And.intro (ok_laws_markByteS x0_1 1 x0_9 h0_9) (And.intro (len2 (rI .u8) x0_9.2 x0_1 (ck_p h0_10)) (And.intro h0_11 (And.intro h0_11 (And.intro h0_11 (And.intro h0_11 (And.intro h0_4 (And.intro h0_4 (And.intro h0_4 (And.intro (all_le (rL (rI .i64)) x0_3.2.slots rfl) (And.intro (all_dt (rL (rI .i64)) x0_3.2.slots rfl) (And.intro (all_le (rL (rI .i64)) x0_3.2.grades rfl) (And.intro (all_dt (rL (rI .i64)) x0_3.2.grades rfl) (And.intro (all_le (rL (rI .i64)) x0_2.2.slots rfl) (And.intro (all_dt (rL (rI .i64)) x0_2.2.slots rfl) (And.intro (all_le (rL (rI .i64)) x0_2.2.grades rfl) (And.intro (all_dt (rL (rI .i64)) x0_2.2.grades rfl) (And.intro (ok_laws_eqTones x0_3.2 x0_2.2 x0_5 h0_5) (And.intro h0_4 (And.intro h0_4 (And.intro (not_f h0_6) (And.intro (all_le0 (rL (rI .i64)) x0_3.2.slots rfl) (And.intro (all_t (rL (rI .i64)) x0_3.2.slots rfl) (And.intro (all_le0 (rL (rI .i64)) x0_3.2.grades rfl) (And.intro (all_t (rL (rI .i64)) x0_3.2.grades rfl) (And.intro (all_eq (rL (rI .i64)) x0_3.2.slots rfl) (And.intro (all_eq (rL (rI .i64)) x0_3.2.grades rfl) (And.intro (ok_laws_markTones x0_3.2 1 x0_12 h0_12) (And.intro (len2 (rL (rI .i64)) x0_12.2.slots x0_3.2.slots (ck_p h0_13)) (And.intro (len2 (rL (rI .i64)) x0_12.2.grades x0_3.2.grades (ck_p h0_14)) (And.intro (all_le (rL (rI .i64)) x0_12.2.slots (Eq.trans rfl (Eq.symm (ck_p h0_13)))) (And.intro (all_dt (rL (rI .i64)) x0_12.2.slots (Eq.trans rfl (Eq.symm (ck_p h0_13)))) (And.intro (all_le (rL (rI .i64)) x0_12.2.grades (Eq.trans rfl (Eq.symm (ck_p h0_14)))) (And.intro (all_dt (rL (rI .i64)) x0_12.2.grades (Eq.trans rfl (Eq.symm (ck_p h0_14)))) (And.intro (ok_laws_heldTones (S_Tones.mk x0_3.2.rate x0_3.2.quality x0_3.2.length x0_12.2.slots x0_12.2.grades) 1 x0_15 h0_15) (And.intro h0_16 True.intro)))))))))))))))))))))))))))))))))))))))))))))))))))))))))))))))))))))))))))) (congrArg res_laws_FnExactDecodeTones (Option.some.inj hm)) (by kernel_rfl)
            · skip
              obtain ⟨h0_17, hm⟩ | ⟨h0_17, hm⟩ := split_ite hm
              · skip
                exact go_end [.num p0.length, .bit false, .res (res_laws_toByteS x0_1), .num x0_1.length, .rows (List.map (rI .u8) x0_1), .res (res_spec_DecodeTones x0_2), .num x0_2.2.slots.length, .num x0_2.2.grades.length, .res (res_laws_toByteS x0_1), .num x0_1.length, .rows (List.map (rI .u8) x0_1), .res (res_impl_DecodeTones x0_3), .num x0_3.2.slots.length, .num x0_3.2.grades.length, .bit false, .bit false, .bit false, .rows (List.map (rL (rI .i64)) x0_3.2.slots), .rows (List.map (rL (rI .i64)) x0_3.2.grades), .rows (List.map (rL (rI .i64)) x0_2.2.slots), .rows (List.map (rL (rI .i64)) x0_2.2.grades), .res (res_laws_eqTones x0_5), .bit false, .bit false, .bit false, .res (res_laws_toByteS x0_1), .num x0_1.length, .rows (List.map (rI .u8) x0_1), .rows (List.map (rI .u8) x0_1), .res (res_laws_eqByteS x0_7), .bit false, .res (res_laws_markByteS x0_9), .bit false, .bit false, .bit false, .bit false, .bit false, .bit false, .bit false, .rows (List.map (rL (rI .i64)) x0_3.2.slots), .rows (List.map (rL (rI .i64)) x0_3.2.grades), .rows (List.map (rL (rI .i64)) x0_2.2.slots), .rows (List.map (rL (rI .i64)) x0_2.2.grades), .res (res_laws_eqTones x0_5), .bit false, .bit false, .bit false, .rows (List.map (rL (rI .i64)) x0_3.2.slots), .rows (List.map (rL (rI .i64)) x0_3.2.grades), .res (res_laws_markTones x0_12), .rows (List.map (rL (rI .i64)) x0_12.2.slots), .rows (List.map (rL (rI .i64)) x0_12.2.grades), .res (res_laws_heldTones x0_15), .bit false, .bit true] 1000 (And.intro (len_map (rI .u8) (show p0.length = p0.length from rfl)) (And.intro h0_0 (And.intro (ok_laws_toByteS p0 x0_1 h0_1) (And.intro (len_map (rI .u8) (show x0_1.length = x0_1.length from rfl)) (And.intro (all_le (rI .u8) x0_1 rfl) (And.intro (all_dt (rI .u8) x0_1 rfl) (And.intro (ok_spec_DecodeTones x0_1 x0_2 h0_2) (And.intro (len_map (rL (rI .i64)) (show x0_2.2.slots.length = x0_2.2.slots.length from rfl)) (And.intro (len_map (rL (rI .i64)) (show x0_2.2.grades.length = x0_2.2.grades.length from rfl)) (And.intro (ok_laws_toByteS p0 x0_1 h0_1) (And.intro (len_map (rI .u8) (show x0_1.length = x0_1.length from rfl)) (And.intro (all_le (rI .u8) x0_1 rfl) (And.intro (all_dt (rI .u8) x0_1 rfl) (And.intro (ok_impl_DecodeTones x0_1 x0_3 h0_3) (And.intro (len_map (rL (rI .i64)) (show x0_3.2.slots.length = x0_3.2.slots.length from rfl)) (And.intro (len_map (rL (rI .i64)) (show x0_3.2.grades.length = x0_3.2.grades.length from rfl)) (And.intro h0_4 (And.intro h0_4 (And.intro h0_4 (And.intro (all_le (rL (rI .i64)) x0_3.2.slots rfl) (And.intro (all_dt (rL (rI .i64)) x0_3.2.slots rfl) (And.intro (all_le (rL (rI .i64)) x0_3.2.grades rfl) (And.intro (all_dt (rL (rI .i64)) x0_3.2.grades rfl) (And.intro (all_le (rL (rI .i64)) x0_2.2.slots rfl) (And.intro (all_dt (rL (rI .i64)) x0_2.2.slots rfl) (And.intro (all_le (rL (rI .i64)) x0_2.2.grades rfl) (And.intro (all_dt (rL (rI .i64)) x0_2.2.grades rfl) (And.intro (ok_laws_eqTones x0_3.2 x0_2.2 x0_5 h0_5) (And.intro h0_4 (And.intro h0_4 (And.intro (not_f h0_6) (And.intro (ok_laws_toByteS p0 x0_1 h0_1) (And.intro (len_map (rI .u8) (show x0_1.length = x0_1.length from rfl)) (And.intro (all_le (rI .u8) x0_1 rfl) (And.intro (all_dt (rI .u8) x0_1 rfl) (And.intro (all_le (rI .u8) x0_1 rfl) (And.intro (all_dt (rI .u8) x0_1 rfl) (And.intro (ok_laws_eqByteS x0_1 x0_1 x0_7 h0_7) (And.intro (not_f h0_8) (And.intro (all_eq (rI .u8) x0_1 rfl) (And.intro (ok_laws_markByteS x0_1 1 x0_9 h0_9) (And.intro (len2 (rI .u8) x0_9.2 x0_1 (ck_p h0_10)) (And.intro h0_11 (And.intro h0_11 (And.intro h0_11 (And.intro h0_11 (And.intro h0_4 (And.intro h0_4 (And.intro h0_4 (And.intro (all_le (rL (rI .i64)) x0_3.2.slots rfl) (And.intro (all_dt (rL (rI .i64)) x0_3.2.slots rfl) (And.intro (all_le (rL (rI .i64)) x0_3.2.grades rfl) (And.intro (all_dt (rL (rI .i64)) x0_3.2.grades rfl) (And.intro (all_le (rL (rI .i64)) x0_2.2.slots rfl) (And.intro (all_dt (rL (rI .i64)) x0_2.2.slots rfl) (And.intro (all_le (rL (rI .i64)) x0_2.2.grades rfl) (And.intro (all_dt (rL (rI .i64)) x0_2.2.grades rfl) (And.intro (ok_laws_eqTones x0_3.2 x0_2.2 x0_5 h0_5) (And.intro h0_4 (And.intro h0_4 (And.intro (not_f h0_6) (And.intro (all_le0 (rL (rI .i64)) x0_3.2.slots rfl) (And.intro (all_t (rL (rI .i64)) x0_3.2.slots rfl) (And.intro (all_le0 (rL (rI .i64)) x0_3.2.grades rfl) (And.intro (all_t (rL (rI .i64)) x0_3.2.grades rfl) (And.intro (all_eq (rL (rI .i64)) x0_3.2.slots rfl) (And.intro (all_eq (rL (rI .i64)) x0_3.2.grades rfl) (And.intro (ok_laws_markTones x0_3.2 1 x0_12 h0_12) (And.intro (len2 (rL (rI .i64)) x0_12.2.slots x0_3.2.slots (ck_p h0_13)) (And.intro (len2 (rL (rI .i64)) x0_12.2.grades x0_3.2.grades (ck_p h0_14)) (And.intro (all_le (rL (rI .i64)) x0_12.2.slots (Eq.trans rfl (Eq.symm (ck_p h0_13)))) (And.intro (all_dt (rL (rI .i64)) x0_12.2.slots (Eq.trans rfl (Eq.symm (ck_p h0_13)))) (And.intro (all_le (rL (rI .i64)) x0_12.2.grades (Eq.trans rfl (Eq.symm (ck_p h0_14)))) (And.intro (all_dt (rL (rI .i64)) x0_12.2.grades (Eq.trans rfl (Eq.symm (ck_p h0_14)))) (And.intro (ok_laws_heldTones (S_Tones.mk x0_3.2.rate x0_3.2.quality x0_3.2.length x0_12.2.slots x0_12.2.grades) 1 x0_15 h0_15) (And.intro h0_16 (And.intro h0_17 True.intro))))))))))))))))))))))))))))))))))))))))))))))))))))))))))))))))))))))))))))) (congrArg res_laws_FnExactDecodeTones (Option.some.inj hm)) (by kernel_rfl)
              · skip
                exact go_end [.num p0.length, .bit false, .res (res_laws_toByteS x0_1), .num x0_1.length, .rows (List.map (rI .u8) x0_1), .res (res_spec_DecodeTones x0_2), .num x0_2.2.slots.length, .num x0_2.2.grades.length, .res (res_laws_toByteS x0_1), .num x0_1.length, .rows (List.map (rI .u8) x0_1), .res (res_impl_DecodeTones x0_3), .num x0_3.2.slots.length, .num x0_3.2.grades.length, .bit false, .bit false, .bit false, .rows (List.map (rL (rI .i64)) x0_3.2.slots), .rows (List.map (rL (rI .i64)) x0_3.2.grades), .rows (List.map (rL (rI .i64)) x0_2.2.slots), .rows (List.map (rL (rI .i64)) x0_2.2.grades), .res (res_laws_eqTones x0_5), .bit false, .bit false, .bit false, .res (res_laws_toByteS x0_1), .num x0_1.length, .rows (List.map (rI .u8) x0_1), .rows (List.map (rI .u8) x0_1), .res (res_laws_eqByteS x0_7), .bit false, .res (res_laws_markByteS x0_9), .bit false, .bit false, .bit false, .bit false, .bit false, .bit false, .bit false, .rows (List.map (rL (rI .i64)) x0_3.2.slots), .rows (List.map (rL (rI .i64)) x0_3.2.grades), .rows (List.map (rL (rI .i64)) x0_2.2.slots), .rows (List.map (rL (rI .i64)) x0_2.2.grades), .res (res_laws_eqTones x0_5), .bit false, .bit false, .bit false, .rows (List.map (rL (rI .i64)) x0_3.2.slots), .rows (List.map (rL (rI .i64)) x0_3.2.grades), .res (res_laws_markTones x0_12), .rows (List.map (rL (rI .i64)) x0_12.2.slots), .rows (List.map (rL (rI .i64)) x0_12.2.grades), .res (res_laws_heldTones x0_15), .bit false, .bit false, .res (res_laws_toByteS x0_1), .num x0_1.length, .rows (List.map (rI .u8) x0_1), .res (res_impl_DecodeTones x0_3), .num x0_3.2.slots.length, .num x0_3.2.grades.length, .bit false, .bit false, .bit false, .rows (List.map (rL (rI .i64)) x0_3.2.slots), .rows (List.map (rL (rI .i64)) x0_3.2.grades), .rows (List.map (rL (rI .i64)) x0_2.2.slots), .rows (List.map (rL (rI .i64)) x0_2.2.grades), .res (res_laws_eqTones x0_5), .bit false, .bit false, .bit false, .rows (List.map (rL (rI .i64)) x0_12.2.slots), .rows (List.map (rL (rI .i64)) x0_12.2.grades), .res (res_laws_heldTones x0_15), .bit false, .bit false] 1000 (And.intro (len_map (rI .u8) (show p0.length = p0.length from rfl)) (And.intro h0_0 (And.intro (ok_laws_toByteS p0 x0_1 h0_1) (And.intro (len_map (rI .u8) (show x0_1.length = x0_1.length from rfl)) (And.intro (all_le (rI .u8) x0_1 rfl) (And.intro (all_dt (rI .u8) x0_1 rfl) (And.intro (ok_spec_DecodeTones x0_1 x0_2 h0_2) (And.intro (len_map (rL (rI .i64)) (show x0_2.2.slots.length = x0_2.2.slots.length from rfl)) (And.intro (len_map (rL (rI .i64)) (show x0_2.2.grades.length = x0_2.2.grades.length from rfl)) (And.intro (ok_laws_toByteS p0 x0_1 h0_1) (And.intro (len_map (rI .u8) (show x0_1.length = x0_1.length from rfl)) (And.intro (all_le (rI .u8) x0_1 rfl) (And.intro (all_dt (rI .u8) x0_1 rfl) (And.intro (ok_impl_DecodeTones x0_1 x0_3 h0_3) (And.intro (len_map (rL (rI .i64)) (show x0_3.2.slots.length = x0_3.2.slots.length from rfl)) (And.intro (len_map (rL (rI .i64)) (show x0_3.2.grades.length = x0_3.2.grades.length from rfl)) (And.intro h0_4 (And.intro h0_4 (And.intro h0_4 (And.intro (all_le (rL (rI .i64)) x0_3.2.slots rfl) (And.intro (all_dt (rL (rI .i64)) x0_3.2.slots rfl) (And.intro (all_le (rL (rI .i64)) x0_3.2.grades rfl) (And.intro (all_dt (rL (rI .i64)) x0_3.2.grades rfl) (And.intro (all_le (rL (rI .i64)) x0_2.2.slots rfl) (And.intro (all_dt (rL (rI .i64)) x0_2.2.slots rfl) (And.intro (all_le (rL (rI .i64)) x0_2.2.grades rfl) (And.intro (all_dt (rL (rI .i64)) x0_2.2.grades rfl) (And.intro (ok_laws_eqTones x0_3.2 x0_2.2 x0_5 h0_5) (And.intro h0_4 (And.intro h0_4 (And.intro (not_f h0_6) (And.intro (ok_laws_toByteS p0 x0_1 h0_1) (And.intro (len_map (rI .u8) (show x0_1.length = x0_1.length from rfl)) (And.intro (all_le (rI .u8) x0_1 rfl) (And.intro (all_dt (rI .u8) x0_1 rfl) (And.intro (all_le (rI .u8) x0_1 rfl) (And.intro (all_dt (rI .u8) x0_1 rfl) (And.intro (ok_laws_eqByteS x0_1 x0_1 x0_7 h0_7) (And.intro (not_f h0_8) (And.intro (all_eq (rI .u8) x0_1 rfl) (And.intro (ok_laws_markByteS x0_1 1 x0_9 h0_9) (And.intro (len2 (rI .u8) x0_9.2 x0_1 (ck_p h0_10)) (And.intro h0_11 (And.intro h0_11 (And.intro h0_11 (And.intro h0_11 (And.intro h0_4 (And.intro h0_4 (And.intro h0_4 (And.intro (all_le (rL (rI .i64)) x0_3.2.slots rfl) (And.intro (all_dt (rL (rI .i64)) x0_3.2.slots rfl) (And.intro (all_le (rL (rI .i64)) x0_3.2.grades rfl) (And.intro (all_dt (rL (rI .i64)) x0_3.2.grades rfl) (And.intro (all_le (rL (rI .i64)) x0_2.2.slots rfl) (And.intro (all_dt (rL (rI .i64)) x0_2.2.slots rfl) (And.intro (all_le (rL (rI .i64)) x0_2.2.grades rfl) (And.intro (all_dt (rL (rI .i64)) x0_2.2.grades rfl) (And.intro (ok_laws_eqTones x0_3.2 x0_2.2 x0_5 h0_5) (And.intro h0_4 (And.intro h0_4 (And.intro (not_f h0_6) (And.intro (all_le0 (rL (rI .i64)) x0_3.2.slots rfl) (And.intro (all_t (rL (rI .i64)) x0_3.2.slots rfl) (And.intro (all_le0 (rL (rI .i64)) x0_3.2.grades rfl) (And.intro (all_t (rL (rI .i64)) x0_3.2.grades rfl) (And.intro (all_eq (rL (rI .i64)) x0_3.2.slots rfl) (And.intro (all_eq (rL (rI .i64)) x0_3.2.grades rfl) (And.intro (ok_laws_markTones x0_3.2 1 x0_12 h0_12) (And.intro (len2 (rL (rI .i64)) x0_12.2.slots x0_3.2.slots (ck_p h0_13)) (And.intro (len2 (rL (rI .i64)) x0_12.2.grades x0_3.2.grades (ck_p h0_14)) (And.intro (all_le (rL (rI .i64)) x0_12.2.slots (Eq.trans rfl (Eq.symm (ck_p h0_13)))) (And.intro (all_dt (rL (rI .i64)) x0_12.2.slots (Eq.trans rfl (Eq.symm (ck_p h0_13)))) (And.intro (all_le (rL (rI .i64)) x0_12.2.grades (Eq.trans rfl (Eq.symm (ck_p h0_14)))) (And.intro (all_dt (rL (rI .i64)) x0_12.2.grades (Eq.trans rfl (Eq.symm (ck_p h0_14)))) (And.intro (ok_laws_heldTones (S_Tones.mk x0_3.2.rate x0_3.2.quality x0_3.2.length x0_12.2.slots x0_12.2.grades) 1 x0_15 h0_15) (And.intro h0_16 (And.intro h0_17 (And.intro (ok_laws_toByteS p0 x0_1 h0_1) (And.intro (len_map (rI .u8) (show x0_1.length = x0_1.length from rfl)) (And.intro (all_le (rI .u8) x0_1 rfl) (And.intro (all_dt (rI .u8) x0_1 rfl) (And.intro (ok_impl_DecodeTones x0_1 x0_3 h0_3) (And.intro (len_map (rL (rI .i64)) (show x0_3.2.slots.length = x0_3.2.slots.length from rfl)) (And.intro (len_map (rL (rI .i64)) (show x0_3.2.grades.length = x0_3.2.grades.length from rfl)) (And.intro h0_4 (And.intro h0_4 (And.intro h0_4 (And.intro (all_le (rL (rI .i64)) x0_3.2.slots rfl) (And.intro (all_dt (rL (rI .i64)) x0_3.2.slots rfl) (And.intro (all_le (rL (rI .i64)) x0_3.2.grades rfl) (And.intro (all_dt (rL (rI .i64)) x0_3.2.grades rfl) (And.intro (all_le (rL (rI .i64)) x0_2.2.slots rfl) (And.intro (all_dt (rL (rI .i64)) x0_2.2.slots rfl) (And.intro (all_le (rL (rI .i64)) x0_2.2.grades rfl) (And.intro (all_dt (rL (rI .i64)) x0_2.2.grades rfl) (And.intro (ok_laws_eqTones x0_3.2 x0_2.2 x0_5 h0_5) (And.intro h0_4 (And.intro h0_4 (And.intro (not_f h0_6) (And.intro (all_le (rL (rI .i64)) x0_12.2.slots (Eq.trans rfl (Eq.symm (ck_p h0_13)))) (And.intro (all_dt (rL (rI .i64)) x0_12.2.slots (Eq.trans rfl (Eq.symm (ck_p h0_13)))) (And.intro (all_le (rL (rI .i64)) x0_12.2.grades (Eq.trans rfl (Eq.symm (ck_p h0_14)))) (And.intro (all_dt (rL (rI .i64)) x0_12.2.grades (Eq.trans rfl (Eq.symm (ck_p h0_14)))) (And.intro (ok_laws_heldTones (S_Tones.mk x0_3.2.rate x0_3.2.quality x0_3.2.length x0_12.2.slots x0_12.2.grades) 1 x0_15 h0_15) (And.intro h0_16 (And.intro h0_17 True.intro)))))))))))))))))))))))))))))))))))))))))))))))))))))))))))))))))))))))))))))))))))))))))))))))))))))))))) (congrArg res_laws_FnExactDecodeTones (Option.some.inj hm)) (by kernel_rfl)
        · skip
          exact go_end [.num p0.length, .bit false, .res (res_laws_toByteS x0_1), .num x0_1.length, .rows (List.map (rI .u8) x0_1), .res (res_spec_DecodeTones x0_2), .num x0_2.2.slots.length, .num x0_2.2.grades.length, .res (res_laws_toByteS x0_1), .num x0_1.length, .rows (List.map (rI .u8) x0_1), .res (res_impl_DecodeTones x0_3), .num x0_3.2.slots.length, .num x0_3.2.grades.length, .bit false, .bit false, .bit false, .rows (List.map (rL (rI .i64)) x0_3.2.slots), .rows (List.map (rL (rI .i64)) x0_3.2.grades), .rows (List.map (rL (rI .i64)) x0_2.2.slots), .rows (List.map (rL (rI .i64)) x0_2.2.grades), .res (res_laws_eqTones x0_5), .bit false, .bit false, .bit false, .res (res_laws_toByteS x0_1), .num x0_1.length, .rows (List.map (rI .u8) x0_1), .rows (List.map (rI .u8) x0_1), .res (res_laws_eqByteS x0_7), .bit true] 1000 (And.intro (len_map (rI .u8) (show p0.length = p0.length from rfl)) (And.intro h0_0 (And.intro (ok_laws_toByteS p0 x0_1 h0_1) (And.intro (len_map (rI .u8) (show x0_1.length = x0_1.length from rfl)) (And.intro (all_le (rI .u8) x0_1 rfl) (And.intro (all_dt (rI .u8) x0_1 rfl) (And.intro (ok_spec_DecodeTones x0_1 x0_2 h0_2) (And.intro (len_map (rL (rI .i64)) (show x0_2.2.slots.length = x0_2.2.slots.length from rfl)) (And.intro (len_map (rL (rI .i64)) (show x0_2.2.grades.length = x0_2.2.grades.length from rfl)) (And.intro (ok_laws_toByteS p0 x0_1 h0_1) (And.intro (len_map (rI .u8) (show x0_1.length = x0_1.length from rfl)) (And.intro (all_le (rI .u8) x0_1 rfl) (And.intro (all_dt (rI .u8) x0_1 rfl) (And.intro (ok_impl_DecodeTones x0_1 x0_3 h0_3) (And.intro (len_map (rL (rI .i64)) (show x0_3.2.slots.length = x0_3.2.slots.length from rfl)) (And.intro (len_map (rL (rI .i64)) (show x0_3.2.grades.length = x0_3.2.grades.length from rfl)) (And.intro h0_4 (And.intro h0_4 (And.intro h0_4 (And.intro (all_le (rL (rI .i64)) x0_3.2.slots rfl) (And.intro (all_dt (rL (rI .i64)) x0_3.2.slots rfl) (And.intro (all_le (rL (rI .i64)) x0_3.2.grades rfl) (And.intro (all_dt (rL (rI .i64)) x0_3.2.grades rfl) (And.intro (all_le (rL (rI .i64)) x0_2.2.slots rfl) (And.intro (all_dt (rL (rI .i64)) x0_2.2.slots rfl) (And.intro (all_le (rL (rI .i64)) x0_2.2.grades rfl) (And.intro (all_dt (rL (rI .i64)) x0_2.2.grades rfl) (And.intro (ok_laws_eqTones x0_3.2 x0_2.2 x0_5 h0_5) (And.intro h0_4 (And.intro h0_4 (And.intro (not_f h0_6) (And.intro (ok_laws_toByteS p0 x0_1 h0_1) (And.intro (len_map (rI .u8) (show x0_1.length = x0_1.length from rfl)) (And.intro (all_le (rI .u8) x0_1 rfl) (And.intro (all_dt (rI .u8) x0_1 rfl) (And.intro (all_le (rI .u8) x0_1 rfl) (And.intro (all_dt (rI .u8) x0_1 rfl) (And.intro (ok_laws_eqByteS x0_1 x0_1 x0_7 h0_7) (And.intro (not_t h0_8) True.intro))))))))))))))))))))))))))))))))))))))) (congrArg res_laws_FnExactDecodeTones (Option.some.inj hm)) (by kernel_rfl)
      · skip
        exact go_end [.num p0.length, .bit false, .res (res_laws_toByteS x0_1), .num x0_1.length, .rows (List.map (rI .u8) x0_1), .res (res_spec_DecodeTones x0_2), .num x0_2.2.slots.length, .num x0_2.2.grades.length, .res (res_laws_toByteS x0_1), .num x0_1.length, .rows (List.map (rI .u8) x0_1), .res (res_impl_DecodeTones x0_3), .num x0_3.2.slots.length, .num x0_3.2.grades.length, .bit false, .bit false, .bit false, .rows (List.map (rL (rI .i64)) x0_3.2.slots), .rows (List.map (rL (rI .i64)) x0_3.2.grades), .rows (List.map (rL (rI .i64)) x0_2.2.slots), .rows (List.map (rL (rI .i64)) x0_2.2.grades), .res (res_laws_eqTones x0_5), .bit false, .bit false, .bit true] 1000 (And.intro (len_map (rI .u8) (show p0.length = p0.length from rfl)) (And.intro h0_0 (And.intro (ok_laws_toByteS p0 x0_1 h0_1) (And.intro (len_map (rI .u8) (show x0_1.length = x0_1.length from rfl)) (And.intro (all_le (rI .u8) x0_1 rfl) (And.intro (all_dt (rI .u8) x0_1 rfl) (And.intro (ok_spec_DecodeTones x0_1 x0_2 h0_2) (And.intro (len_map (rL (rI .i64)) (show x0_2.2.slots.length = x0_2.2.slots.length from rfl)) (And.intro (len_map (rL (rI .i64)) (show x0_2.2.grades.length = x0_2.2.grades.length from rfl)) (And.intro (ok_laws_toByteS p0 x0_1 h0_1) (And.intro (len_map (rI .u8) (show x0_1.length = x0_1.length from rfl)) (And.intro (all_le (rI .u8) x0_1 rfl) (And.intro (all_dt (rI .u8) x0_1 rfl) (And.intro (ok_impl_DecodeTones x0_1 x0_3 h0_3) (And.intro (len_map (rL (rI .i64)) (show x0_3.2.slots.length = x0_3.2.slots.length from rfl)) (And.intro (len_map (rL (rI .i64)) (show x0_3.2.grades.length = x0_3.2.grades.length from rfl)) (And.intro h0_4 (And.intro h0_4 (And.intro h0_4 (And.intro (all_le (rL (rI .i64)) x0_3.2.slots rfl) (And.intro (all_dt (rL (rI .i64)) x0_3.2.slots rfl) (And.intro (all_le (rL (rI .i64)) x0_3.2.grades rfl) (And.intro (all_dt (rL (rI .i64)) x0_3.2.grades rfl) (And.intro (all_le (rL (rI .i64)) x0_2.2.slots rfl) (And.intro (all_dt (rL (rI .i64)) x0_2.2.slots rfl) (And.intro (all_le (rL (rI .i64)) x0_2.2.grades rfl) (And.intro (all_dt (rL (rI .i64)) x0_2.2.grades rfl) (And.intro (ok_laws_eqTones x0_3.2 x0_2.2 x0_5 h0_5) (And.intro h0_4 (And.intro h0_4 (And.intro (not_t h0_6) True.intro))))))))))))))))))))))))))))))) (congrArg res_laws_FnExactDecodeTones (Option.some.inj hm)) (by kernel_rfl)

theorem ok_laws_FnExactDecodeTones (p0 : (List Int)) (r : Bool) (hm : m_laws_FnExactDecodeTones p0 = some r) : Runs ext tbl 4 (as_laws_FnExactDecodeTones p0) (res_laws_FnExactDecodeTones r) :=
  runs_of (vf := vf_laws_FnExactDecodeTones) (by kernel_rfl) rfl (st := (enter vf_laws_FnExactDecodeTones (as_laws_FnExactDecodeTones p0)).getD default) (by kernel_rfl) (go_on [] 1000 True.intro (ok_laws_FnExactDecodeTones_0 p0 r hm) (by kernel_rfl))
end Go.Proofs.V
