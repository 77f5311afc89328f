/- printed by a program: the plain functions, the code and the proofs of one law -/
import Derived.Test.YtejakgejjjncbaaFnExactRowsOfV3
import Derived.KernelRfl
set_option linter.unusedVariables false
set_option maxRecDepth 100000
namespace Go.Proofs.V
open Go
def as_laws_szStringS (p0 : (List ByteArray)) (p1 : Int) : List Arg := [.v false [.sl (p0.map rS)], .v false [.lit (.int .i64 p1)]]
def res_laws_szStringS (r : Int) : FRes := ⟨[.v false [.lit (.int .i64 r)]], []⟩
def as_laws_szCue (p0 : S_Cue) (p1 : Int) : List Arg := [.v true [.lit (.int .i64 p0.from_), .lit (.int .i64 p0.to_), .sl (p0.lines.map rS)], .v false [.lit (.int .i64 p1)]]
def res_laws_szCue (r : Int) : FRes := ⟨[.v false [.lit (.int .i64 r)]], []⟩
def as_laws_szCueS (p0 : (List S_Cue)) (p1 : Int) : List Arg := [.v false [.sl (p0.map rS_Cue)], .v false [.lit (.int .i64 p1)]]
def res_laws_szCueS (r : Int) : FRes := ⟨[.v false [.lit (.int .i64 r)]], []⟩
def as_laws_toStringS (p0 : (List ByteArray)) : List Arg := [.v false [.sl (p0.map rS)]]
def res_laws_toStringS (r : (List ByteArray)) : FRes := ⟨[.v false [.sl (r.map rS)]], []⟩
def as_laws_toCue (p0 : S_Cue) : List Arg := [.v true [.lit (.int .i64 p0.from_), .lit (.int .i64 p0.to_), .sl (p0.lines.map rS)]]
def res_laws_toCue (r : S_Cue) : FRes := ⟨[.v true [.lit (.int .i64 r.from_), .lit (.int .i64 r.to_), .sl (r.lines.map rS)]], []⟩
def as_laws_toCueS (p0 : (List S_Cue)) : List Arg := [.v false [.sl (p0.map rS_Cue)]]
def res_laws_toCueS (r : (List S_Cue)) : FRes := ⟨[.v false [.sl (r.map rS_Cue)]], []⟩
def as_spec_l15Time (p0 : Int) : List Arg := [.v false [.lit (.int .i64 p0)]]
def res_spec_l15Time (r : Bool) : FRes := ⟨[.v false [.lit (.bool r)]], []⟩
def as_spec_l15Bytes (p0 : ByteArray) : List Arg := [.v false [.lit (.string p0)]]
def res_spec_l15Bytes (r : Bool) : FRes := ⟨[.v false [.lit (.bool r)]], []⟩
def as_spec_l15Has (p0 : ByteArray) : List Arg := [.v false [.lit (.string p0)]]
def res_spec_l15Has (r : Bool) : FRes := ⟨[.v false [.lit (.bool r)]], []⟩
def as_spec_l15Lines (p0 : (List ByteArray)) : List Arg := [.v false [.sl (p0.map rS)]]
def res_spec_l15Lines (r : Bool) : FRes := ⟨[.v false [.lit (.bool r)]], []⟩
def as_spec_GoodCues (p0 : (List S_Cue)) : List Arg := [.v false [.sl (p0.map rS_Cue)]]
def res_spec_GoodCues (r : Bool) : FRes := ⟨[.v false [.lit (.bool r)]], []⟩
def as_spec_RowsOf (p0 : (List S_Cue)) (p1 : Int) : List Arg := [.v false [.sl (p0.map rS_Cue)], .v false [.lit (.int .i64 p1)]]
def res_spec_RowsOf (r : (List Int)) : FRes := ⟨[.v false [.sl (r.map (rI .i64))]], []⟩
def as_impl_ztime (p0 : Int) : List Arg := [.v false [.lit (.int .i64 p0)]]
def res_impl_ztime (r : Bool) : FRes := ⟨[.v false [.lit (.bool r)]], []⟩
def as_strings_Contains (p0 : ByteArray) (p1 : ByteArray) : List Arg := [.v false [.lit (.string p0)], .v false [.lit (.string p1)]]
def res_strings_Contains (r : Bool) : FRes := ⟨[.v false [.lit (.bool r)]], []⟩
def as_impl_zcueLine (p0 : ByteArray) : List Arg := [.v false [.lit (.string p0)]]
def res_impl_zcueLine (r : Int) : FRes := ⟨[.v false [.lit (.int .i64 r)]], []⟩
def as_impl_zcue (p0 : S_Cue) : List Arg := [.v true [.lit (.int .i64 p0.from_), .lit (.int .i64 p0.to_), .sl (p0.lines.map rS)]]
def res_impl_zcue (r : Bool) : FRes := ⟨[.v false [.lit (.bool r)]], []⟩
def as_impl_GoodCues (p0 : (List S_Cue)) : List Arg := [.v false [.sl (p0.map rS_Cue)]]
def res_impl_GoodCues (r : Bool) : FRes := ⟨[.v false [.lit (.bool r)]], []⟩
def as_impl_RowsOf (p0 : (List S_Cue)) (p1 : Int) : List Arg := [.v false [.sl (p0.map rS_Cue)], .v false [.lit (.int .i64 p1)]]
def res_impl_RowsOf (r : (List Int)) : FRes := ⟨[.v false [.sl (r.map (rI .i64))]], []⟩
def as_laws_eqIntS (p0 : (List Int)) (p1 : (List Int)) : List Arg := [.v false [.sl (p0.map (rI .i64))], .v false [.sl (p1.map (rI .i64))]]
def res_laws_eqIntS (r : Bool) : FRes := ⟨[.v false [.lit (.bool r)]], []⟩
def as_laws_eqStringS (p0 : (List ByteArray)) (p1 : (List ByteArray)) : List Arg := [.v false [.sl (p0.map rS)], .v false [.sl (p1.map rS)]]
def res_laws_eqStringS (r : Bool) : FRes := ⟨[.v false [.lit (.bool r)]], []⟩
def as_laws_eqCue (p0 : S_Cue) (p1 : S_Cue) : List Arg := [.v true [.lit (.int .i64 p0.from_), .lit (.int .i64 p0.to_), .sl (p0.lines.map rS)], .v true [.lit (.int .i64 p1.from_), .lit (.int .i64 p1.to_), .sl (p1.lines.map rS)]]
def res_laws_eqCue (r : Bool) : FRes := ⟨[.v false [.lit (.bool r)]], []⟩
def as_laws_eqCueS (p0 : (List S_Cue)) (p1 : (List S_Cue)) : List Arg := [.v false [.sl (p0.map rS_Cue)], .v false [.sl (p1.map rS_Cue)]]
def res_laws_eqCueS (r : Bool) : FRes := ⟨[.v false [.lit (.bool r)]], []⟩
def as_laws_markText (p0 : Int) : List Arg := [.v false [.lit (.int .i64 p0)]]
def res_laws_markText (r : ByteArray) : FRes := ⟨[.v false [.lit (.string r)]], []⟩
def as_laws_markStringS (p0 : (List ByteArray)) (p1 : Int) : List Arg := [.m (.sl (p0.map rS)), .v false [.lit (.int .i64 p1)]]
def res_laws_markStringS (r : Int × (List ByteArray)) : FRes := ⟨[.v false [.lit (.int .i64 r.1)]], [.sl (r.2.map rS)]⟩
def as_laws_markCueS (p0 : (List S_Cue)) (p1 : Int) : List Arg := [.m (.sl (p0.map rS_Cue)), .v false [.lit (.int .i64 p1)]]
def res_laws_markCueS (r : Int × (List S_Cue)) : FRes := ⟨[.v false [.lit (.int .i64 r.1)]], [.sl (r.2.map rS_Cue)]⟩
def as_laws_markIntS (p0 : (List Int)) (p1 : Int) : List Arg := [.m (.sl (p0.map (rI .i64))), .v false [.lit (.int .i64 p1)]]
def res_laws_markIntS (r : Int × (List Int)) : FRes := ⟨[.v false [.lit (.int .i64 r.1)]], [.sl (r.2.map (rI .i64))]⟩
def as_laws_heldIntS (p0 : (List Int)) (p1 : Int) : List Arg := [.v false [.sl (p0.map (rI .i64))], .v false [.lit (.int .i64 p1)]]
def res_laws_heldIntS (r : Int) : FRes := ⟨[.v false [.lit (.int .i64 r)]], []⟩
def as_laws_FnExactRowsOf (p0 : (List S_Cue)) (p1 : Int) : List Arg := [.v false [.sl (p0.map rS_Cue)], .v false [.lit (.int .i64 p1)]]
def res_laws_FnExactRowsOf (r : Bool) : FRes := ⟨[.v false [.lit (.bool r)]], []⟩
def K_laws_szStringS_35 : List Fr := []
def s_laws_szStringS_35 (i35_0 : Int) : St :=
  ⟨mkSl 28 [(1, .v false [.lit (.int .i64 i35_0)])], [], []⟩
def K_laws_szStringS_17 : List Fr := [.lp [0, 1, 5] c_laws_szStringS_17, .bk 0, .sq (.kp [1] c_laws_szStringS_35)]
def s_laws_szStringS_17 (p0 : (List ByteArray)) (i17_0 : Int) (i17_1 : Int) : St :=
  ⟨mkSl 28 [(0, .v false [.ro [.sc] (p0.map rS)]), (1, .v false [.lit (.int .i64 i17_0)]), (5, .v false [.lit (.int .i64 i17_1)])], [], []⟩
def K_laws_szStringS_0 : List Fr := []
def s_laws_szStringS_0 (p0 : (List ByteArray)) (p1 : Int) : St :=
  ⟨mkSl 28 [(0, .v false [.ro [.sc] (p0.map rS)]), (1, .v false [.lit (.int .i64 p1)])], [], []⟩
def K_laws_szCue_0 : List Fr := []
def s_laws_szCue_0 (p0 : S_Cue) (p1 : Int) : St :=
  ⟨mkSl 12 [(0, .v true [.lit (.int .i64 p0.from_), .lit (.int .i64 p0.to_), .ro [.sc] (p0.lines.map rS)]), (1, .v false [.lit (.int .i64 p1)])], [], []⟩
def K_laws_szCueS_35 : List Fr := []
def s_laws_szCueS_35 (i35_0 : Int) : St :=
  ⟨mkSl 27 [(1, .v false [.lit (.int .i64 i35_0)])], [], []⟩
def K_laws_szCueS_17 : List Fr := [.lp [0, 1, 5] c_laws_szCueS_17, .bk 0, .sq (.kp [1] c_laws_szCueS_35)]
def s_laws_szCueS_17 (p0 : (List S_Cue)) (i17_0 : Int) (i17_1 : Int) : St :=
  ⟨mkSl 27 [(0, .v false [.ro [.sc, .sc, .ro [.sc]] (p0.map rS_Cue)]), (1, .v false [.lit (.int .i64 i17_0)]), (5, .v false [.lit (.int .i64 i17_1)])], [], []⟩
def K_laws_szCueS_0 : List Fr := []
def s_laws_szCueS_0 (p0 : (List S_Cue)) (p1 : Int) : St :=
  ⟨mkSl 27 [(0, .v false [.ro [.sc, .sc, .ro [.sc]] (p0.map rS_Cue)]), (1, .v false [.lit (.int .i64 p1)])], [], []⟩
def K_laws_toStringS_19 : List Fr := []
def s_laws_toStringS_19 (l19_0 : (List ByteArray)) : St :=
  ⟨mkSl 22 [(3, .v false [.ref 0 [] 0 l19_0.length])], [some ⟨[.sc], (List.map rS l19_0)⟩], []⟩
def K_laws_toStringS_9 : List Fr := [.lp [0, 3, 4] c_laws_toStringS_9, .bk 0, .sq (.kp [3] c_laws_toStringS_19)]
def s_laws_toStringS_9 (p0 : (List ByteArray)) (i9_0 : Int) (l9_1 : (List ByteArray)) : St :=
  ⟨mkSl 22 [(0, .v false [.ro [.sc] (p0.map rS)]), (3, .v false [.ref 0 [] 0 l9_1.length]), (4, .v false [.lit (.int .i64 i9_0)])], [some ⟨[.sc], (List.map rS l9_1)⟩], []⟩
def K_laws_toStringS_0 : List Fr := []
def s_laws_toStringS_0 (p0 : (List ByteArray)) : St :=
  ⟨mkSl 22 [(0, .v false [.ro [.sc] (p0.map rS)])], [], []⟩
def K_laws_toCue_0 : List Fr := []
def s_laws_toCue_0 (p0 : S_Cue) : St :=
  ⟨mkSl 15 [(0, .v true [.lit (.int .i64 p0.from_), .lit (.int .i64 p0.to_), .ro [.sc] (p0.lines.map rS)])], [], []⟩
def K_laws_toCueS_19 : List Fr := []
def s_laws_toCueS_19 (l19_0 : (List S_Cue)) : St :=
  ⟨mkSl 23 [(3, .v false [.ref 0 [] 0 l19_0.length])], [some ⟨[.sc, .sc, .own [.sc]], (List.map rS_Cue l19_0)⟩], []⟩
def K_laws_toCueS_9 : List Fr := [.lp [0, 3, 4] c_laws_toCueS_9, .bk 0, .sq (.kp [3] c_laws_toCueS_19)]
def s_laws_toCueS_9 (p0 : (List S_Cue)) (i9_0 : Int) (l9_1 : (List S_Cue)) : St :=
  ⟨mkSl 23 [(0, .v false [.ro [.sc, .sc, .ro [.sc]] (p0.map rS_Cue)]), (3, .v false [.ref 0 [] 0 l9_1.length]), (4, .v false [.lit (.int .i64 i9_0)])], [some ⟨[.sc, .sc, .own [.sc]], (List.map rS_Cue l9_1)⟩], []⟩
def K_laws_toCueS_0 : List Fr := []
def s_laws_toCueS_0 (p0 : (List S_Cue)) : St :=
  ⟨mkSl 23 [(0, .v false [.ro [.sc, .sc, .ro [.sc]] (p0.map rS_Cue)])], [], []⟩
def K_spec_l15Time_0 : List Fr := []
def s_spec_l15Time_0 (p0 : Int) : St :=
  ⟨mkSl 9 [(0, .v false [.lit (.int .i64 p0)])], [], []⟩
def K_spec_l15Bytes_23 : List Fr := []
def s_spec_l15Bytes_23 : St :=
  ⟨mkSl 20 [], [], []⟩
def K_spec_l15Bytes_7 : List Fr := [.lp [0, 3] c_spec_l15Bytes_7, .bk 0, .sq (.kp [] c_spec_l15Bytes_23)]
def s_spec_l15Bytes_7 (p0 : ByteArray) (i7_0 : Int) : St :=
  ⟨mkSl 20 [(0, .v false [.lit (.string p0)]), (3, .v false [.lit (.int .i64 i7_0)])], [], []⟩
def K_spec_l15Bytes_0 : List Fr := []
def s_spec_l15Bytes_0 (p0 : ByteArray) : St :=
  ⟨mkSl 20 [(0, .v false [.lit (.string p0)])], [], []⟩
def K_spec_l15Has_23 : List Fr := []
def s_spec_l15Has_23 : St :=
  ⟨mkSl 17 [], [], []⟩
def K_spec_l15Has_7 : List Fr := [.lp [0, 3] c_spec_l15Has_7, .bk 0, .sq (.kp [] c_spec_l15Has_23)]
def s_spec_l15Has_7 (p0 : ByteArray) (i7_0 : Int) : St :=
  ⟨mkSl 17 [(0, .v false [.lit (.string p0)]), (3, .v false [.lit (.int .i64 i7_0)])], [], []⟩
def K_spec_l15Has_0 : List Fr := []
def s_spec_l15Has_0 (p0 : ByteArray) : St :=
  ⟨mkSl 17 [(0, .v false [.lit (.string p0)])], [], []⟩
def K_spec_l15Lines_25 : List Fr := []
def s_spec_l15Lines_25 (p0 : (List ByteArray)) : St :=
  ⟨mkSl 45 [(0, .v false [.ro [.sc] (p0.map rS)])], [], []⟩
def K_spec_l15Lines_7 : List Fr := [.lp [0, 5, 6, 7] c_spec_l15Lines_7, .bk 0, .sq (.kp [0] c_spec_l15Lines_25)]
def s_spec_l15Lines_7 (p0 : (List ByteArray)) (i7_0 : Int) : St :=
  ⟨mkSl 45 [(0, .v false [.ro [.sc] (p0.map rS)]), (5, .v false [.ro [.sc] (p0.map rS)]), (6, .v false [.lit (.int .i64 (p0.length : Int))]), (7, .v false [.lit (.int .i64 i7_0)])], [], []⟩
def K_spec_l15Lines_0 : List Fr := []
def s_spec_l15Lines_0 (p0 : (List ByteArray)) : St :=
  ⟨mkSl 45 [(0, .v false [.ro [.sc] (p0.map rS)])], [], []⟩
def K_spec_GoodCues_33 : List Fr := []
def s_spec_GoodCues_33 : St :=
  ⟨mkSl 54 [], [], []⟩
def K_spec_GoodCues_15 : List Fr := [.lp [0, 8, 9, 10] c_spec_GoodCues_15, .bk 0, .sq (.kp [] c_spec_GoodCues_33)]
def s_spec_GoodCues_15 (p0 : (List S_Cue)) (i15_0 : Int) : St :=
  ⟨mkSl 54 [(0, .v false [.ro [.sc, .sc, .ro [.sc]] (p0.map rS_Cue)]), (8, .v false [.ro [.sc, .sc, .ro [.sc]] (p0.map rS_Cue)]), (9, .v false [.lit (.int .i64 (p0.length : Int))]), (10, .v false [.lit (.int .i64 i15_0)])], [], []⟩
def K_spec_GoodCues_0 : List Fr := []
def s_spec_GoodCues_0 (p0 : (List S_Cue)) : St :=
  ⟨mkSl 54 [(0, .v false [.ro [.sc, .sc, .ro [.sc]] (p0.map rS_Cue)])], [], []⟩
def K_spec_RowsOf_62 : List Fr := [.lp [0, 1, 5, 6, 7, 8, 9, 26, 27, 28] c_spec_RowsOf_34, .bk 2, .sq (.kp [0, 1, 5, 7, 8, 26, 27, 28] c_spec_RowsOf_63), .bk 1, .sq c_spec_RowsOf_104, .lp [0, 1, 5, 26, 27, 28] c_spec_RowsOf_17, .bk 0, .sq (.kp [5] c_spec_RowsOf_105)]
def s_spec_RowsOf_62 (p0 : (List S_Cue)) (p1 : Int) (i17_0 : Int) (i34_0 : Int) (x17_1 : S_Cue) (l17_1 : (List Int)) (l62_0 : (List Bool)) : St :=
  ⟨mkSl 117 [(0, .v false [.ro [.sc, .sc, .ro [.sc]] (p0.map rS_Cue)]), (1, .v false [.lit (.int .i64 p1)]), (5, .v false [.ref 0 [] 0 l17_1.length]), (6, .v false [.lit (.int .i64 i17_0)]), (7, .v false [.vptr 0 0]), (8, .v false [.ref 1 [] 0 l62_0.length]), (9, .v false [.lit (.int .i64 i34_0)]), (26, .v false [.ro [.sc, .sc, .ro [.sc]] (p0.map rS_Cue)]), (27, .v false [.lit (.int .i64 (p0.length : Int))]), (28, .v false [.lit (.int .i64 i17_0)])], [some ⟨[.sc], (List.map (rI .i64) l17_1)⟩, some ⟨[.sc], (List.map rB l62_0)⟩], [some [.lit (.int .i64 x17_1.from_), .lit (.int .i64 x17_1.to_), .ro [.sc] (x17_1.lines.map rS)]]⟩
def K_spec_RowsOf_49 : List Fr := [.lp [0, 1, 5, 6, 7, 8, 9, 26, 27, 28, 70, 71] c_spec_RowsOf_49, .bk 4, .bk 3, .sq (.kp [0, 1, 5, 6, 7, 8, 9, 26, 27, 28] c_spec_RowsOf_62), .lp [0, 1, 5, 6, 7, 8, 9, 26, 27, 28] c_spec_RowsOf_34, .bk 2, .sq (.kp [0, 1, 5, 7, 8, 26, 27, 28] c_spec_RowsOf_63), .bk 1, .sq c_spec_RowsOf_104, .lp [0, 1, 5, 26, 27, 28] c_spec_RowsOf_17, .bk 0, .sq (.kp [5] c_spec_RowsOf_105)]
def s_spec_RowsOf_49 (p0 : (List S_Cue)) (p1 : Int) (i17_0 : Int) (i34_0 : Int) (x44_1 : S_Cue) (x17_1 : S_Cue) (l17_1 : (List Int)) (i49_0 : Int) (l49_1 : (List Bool)) : St :=
  ⟨mkSl 117 [(0, .v false [.ro [.sc, .sc, .ro [.sc]] (p0.map rS_Cue)]), (1, .v false [.lit (.int .i64 p1)]), (5, .v false [.ref 0 [] 0 l17_1.length]), (6, .v false [.lit (.int .i64 i17_0)]), (7, .v false [.vptr 0 0]), (8, .v false [.ref 1 [] 0 l49_1.length]), (9, .v false [.lit (.int .i64 i34_0)]), (26, .v false [.ro [.sc, .sc, .ro [.sc]] (p0.map rS_Cue)]), (27, .v false [.lit (.int .i64 (p0.length : Int))]), (28, .v false [.lit (.int .i64 i17_0)]), (70, .v false [.lit (.int .i64 (x44_1.lines.length : Int))]), (71, .v false [.lit (.int .i64 i49_0)])], [some ⟨[.sc], (List.map (rI .i64) l17_1)⟩, some ⟨[.sc], (List.map rB l49_1)⟩], [some [.lit (.int .i64 x17_1.from_), .lit (.int .i64 x17_1.to_), .ro [.sc] (x17_1.lines.map rS)]]⟩
def K_spec_RowsOf_44 : List Fr := [.bk 3, .sq (.kp [0, 1, 5, 6, 7, 8, 9, 26, 27, 28] c_spec_RowsOf_62), .lp [0, 1, 5, 6, 7, 8, 9, 26, 27, 28] c_spec_RowsOf_34, .bk 2, .sq (.kp [0, 1, 5, 7, 8, 26, 27, 28] c_spec_RowsOf_63), .bk 1, .sq c_spec_RowsOf_104, .lp [0, 1, 5, 26, 27, 28] c_spec_RowsOf_17, .bk 0, .sq (.kp [5] c_spec_RowsOf_105)]
def s_spec_RowsOf_44 (p0 : (List S_Cue)) (p1 : Int) (i17_0 : Int) (i34_0 : Int) (x17_1 : S_Cue) (l17_1 : (List Int)) (l34_1 : (List Bool)) (b44_0 : Bool) : St :=
  ⟨mkSl 117 [(0, .v false [.ro [.sc, .sc, .ro [.sc]] (p0.map rS_Cue)]), (1, .v false [.lit (.int .i64 p1)]), (5, .v false [.ref 0 [] 0 l17_1.length]), (6, .v false [.lit (.int .i64 i17_0)]), (7, .v false [.vptr 0 0]), (8, .v false [.ref 1 [] 0 l34_1.length]), (9, .v false [.lit (.int .i64 i34_0)]), (26, .v false [.ro [.sc, .sc, .ro [.sc]] (p0.map rS_Cue)]), (27, .v false [.lit (.int .i64 (p0.length : Int))]), (28, .v false [.lit (.int .i64 i17_0)]), (64, .v false [.lit (.bool b44_0)])], [some ⟨[.sc], (List.map (rI .i64) l17_1)⟩, some ⟨[.sc], (List.map rB l34_1)⟩], [some [.lit (.int .i64 x17_1.from_), .lit (.int .i64 x17_1.to_), .ro [.sc] (x17_1.lines.map rS)]]⟩
def K_spec_RowsOf_97 : List Fr := [.bk 7, .sq c_spec_RowsOf_102, .lp [0, 1, 5, 7, 8, 11, 12, 26, 27, 28] c_spec_RowsOf_70, .bk 6, .sq (.kp [0, 1, 5, 11, 26, 27, 28] c_spec_RowsOf_103), .bk 1, .sq c_spec_RowsOf_104, .lp [0, 1, 5, 26, 27, 28] c_spec_RowsOf_17, .bk 0, .sq (.kp [5] c_spec_RowsOf_105)]
def s_spec_RowsOf_97 (p0 : (List S_Cue)) (p1 : Int) (i70_0 : Int) (i70_1 : Int) (i17_0 : Int) (x17_1 : S_Cue) (l17_1 : (List Int)) (l63_0 : (List Bool)) (b97_0 : Bool) : St :=
  ⟨mkSl 117 [(0, .v false [.ro [.sc, .sc, .ro [.sc]] (p0.map rS_Cue)]), (1, .v false [.lit (.int .i64 p1)]), (5, .v false [.ref 0 [] 0 l17_1.length]), (7, .v false [.vptr 0 0]), (8, .v false [.ref 1 [] 0 l63_0.length]), (11, .v false [.lit (.int .i64 i70_0)]), (12, .v false [.lit (.int .i64 i70_1)]), (13, .v false [.lit (.bool b97_0)]), (26, .v false [.ro [.sc, .sc, .ro [.sc]] (p0.map rS_Cue)]), (27, .v false [.lit (.int .i64 (p0.length : Int))]), (28, .v false [.lit (.int .i64 i17_0)])], [some ⟨[.sc], (List.map (rI .i64) l17_1)⟩, some ⟨[.sc], (List.map rB l63_0)⟩], [some [.lit (.int .i64 x17_1.from_), .lit (.int .i64 x17_1.to_), .ro [.sc] (x17_1.lines.map rS)]]⟩
def K_spec_RowsOf_85 : List Fr := [.lp [0, 1, 5, 7, 8, 11, 12, 13, 26, 27, 28, 94, 95] c_spec_RowsOf_85, .bk 8, .sq (.kp [0, 1, 5, 7, 8, 11, 12, 13, 26, 27, 28] c_spec_RowsOf_97), .bk 7, .sq c_spec_RowsOf_102, .lp [0, 1, 5, 7, 8, 11, 12, 26, 27, 28] c_spec_RowsOf_70, .bk 6, .sq (.kp [0, 1, 5, 11, 26, 27, 28] c_spec_RowsOf_103), .bk 1, .sq c_spec_RowsOf_104, .lp [0, 1, 5, 26, 27, 28] c_spec_RowsOf_17, .bk 0, .sq (.kp [5] c_spec_RowsOf_105)]
def s_spec_RowsOf_85 (p0 : (List S_Cue)) (p1 : Int) (i70_0 : Int) (i70_1 : Int) (i17_0 : Int) (x17_1 : S_Cue) (l17_1 : (List Int)) (l63_0 : (List Bool)) (b85_0 : Bool) (i85_1 : Int) : St :=
  ⟨mkSl 117 [(0, .v false [.ro [.sc, .sc, .ro [.sc]] (p0.map rS_Cue)]), (1, .v false [.lit (.int .i64 p1)]), (5, .v false [.ref 0 [] 0 l17_1.length]), (7, .v false [.vptr 0 0]), (8, .v false [.ref 1 [] 0 l63_0.length]), (11, .v false [.lit (.int .i64 i70_0)]), (12, .v false [.lit (.int .i64 i70_1)]), (13, .v false [.lit (.bool b85_0)]), (26, .v false [.ro [.sc, .sc, .ro [.sc]] (p0.map rS_Cue)]), (27, .v false [.lit (.int .i64 (p0.length : Int))]), (28, .v false [.lit (.int .i64 i17_0)]), (94, .v false [.lit (.int .i64 (x17_1.lines.length : Int))]), (95, .v false [.lit (.int .i64 i85_1)])], [some ⟨[.sc], (List.map (rI .i64) l17_1)⟩, some ⟨[.sc], (List.map rB l63_0)⟩], [some [.lit (.int .i64 x17_1.from_), .lit (.int .i64 x17_1.to_), .ro [.sc] (x17_1.lines.map rS)]]⟩
def K_spec_RowsOf_103 : List Fr := [.bk 1, .sq c_spec_RowsOf_104, .lp [0, 1, 5, 26, 27, 28] c_spec_RowsOf_17, .bk 0, .sq (.kp [5] c_spec_RowsOf_105)]
def s_spec_RowsOf_103 (p0 : (List S_Cue)) (p1 : Int) (i17_0 : Int) (l17_1 : (List Int)) (i103_0 : Int) : St :=
  ⟨mkSl 117 [(0, .v false [.ro [.sc, .sc, .ro [.sc]] (p0.map rS_Cue)]), (1, .v false [.lit (.int .i64 p1)]), (5, .v false [.ref 0 [] 0 l17_1.length]), (11, .v false [.lit (.int .i64 i103_0)]), (26, .v false [.ro [.sc, .sc, .ro [.sc]] (p0.map rS_Cue)]), (27, .v false [.lit (.int .i64 (p0.length : Int))]), (28, .v false [.lit (.int .i64 i17_0)])], [some ⟨[.sc], (List.map (rI .i64) l17_1)⟩], []⟩
def K_spec_RowsOf_70 : List Fr := [.lp [0, 1, 5, 7, 8, 11, 12, 26, 27, 28] c_spec_RowsOf_70, .bk 6, .sq (.kp [0, 1, 5, 11, 26, 27, 28] c_spec_RowsOf_103), .bk 1, .sq c_spec_RowsOf_104, .lp [0, 1, 5, 26, 27, 28] c_spec_RowsOf_17, .bk 0, .sq (.kp [5] c_spec_RowsOf_105)]
def s_spec_RowsOf_70 (p0 : (List S_Cue)) (p1 : Int) (i17_0 : Int) (x17_1 : S_Cue) (l17_1 : (List Int)) (l63_0 : (List Bool)) (i70_0 : Int) (i70_1 : Int) : St :=
  ⟨mkSl 117 [(0, .v false [.ro [.sc, .sc, .ro [.sc]] (p0.map rS_Cue)]), (1, .v false [.lit (.int .i64 p1)]), (5, .v false [.ref 0 [] 0 l17_1.length]), (7, .v false [.vptr 0 0]), (8, .v false [.ref 1 [] 0 l63_0.length]), (11, .v false [.lit (.int .i64 i70_0)]), (12, .v false [.lit (.int .i64 i70_1)]), (26, .v false [.ro [.sc, .sc, .ro [.sc]] (p0.map rS_Cue)]), (27, .v false [.lit (.int .i64 (p0.length : Int))]), (28, .v false [.lit (.int .i64 i17_0)])], [some ⟨[.sc], (List.map (rI .i64) l17_1)⟩, some ⟨[.sc], (List.map rB l63_0)⟩], [some [.lit (.int .i64 x17_1.from_), .lit (.int .i64 x17_1.to_), .ro [.sc] (x17_1.lines.map rS)]]⟩
def K_spec_RowsOf_63 : List Fr := [.bk 1, .sq c_spec_RowsOf_104, .lp [0, 1, 5, 26, 27, 28] c_spec_RowsOf_17, .bk 0, .sq (.kp [5] c_spec_RowsOf_105)]
def s_spec_RowsOf_63 (p0 : (List S_Cue)) (p1 : Int) (i17_0 : Int) (x17_1 : S_Cue) (l17_1 : (List Int)) (l63_0 : (List Bool)) : St :=
  ⟨mkSl 117 [(0, .v false [.ro [.sc, .sc, .ro [.sc]] (p0.map rS_Cue)]), (1, .v false [.lit (.int .i64 p1)]), (5, .v false [.ref 0 [] 0 l17_1.length]), (7, .v false [.vptr 0 0]), (8, .v false [.ref 1 [] 0 l63_0.length]), (26, .v false [.ro [.sc, .sc, .ro [.sc]] (p0.map rS_Cue)]), (27, .v false [.lit (.int .i64 (p0.length : Int))]), (28, .v false [.lit (.int .i64 i17_0)])], [some ⟨[.sc], (List.map (rI .i64) l17_1)⟩, some ⟨[.sc], (List.map rB l63_0)⟩], [some [.lit (.int .i64 x17_1.from_), .lit (.int .i64 x17_1.to_), .ro [.sc] (x17_1.lines.map rS)]]⟩
def K_spec_RowsOf_34 : List Fr := [.lp [0, 1, 5, 6, 7, 8, 9, 26, 27, 28] c_spec_RowsOf_34, .bk 2, .sq (.kp [0, 1, 5, 7, 8, 26, 27, 28] c_spec_RowsOf_63), .bk 1, .sq c_spec_RowsOf_104, .lp [0, 1, 5, 26, 27, 28] c_spec_RowsOf_17, .bk 0, .sq (.kp [5] c_spec_RowsOf_105)]
def s_spec_RowsOf_34 (p0 : (List S_Cue)) (p1 : Int) (i17_0 : Int) (x17_1 : S_Cue) (l17_1 : (List Int)) (i34_0 : Int) (l34_1 : (List Bool)) : St :=
  ⟨mkSl 117 [(0, .v false [.ro [.sc, .sc, .ro [.sc]] (p0.map rS_Cue)]), (1, .v false [.lit (.int .i64 p1)]), (5, .v false [.ref 0 [] 0 l17_1.length]), (6, .v false [.lit (.int .i64 i17_0)]), (7, .v false [.vptr 0 0]), (8, .v false [.ref 1 [] 0 l34_1.length]), (9, .v false [.lit (.int .i64 i34_0)]), (26, .v false [.ro [.sc, .sc, .ro [.sc]] (p0.map rS_Cue)]), (27, .v false [.lit (.int .i64 (p0.length : Int))]), (28, .v false [.lit (.int .i64 i17_0)])], [some ⟨[.sc], (List.map (rI .i64) l17_1)⟩, some ⟨[.sc], (List.map rB l34_1)⟩], [some [.lit (.int .i64 x17_1.from_), .lit (.int .i64 x17_1.to_), .ro [.sc] (x17_1.lines.map rS)]]⟩
def K_spec_RowsOf_105 : List Fr := []
def s_spec_RowsOf_105 (l105_0 : (List Int)) : St :=
  ⟨mkSl 117 [(5, .v false [.ref 0 [] 0 l105_0.length])], [some ⟨[.sc], (List.map (rI .i64) l105_0)⟩], []⟩
def K_spec_RowsOf_17 : List Fr := [.lp [0, 1, 5, 26, 27, 28] c_spec_RowsOf_17, .bk 0, .sq (.kp [5] c_spec_RowsOf_105)]
def s_spec_RowsOf_17 (p0 : (List S_Cue)) (p1 : Int) (i17_0 : Int) (l17_1 : (List Int)) : St :=
  ⟨mkSl 117 [(0, .v false [.ro [.sc, .sc, .ro [.sc]] (p0.map rS_Cue)]), (1, .v false [.lit (.int .i64 p1)]), (5, .v false [.ref 0 [] 0 l17_1.length]), (26, .v false [.ro [.sc, .sc, .ro [.sc]] (p0.map rS_Cue)]), (27, .v false [.lit (.int .i64 (p0.length : Int))]), (28, .v false [.lit (.int .i64 i17_0)])], [some ⟨[.sc], (List.map (rI .i64) l17_1)⟩], []⟩
def K_spec_RowsOf_0 : List Fr := []
def s_spec_RowsOf_0 (p0 : (List S_Cue)) (p1 : Int) : St :=
  ⟨mkSl 117 [(0, .v false [.ro [.sc, .sc, .ro [.sc]] (p0.map rS_Cue)]), (1, .v false [.lit (.int .i64 p1)])], [], []⟩
def K_impl_ztime_0 : List Fr := []
def s_impl_ztime_0 (p0 : Int) : St :=
  ⟨mkSl 9 [(0, .v false [.lit (.int .i64 p0)])], [], []⟩
def K_impl_zcueLine_25 : List Fr := []
def s_impl_zcueLine_25 (p0 : ByteArray) : St :=
  ⟨mkSl 25 [(0, .v false [.lit (.string p0)])], [], []⟩
def K_impl_zcueLine_7 : List Fr := [.lp [0, 5, 6] c_impl_zcueLine_7, .bk 0, .sq (.kp [0] c_impl_zcueLine_25)]
def s_impl_zcueLine_7 (p0 : ByteArray) (i7_0 : Int) : St :=
  ⟨mkSl 25 [(0, .v false [.lit (.string p0)]), (5, .v false [.lit (.int .i64 (p0.size : Int))]), (6, .v false [.lit (.int .i64 i7_0)])], [], []⟩
def K_impl_zcueLine_0 : List Fr := []
def s_impl_zcueLine_0 (p0 : ByteArray) : St :=
  ⟨mkSl 25 [(0, .v false [.lit (.string p0)])], [], []⟩
def K_impl_zcue_33 : List Fr := []
def s_impl_zcue_33 : St :=
  ⟨mkSl 38 [], [], []⟩
def K_impl_zcue_15 : List Fr := [.lp [16, 17, 18] c_impl_zcue_15, .bk 0, .sq (.kp [] c_impl_zcue_33)]
def s_impl_zcue_15 (p0 : S_Cue) (i15_0 : Int) : St :=
  ⟨mkSl 38 [(16, .v false [.ro [.sc] (p0.lines.map rS)]), (17, .v false [.lit (.int .i64 (p0.lines.length : Int))]), (18, .v false [.lit (.int .i64 i15_0)])], [], []⟩
def K_impl_zcue_0 : List Fr := []
def s_impl_zcue_0 (p0 : S_Cue) : St :=
  ⟨mkSl 38 [(0, .v true [.lit (.int .i64 p0.from_), .lit (.int .i64 p0.to_), .ro [.sc] (p0.lines.map rS)])], [], []⟩
def K_impl_GoodCues_33 : List Fr := []
def s_impl_GoodCues_33 : St :=
  ⟨mkSl 53 [], [], []⟩
def K_impl_GoodCues_15 : List Fr := [.lp [0, 8, 9, 10] c_impl_GoodCues_15, .bk 0, .sq (.kp [] c_impl_GoodCues_33)]
def s_impl_GoodCues_15 (p0 : (List S_Cue)) (i15_0 : Int) : St :=
  ⟨mkSl 53 [(0, .v false [.ro [.sc, .sc, .ro [.sc]] (p0.map rS_Cue)]), (8, .v false [.ro [.sc, .sc, .ro [.sc]] (p0.map rS_Cue)]), (9, .v false [.lit (.int .i64 (p0.length : Int))]), (10, .v false [.lit (.int .i64 i15_0)])], [], []⟩
def K_impl_GoodCues_0 : List Fr := []
def s_impl_GoodCues_0 (p0 : (List S_Cue)) : St :=
  ⟨mkSl 53 [(0, .v false [.ro [.sc, .sc, .ro [.sc]] (p0.map rS_Cue)])], [], []⟩
def K_impl_RowsOf_64 : List Fr := [.lp [0, 1, 5, 7, 8, 26, 27, 28, 35, 36] c_impl_RowsOf_34, .bk 2, .sq (.kp [0, 1, 5, 7, 8, 26, 27, 28] c_impl_RowsOf_65), .bk 1, .sq c_impl_RowsOf_106, .lp [0, 1, 5, 26, 27, 28] c_impl_RowsOf_17, .bk 0, .sq (.kp [5] c_impl_RowsOf_107)]
def s_impl_RowsOf_64 (p0 : (List S_Cue)) (p1 : Int) (i17_0 : Int) (i34_0 : Int) (x17_1 : S_Cue) (l17_1 : (List Int)) (l64_0 : (List Bool)) : St :=
  ⟨mkSl 121 [(0, .v false [.ro [.sc, .sc, .ro [.sc]] (p0.map rS_Cue)]), (1, .v false [.lit (.int .i64 p1)]), (5, .v false [.ref 0 [] 0 l17_1.length]), (7, .v false [.vptr 0 0]), (8, .v false [.ref 1 [] 0 l64_0.length]), (26, .v false [.ro [.sc, .sc, .ro [.sc]] (p0.map rS_Cue)]), (27, .v false [.lit (.int .i64 (p0.length : Int))]), (28, .v false [.lit (.int .i64 i17_0)]), (35, .v false [.lit (.int .i64 i17_0)]), (36, .v false [.lit (.int .i64 i34_0)])], [some ⟨[.sc], (List.map (rI .i64) l17_1)⟩, some ⟨[.sc], (List.map rB l64_0)⟩], [some [.lit (.int .i64 x17_1.from_), .lit (.int .i64 x17_1.to_), .ro [.sc] (x17_1.lines.map rS)]]⟩
def K_impl_RowsOf_51 : List Fr := [.lp [0, 1, 5, 7, 8, 9, 26, 27, 28, 35, 36, 69, 70] c_impl_RowsOf_51, .bk 4, .bk 3, .sq (.kp [0, 1, 5, 7, 8, 26, 27, 28, 35, 36] c_impl_RowsOf_64), .lp [0, 1, 5, 7, 8, 26, 27, 28, 35, 36] c_impl_RowsOf_34, .bk 2, .sq (.kp [0, 1, 5, 7, 8, 26, 27, 28] c_impl_RowsOf_65), .bk 1, .sq c_impl_RowsOf_106, .lp [0, 1, 5, 26, 27, 28] c_impl_RowsOf_17, .bk 0, .sq (.kp [5] c_impl_RowsOf_107)]
def s_impl_RowsOf_51 (p0 : (List S_Cue)) (p1 : Int) (i34_0 : Int) (i17_0 : Int) (x46_1 : S_Cue) (x17_1 : S_Cue) (l17_1 : (List Int)) (i51_0 : Int) (l51_1 : (List Bool)) : St :=
  ⟨mkSl 121 [(0, .v false [.ro [.sc, .sc, .ro [.sc]] (p0.map rS_Cue)]), (1, .v false [.lit (.int .i64 p1)]), (5, .v false [.ref 0 [] 0 l17_1.length]), (7, .v false [.vptr 0 0]), (8, .v false [.ref 1 [] 0 l51_1.length]), (9, .v false [.lit (.int .i64 i34_0)]), (26, .v false [.ro [.sc, .sc, .ro [.sc]] (p0.map rS_Cue)]), (27, .v false [.lit (.int .i64 (p0.length : Int))]), (28, .v false [.lit (.int .i64 i17_0)]), (35, .v false [.lit (.int .i64 i17_0)]), (36, .v false [.lit (.int .i64 i34_0)]), (69, .v false [.lit (.int .i64 (x46_1.lines.length : Int))]), (70, .v false [.lit (.int .i64 i51_0)])], [some ⟨[.sc], (List.map (rI .i64) l17_1)⟩, some ⟨[.sc], (List.map rB l51_1)⟩], [some [.lit (.int .i64 x17_1.from_), .lit (.int .i64 x17_1.to_), .ro [.sc] (x17_1.lines.map rS)]]⟩
def K_impl_RowsOf_46 : List Fr := [.bk 3, .sq (.kp [0, 1, 5, 7, 8, 26, 27, 28, 35, 36] c_impl_RowsOf_64), .lp [0, 1, 5, 7, 8, 26, 27, 28, 35, 36] c_impl_RowsOf_34, .bk 2, .sq (.kp [0, 1, 5, 7, 8, 26, 27, 28] c_impl_RowsOf_65), .bk 1, .sq c_impl_RowsOf_106, .lp [0, 1, 5, 26, 27, 28] c_impl_RowsOf_17, .bk 0, .sq (.kp [5] c_impl_RowsOf_107)]
def s_impl_RowsOf_46 (p0 : (List S_Cue)) (p1 : Int) (i34_0 : Int) (i17_0 : Int) (x17_1 : S_Cue) (l17_1 : (List Int)) (l34_1 : (List Bool)) (b46_0 : Bool) : St :=
  ⟨mkSl 121 [(0, .v false [.ro [.sc, .sc, .ro [.sc]] (p0.map rS_Cue)]), (1, .v false [.lit (.int .i64 p1)]), (5, .v false [.ref 0 [] 0 l17_1.length]), (7, .v false [.vptr 0 0]), (8, .v false [.ref 1 [] 0 l34_1.length]), (9, .v false [.lit (.int .i64 i34_0)]), (26, .v false [.ro [.sc, .sc, .ro [.sc]] (p0.map rS_Cue)]), (27, .v false [.lit (.int .i64 (p0.length : Int))]), (28, .v false [.lit (.int .i64 i17_0)]), (35, .v false [.lit (.int .i64 i17_0)]), (36, .v false [.lit (.int .i64 i34_0)]), (63, .v false [.lit (.bool b46_0)])], [some ⟨[.sc], (List.map (rI .i64) l17_1)⟩, some ⟨[.sc], (List.map rB l34_1)⟩], [some [.lit (.int .i64 x17_1.from_), .lit (.int .i64 x17_1.to_), .ro [.sc] (x17_1.lines.map rS)]]⟩
def K_impl_RowsOf_99 : List Fr := [.bk 7, .sq c_impl_RowsOf_104, .lp [0, 1, 5, 7, 8, 11, 12, 26, 27, 28] c_impl_RowsOf_72, .bk 6, .sq (.kp [0, 1, 5, 11, 26, 27, 28] c_impl_RowsOf_105), .bk 1, .sq c_impl_RowsOf_106, .lp [0, 1, 5, 26, 27, 28] c_impl_RowsOf_17, .bk 0, .sq (.kp [5] c_impl_RowsOf_107)]
def s_impl_RowsOf_99 (p0 : (List S_Cue)) (p1 : Int) (i72_0 : Int) (i72_1 : Int) (i17_0 : Int) (x17_1 : S_Cue) (l17_1 : (List Int)) (l65_0 : (List Bool)) (b99_0 : Bool) : St :=
  ⟨mkSl 121 [(0, .v false [.ro [.sc, .sc, .ro [.sc]] (p0.map rS_Cue)]), (1, .v false [.lit (.int .i64 p1)]), (5, .v false [.ref 0 [] 0 l17_1.length]), (7, .v false [.vptr 0 0]), (8, .v false [.ref 1 [] 0 l65_0.length]), (11, .v false [.lit (.int .i64 i72_0)]), (12, .v false [.lit (.int .i64 i72_1)]), (13, .v false [.lit (.bool b99_0)]), (26, .v false [.ro [.sc, .sc, .ro [.sc]] (p0.map rS_Cue)]), (27, .v false [.lit (.int .i64 (p0.length : Int))]), (28, .v false [.lit (.int .i64 i17_0)])], [some ⟨[.sc], (List.map (rI .i64) l17_1)⟩, some ⟨[.sc], (List.map rB l65_0)⟩], [some [.lit (.int .i64 x17_1.from_), .lit (.int .i64 x17_1.to_), .ro [.sc] (x17_1.lines.map rS)]]⟩
def K_impl_RowsOf_87 : List Fr := [.lp [0, 1, 5, 7, 8, 11, 12, 13, 26, 27, 28, 98, 99] c_impl_RowsOf_87, .bk 8, .sq (.kp [0, 1, 5, 7, 8, 11, 12, 13, 26, 27, 28] c_impl_RowsOf_99), .bk 7, .sq c_impl_RowsOf_104, .lp [0, 1, 5, 7, 8, 11, 12, 26, 27, 28] c_impl_RowsOf_72, .bk 6, .sq (.kp [0, 1, 5, 11, 26, 27, 28] c_impl_RowsOf_105), .bk 1, .sq c_impl_RowsOf_106, .lp [0, 1, 5, 26, 27, 28] c_impl_RowsOf_17, .bk 0, .sq (.kp [5] c_impl_RowsOf_107)]
def s_impl_RowsOf_87 (p0 : (List S_Cue)) (p1 : Int) (i72_0 : Int) (i72_1 : Int) (i17_0 : Int) (x17_1 : S_Cue) (l17_1 : (List Int)) (l65_0 : (List Bool)) (b87_0 : Bool) (i87_1 : Int) : St :=
  ⟨mkSl 121 [(0, .v false [.ro [.sc, .sc, .ro [.sc]] (p0.map rS_Cue)]), (1, .v false [.lit (.int .i64 p1)]), (5, .v false [.ref 0 [] 0 l17_1.length]), (7, .v false [.vptr 0 0]), (8, .v false [.ref 1 [] 0 l65_0.length]), (11, .v false [.lit (.int .i64 i72_0)]), (12, .v false [.lit (.int .i64 i72_1)]), (13, .v false [.lit (.bool b87_0)]), (26, .v false [.ro [.sc, .sc, .ro [.sc]] (p0.map rS_Cue)]), (27, .v false [.lit (.int .i64 (p0.length : Int))]), (28, .v false [.lit (.int .i64 i17_0)]), (98, .v false [.lit (.int .i64 (x17_1.lines.length : Int))]), (99, .v false [.lit (.int .i64 i87_1)])], [some ⟨[.sc], (List.map (rI .i64) l17_1)⟩, some ⟨[.sc], (List.map rB l65_0)⟩], [some [.lit (.int .i64 x17_1.from_), .lit (.int .i64 x17_1.to_), .ro [.sc] (x17_1.lines.map rS)]]⟩
def K_impl_RowsOf_105 : List Fr := [.bk 1, .sq c_impl_RowsOf_106, .lp [0, 1, 5, 26, 27, 28] c_impl_RowsOf_17, .bk 0, .sq (.kp [5] c_impl_RowsOf_107)]
def s_impl_RowsOf_105 (p0 : (List S_Cue)) (p1 : Int) (i17_0 : Int) (l17_1 : (List Int)) (i105_0 : Int) : St :=
  ⟨mkSl 121 [(0, .v false [.ro [.sc, .sc, .ro [.sc]] (p0.map rS_Cue)]), (1, .v false [.lit (.int .i64 p1)]), (5, .v false [.ref 0 [] 0 l17_1.length]), (11, .v false [.lit (.int .i64 i105_0)]), (26, .v false [.ro [.sc, .sc, .ro [.sc]] (p0.map rS_Cue)]), (27, .v false [.lit (.int .i64 (p0.length : Int))]), (28, .v false [.lit (.int .i64 i17_0)])], [some ⟨[.sc], (List.map (rI .i64) l17_1)⟩], []⟩
def K_impl_RowsOf_72 : List Fr := [.lp [0, 1, 5, 7, 8, 11, 12, 26, 27, 28] c_impl_RowsOf_72, .bk 6, .sq (.kp [0, 1, 5, 11, 26, 27, 28] c_impl_RowsOf_105), .bk 1, .sq c_impl_RowsOf_106, .lp [0, 1, 5, 26, 27, 28] c_impl_RowsOf_17, .bk 0, .sq (.kp [5] c_impl_RowsOf_107)]
def s_impl_RowsOf_72 (p0 : (List S_Cue)) (p1 : Int) (i17_0 : Int) (x17_1 : S_Cue) (l17_1 : (List Int)) (l65_0 : (List Bool)) (i72_0 : Int) (i72_1 : Int) : St :=
  ⟨mkSl 121 [(0, .v false [.ro [.sc, .sc, .ro [.sc]] (p0.map rS_Cue)]), (1, .v false [.lit (.int .i64 p1)]), (5, .v false [.ref 0 [] 0 l17_1.length]), (7, .v false [.vptr 0 0]), (8, .v false [.ref 1 [] 0 l65_0.length]), (11, .v false [.lit (.int .i64 i72_0)]), (12, .v false [.lit (.int .i64 i72_1)]), (26, .v false [.ro [.sc, .sc, .ro [.sc]] (p0.map rS_Cue)]), (27, .v false [.lit (.int .i64 (p0.length : Int))]), (28, .v false [.lit (.int .i64 i17_0)])], [some ⟨[.sc], (List.map (rI .i64) l17_1)⟩, some ⟨[.sc], (List.map rB l65_0)⟩], [some [.lit (.int .i64 x17_1.from_), .lit (.int .i64 x17_1.to_), .ro [.sc] (x17_1.lines.map rS)]]⟩
def K_impl_RowsOf_65 : List Fr := [.bk 1, .sq c_impl_RowsOf_106, .lp [0, 1, 5, 26, 27, 28] c_impl_RowsOf_17, .bk 0, .sq (.kp [5] c_impl_RowsOf_107)]
def s_impl_RowsOf_65 (p0 : (List S_Cue)) (p1 : Int) (i17_0 : Int) (x17_1 : S_Cue) (l17_1 : (List Int)) (l65_0 : (List Bool)) : St :=
  ⟨mkSl 121 [(0, .v false [.ro [.sc, .sc, .ro [.sc]] (p0.map rS_Cue)]), (1, .v false [.lit (.int .i64 p1)]), (5, .v false [.ref 0 [] 0 l17_1.length]), (7, .v false [.vptr 0 0]), (8, .v false [.ref 1 [] 0 l65_0.length]), (26, .v false [.ro [.sc, .sc, .ro [.sc]] (p0.map rS_Cue)]), (27, .v false [.lit (.int .i64 (p0.length : Int))]), (28, .v false [.lit (.int .i64 i17_0)])], [some ⟨[.sc], (List.map (rI .i64) l17_1)⟩, some ⟨[.sc], (List.map rB l65_0)⟩], [some [.lit (.int .i64 x17_1.from_), .lit (.int .i64 x17_1.to_), .ro [.sc] (x17_1.lines.map rS)]]⟩
def K_impl_RowsOf_34 : List Fr := [.lp [0, 1, 5, 7, 8, 26, 27, 28, 35, 36] c_impl_RowsOf_34, .bk 2, .sq (.kp [0, 1, 5, 7, 8, 26, 27, 28] c_impl_RowsOf_65), .bk 1, .sq c_impl_RowsOf_106, .lp [0, 1, 5, 26, 27, 28] c_impl_RowsOf_17, .bk 0, .sq (.kp [5] c_impl_RowsOf_107)]
def s_impl_RowsOf_34 (p0 : (List S_Cue)) (p1 : Int) (i17_0 : Int) (x17_1 : S_Cue) (l17_1 : (List Int)) (i34_0 : Int) (l34_1 : (List Bool)) : St :=
  ⟨mkSl 121 [(0, .v false [.ro [.sc, .sc, .ro [.sc]] (p0.map rS_Cue)]), (1, .v false [.lit (.int .i64 p1)]), (5, .v false [.ref 0 [] 0 l17_1.length]), (7, .v false [.vptr 0 0]), (8, .v false [.ref 1 [] 0 l34_1.length]), (26, .v false [.ro [.sc, .sc, .ro [.sc]] (p0.map rS_Cue)]), (27, .v false [.lit (.int .i64 (p0.length : Int))]), (28, .v false [.lit (.int .i64 i17_0)]), (35, .v false [.lit (.int .i64 i17_0)]), (36, .v false [.lit (.int .i64 i34_0)])], [some ⟨[.sc], (List.map (rI .i64) l17_1)⟩, some ⟨[.sc], (List.map rB l34_1)⟩], [some [.lit (.int .i64 x17_1.from_), .lit (.int .i64 x17_1.to_), .ro [.sc] (x17_1.lines.map rS)]]⟩
def K_impl_RowsOf_107 : List Fr := []
def s_impl_RowsOf_107 (l107_0 : (List Int)) : St :=
  ⟨mkSl 121 [(5, .v false [.ref 0 [] 0 l107_0.length])], [some ⟨[.sc], (List.map (rI .i64) l107_0)⟩], []⟩
def K_impl_RowsOf_17 : List Fr := [.lp [0, 1, 5, 26, 27, 28] c_impl_RowsOf_17, .bk 0, .sq (.kp [5] c_impl_RowsOf_107)]
def s_impl_RowsOf_17 (p0 : (List S_Cue)) (p1 : Int) (i17_0 : Int) (l17_1 : (List Int)) : St :=
  ⟨mkSl 121 [(0, .v false [.ro [.sc, .sc, .ro [.sc]] (p0.map rS_Cue)]), (1, .v false [.lit (.int .i64 p1)]), (5, .v false [.ref 0 [] 0 l17_1.length]), (26, .v false [.ro [.sc, .sc, .ro [.sc]] (p0.map rS_Cue)]), (27, .v false [.lit (.int .i64 (p0.length : Int))]), (28, .v false [.lit (.int .i64 i17_0)])], [some ⟨[.sc], (List.map (rI .i64) l17_1)⟩], []⟩
def K_impl_RowsOf_0 : List Fr := []
def s_impl_RowsOf_0 (p0 : (List S_Cue)) (p1 : Int) : St :=
  ⟨mkSl 121 [(0, .v false [.ro [.sc, .sc, .ro [.sc]] (p0.map rS_Cue)]), (1, .v false [.lit (.int .i64 p1)])], [], []⟩
def K_laws_eqIntS_31 : List Fr := []
def s_laws_eqIntS_31 : St :=
  ⟨mkSl 26 [], [], []⟩
def K_laws_eqIntS_15 : List Fr := [.lp [0, 1, 5] c_laws_eqIntS_15, .bk 0, .sq (.kp [] c_laws_eqIntS_31)]
def s_laws_eqIntS_15 (p0 : (List Int)) (p1 : (List Int)) (i15_0 : Int) : St :=
  ⟨mkSl 26 [(0, .v false [.ro [.sc] (p0.map (rI .i64))]), (1, .v false [.ro [.sc] (p1.map (rI .i64))]), (5, .v false [.lit (.int .i64 i15_0)])], [], []⟩
def K_laws_eqIntS_0 : List Fr := []
def s_laws_eqIntS_0 (p0 : (List Int)) (p1 : (List Int)) : St :=
  ⟨mkSl 26 [(0, .v false [.ro [.sc] (p0.map (rI .i64))]), (1, .v false [.ro [.sc] (p1.map (rI .i64))])], [], []⟩
def K_laws_eqStringS_31 : List Fr := []
def s_laws_eqStringS_31 : St :=
  ⟨mkSl 26 [], [], []⟩
def K_laws_eqStringS_15 : List Fr := [.lp [0, 1, 5] c_laws_eqStringS_15, .bk 0, .sq (.kp [] c_laws_eqStringS_31)]
def s_laws_eqStringS_15 (p0 : (List ByteArray)) (p1 : (List ByteArray)) (i15_0 : Int) : St :=
  ⟨mkSl 26 [(0, .v false [.ro [.sc] (p0.map rS)]), (1, .v false [.ro [.sc] (p1.map rS)]), (5, .v false [.lit (.int .i64 i15_0)])], [], []⟩
def K_laws_eqStringS_0 : List Fr := []
def s_laws_eqStringS_0 (p0 : (List ByteArray)) (p1 : (List ByteArray)) : St :=
  ⟨mkSl 26 [(0, .v false [.ro [.sc] (p0.map rS)]), (1, .v false [.ro [.sc] (p1.map rS)])], [], []⟩
def K_laws_eqCue_0 : List Fr := []
def s_laws_eqCue_0 (p0 : S_Cue) (p1 : S_Cue) : St :=
  ⟨mkSl 21 [(0, .v true [.lit (.int .i64 p0.from_), .lit (.int .i64 p0.to_), .ro [.sc] (p0.lines.map rS)]), (1, .v true [.lit (.int .i64 p1.from_), .lit (.int .i64 p1.to_), .ro [.sc] (p1.lines.map rS)])], [], []⟩
def K_laws_eqCueS_31 : List Fr := []
def s_laws_eqCueS_31 : St :=
  ⟨mkSl 27 [], [], []⟩
def K_laws_eqCueS_15 : List Fr := [.lp [0, 1, 5] c_laws_eqCueS_15, .bk 0, .sq (.kp [] c_laws_eqCueS_31)]
def s_laws_eqCueS_15 (p0 : (List S_Cue)) (p1 : (List S_Cue)) (i15_0 : Int) : St :=
  ⟨mkSl 27 [(0, .v false [.ro [.sc, .sc, .ro [.sc]] (p0.map rS_Cue)]), (1, .v false [.ro [.sc, .sc, .ro [.sc]] (p1.map rS_Cue)]), (5, .v false [.lit (.int .i64 i15_0)])], [], []⟩
def K_laws_eqCueS_0 : List Fr := []
def s_laws_eqCueS_0 (p0 : (List S_Cue)) (p1 : (List S_Cue)) : St :=
  ⟨mkSl 27 [(0, .v false [.ro [.sc, .sc, .ro [.sc]] (p0.map rS_Cue)]), (1, .v false [.ro [.sc, .sc, .ro [.sc]] (p1.map rS_Cue)])], [], []⟩
def K_laws_markText_25 : List Fr := []
def s_laws_markText_25 (l25_0 : ByteArray) : St :=
  ⟨mkSl 20 [(3, .v false [.lit (.string l25_0)])], [], []⟩
def K_laws_markText_15 : List Fr := [.lp [0, 3] c_laws_markText_15, .bk 0, .sq (.kp [3] c_laws_markText_25)]
def s_laws_markText_15 (i15_0 : Int) (l15_1 : ByteArray) : St :=
  ⟨mkSl 20 [(0, .v false [.lit (.int .i64 i15_0)]), (3, .v false [.lit (.string l15_1)])], [], []⟩
def K_laws_markText_0 : List Fr := []
def s_laws_markText_0 (p0 : Int) : St :=
  ⟨mkSl 20 [(0, .v false [.lit (.int .i64 p0)])], [], []⟩
def K_laws_markStringS_19 : List Fr := []
def s_laws_markStringS_19 (i19_0 : Int) (l19_1 : (List ByteArray)) : St :=
  ⟨mkSl 20 [(0, .v false [.ref 0 [] 0 l19_1.length]), (1, .v false [.lit (.int .i64 i19_0)])], [some ⟨[.sc], (List.map rS l19_1)⟩], []⟩
def K_laws_markStringS_7 : List Fr := [.lp [0, 1, 5] c_laws_markStringS_7, .bk 0, .sq (.kp [0, 1] c_laws_markStringS_19)]
def s_laws_markStringS_7 (i7_0 : Int) (i7_1 : Int) (l7_2 : (List ByteArray)) : St :=
  ⟨mkSl 20 [(0, .v false [.ref 0 [] 0 l7_2.length]), (1, .v false [.lit (.int .i64 i7_0)]), (5, .v false [.lit (.int .i64 i7_1)])], [some ⟨[.sc], (List.map rS l7_2)⟩], []⟩
def K_laws_markStringS_0 : List Fr := []
def s_laws_markStringS_0 (p1 : Int) (p0 : (List ByteArray)) : St :=
  ⟨mkSl 20 [(0, .v false [.ref 0 [] 0 p0.length]), (1, .v false [.lit (.int .i64 p1)])], [some ⟨[.sc], (List.map rS p0)⟩], []⟩
def K_laws_markCueS_25 : List Fr := []
def s_laws_markCueS_25 (i25_0 : Int) (l25_1 : (List S_Cue)) : St :=
  ⟨mkSl 34 [(0, .v false [.ref 0 [] 0 l25_1.length]), (1, .v false [.lit (.int .i64 i25_0)])], [some ⟨[.sc, .sc, .own [.sc]], (List.map rS_Cue l25_1)⟩], []⟩
def K_laws_markCueS_7 : List Fr := [.lp [0, 1, 5] c_laws_markCueS_7, .bk 0, .sq (.kp [0, 1] c_laws_markCueS_25)]
def s_laws_markCueS_7 (i7_0 : Int) (i7_1 : Int) (l7_2 : (List S_Cue)) : St :=
  ⟨mkSl 34 [(0, .v false [.ref 0 [] 0 l7_2.length]), (1, .v false [.lit (.int .i64 i7_0)]), (5, .v false [.lit (.int .i64 i7_1)])], [some ⟨[.sc, .sc, .own [.sc]], (List.map rS_Cue l7_2)⟩], []⟩
def K_laws_markCueS_0 : List Fr := []
def s_laws_markCueS_0 (p1 : Int) (p0 : (List S_Cue)) : St :=
  ⟨mkSl 34 [(0, .v false [.ref 0 [] 0 p0.length]), (1, .v false [.lit (.int .i64 p1)])], [some ⟨[.sc, .sc, .own [.sc]], (List.map rS_Cue p0)⟩], []⟩
def K_laws_markIntS_19 : List Fr := []
def s_laws_markIntS_19 (i19_0 : Int) (l19_1 : (List Int)) : St :=
  ⟨mkSl 19 [(0, .v false [.ref 0 [] 0 l19_1.length]), (1, .v false [.lit (.int .i64 i19_0)])], [some ⟨[.sc], (List.map (rI .i64) l19_1)⟩], []⟩
def K_laws_markIntS_7 : List Fr := [.lp [0, 1, 5] c_laws_markIntS_7, .bk 0, .sq (.kp [0, 1] c_laws_markIntS_19)]
def s_laws_markIntS_7 (i7_0 : Int) (i7_1 : Int) (l7_2 : (List Int)) : St :=
  ⟨mkSl 19 [(0, .v false [.ref 0 [] 0 l7_2.length]), (1, .v false [.lit (.int .i64 i7_0)]), (5, .v false [.lit (.int .i64 i7_1)])], [some ⟨[.sc], (List.map (rI .i64) l7_2)⟩], []⟩
def K_laws_markIntS_0 : List Fr := []
def s_laws_markIntS_0 (p1 : Int) (p0 : (List Int)) : St :=
  ⟨mkSl 19 [(0, .v false [.ref 0 [] 0 p0.length]), (1, .v false [.lit (.int .i64 p1)])], [some ⟨[.sc], (List.map (rI .i64) p0)⟩], []⟩
def K_laws_heldIntS_25 : List Fr := []
def s_laws_heldIntS_25 (i25_0 : Int) : St :=
  ⟨mkSl 21 [(1, .v false [.lit (.int .i64 i25_0)])], [], []⟩
def K_laws_heldIntS_7 : List Fr := [.lp [0, 1, 5] c_laws_heldIntS_7, .bk 0, .sq (.kp [1] c_laws_heldIntS_25)]
def s_laws_heldIntS_7 (p0 : (List Int)) (i7_0 : Int) (i7_1 : Int) : St :=
  ⟨mkSl 21 [(0, .v false [.ro [.sc] (p0.map (rI .i64))]), (1, .v false [.lit (.int .i64 i7_0)]), (5, .v false [.lit (.int .i64 i7_1)])], [], []⟩
def K_laws_heldIntS_0 : List Fr := []
def s_laws_heldIntS_0 (p0 : (List Int)) (p1 : Int) : St :=
  ⟨mkSl 21 [(0, .v false [.ro [.sc] (p0.map (rI .i64))]), (1, .v false [.lit (.int .i64 p1)])], [], []⟩
def K_laws_FnExactRowsOf_0 : List Fr := []
def s_laws_FnExactRowsOf_0 (p0 : (List S_Cue)) (p1 : Int) : St :=
  ⟨mkSl 74 [(0, .v false [.ro [.sc, .sc, .ro [.sc]] (p0.map rS_Cue)]), (1, .v false [.lit (.int .i64 p1)])], [], []⟩
def O_laws_szStringS_17 (Q : VX → St → Prop) (e : (Int) ⊕ ((Int))) : Prop := match e with | .inl e => Q = Post vf_laws_szStringS (res_laws_szStringS e) | .inr e => EvU ext tbl (.c c_laws_szStringS_35) K_laws_szStringS_35 (s_laws_szStringS_35 e) Q
theorem ok_laws_szStringS_35 (i35_0 : Int) (r : Int) (hm : m_laws_szStringS_35 i35_0 = some r) : EvU ext tbl (.c c_laws_szStringS_35) K_laws_szStringS_35 (s_laws_szStringS_35 i35_0) (Post vf_laws_szStringS (res_laws_szStringS r)) := by
  exact go_end [] 1000 True.intro (congrArg res_laws_szStringS (Option.some.inj hm)) (by kernel_rfl)

theorem ok_laws_szStringS_17 (p0 : (List ByteArray)) (i17_0 : Int) (i17_1 : Int) (y : (Int × Int) ⊕ ((Int) ⊕ ((Int)))) (hm : m_laws_szStringS_17 p0 i17_0 i17_1 = some y) (Q : VX → St → Prop)
    (hin : ∀ s, y = .inl s → EvU ext tbl (.c c_laws_szStringS_17) K_laws_szStringS_17 (s_laws_szStringS_17 p0 s.1 s.2) Q) (hout : ∀ e, y = .inr e → O_laws_szStringS_17 Q e) : EvU ext tbl (.c c_laws_szStringS_17) K_laws_szStringS_17 (s_laws_szStringS_17 p0 i17_0 i17_1) Q := by
  obtain ⟨h17_0, hm⟩ | ⟨h17_0, hm⟩ := split_ite hm
  · skip
    obtain ⟨x17_1, h17_1, hm⟩ := bind_some hm
    obtain ⟨h17_2, hm⟩ | ⟨h17_2, hm⟩ := split_ite hm
    · skip
      have hQ : Q = Post vf_laws_szStringS (res_laws_szStringS (-1)) := hout (.inl (-1)) (Option.some.inj hm).symm
      subst hQ
      exact go_end [.num p0.length, .bit true, .row (rS x17_1), .bit true] 1000 (And.intro (len_map rS (show p0.length = p0.length from rfl)) (And.intro h17_0 (And.intro (rd_nn h17_1) (And.intro (at_row rS (rd_get h17_1)) (And.intro h17_2 True.intro))))) (rfl : res_laws_szStringS (-1) = res_laws_szStringS (-1)) (by kernel_rfl)
    · skip
      refine go_on (u' := .c c_laws_szStringS_17) (K' := K_laws_szStringS_17) (st' := s_laws_szStringS_17 p0 (w64 (i17_0 - (x17_1.size : Int))) (w64 (i17_1 + 1))) [.num p0.length, .bit true, .row (rS x17_1), .bit false] 1000 (And.intro (len_map rS (show p0.length = p0.length from rfl)) (And.intro h17_0 (And.intro (rd_nn h17_1) (And.intro (at_row rS (rd_get h17_1)) (And.intro h17_2 True.intro))))) ?_ (by kernel_rfl)
      exact hin ((w64 (i17_0 - (x17_1.size : Int))), (w64 (i17_1 + 1))) (Option.some.inj hm).symm
  · skip
    refine go_on (u' := .c c_laws_szStringS_35) (K' := K_laws_szStringS_35) (st' := s_laws_szStringS_35 i17_0) [.num p0.length, .bit false] 1000 (And.intro (len_map rS (show p0.length = p0.length from rfl)) (And.intro h17_0 True.intro)) ?_ (by kernel_rfl)
    exact hout (.inr i17_0) (Option.some.inj hm).symm

theorem ok_laws_szStringS_0 (p0 : (List ByteArray)) (p1 : Int) (r : Int) (hm : m_laws_szStringS_0 p0 p1 = some r) : EvU ext tbl (.c c_laws_szStringS_0) K_laws_szStringS_0 (s_laws_szStringS_0 p0 p1) (Post vf_laws_szStringS (res_laws_szStringS r)) := by
  obtain ⟨h0_0, hm⟩ | ⟨h0_0, hm⟩ := split_ite hm
  · skip
    exact go_end [.num p0.length, .bit true] 1000 (And.intro (len_map rS (show p0.length = p0.length from rfl)) (And.intro h0_0 True.intro)) (congrArg res_laws_szStringS (Option.some.inj hm)) (by kernel_rfl)
  · skip
    refine go_on (u' := .c c_laws_szStringS_17) (K' := K_laws_szStringS_17) (st' := s_laws_szStringS_17 p0 (w64 (p1 - (p0.length : Int))) 0) [.num p0.length, .bit false] 1000 (And.intro (len_map rS (show p0.length = p0.length from rfl)) (And.intro h0_0 True.intro)) ?_ (by kernel_rfl)
    obtain ⟨e, he, hm⟩ := bind_some hm
    refine loop_rule (u := .c c_laws_szStringS_17) (K := K_laws_szStringS_17) (Q := (Post vf_laws_szStringS (res_laws_szStringS r))) (b := lp_laws_szStringS_17 p0) (We := O_laws_szStringS_17 (Post vf_laws_szStringS (res_laws_szStringS r))) (stJ := fun s => s_laws_szStringS_17 p0 s.1 s.2) (s := ((w64 (p1 - (p0.length : Int))), 0)) (fun s y hb hin hout => ok_laws_szStringS_17 p0 s.1 s.2 y hb (Post vf_laws_szStringS (res_laws_szStringS r)) hin hout) he ?_
    rcases e with e | e
    · skip
      exact congrArg (fun r => Post vf_laws_szStringS (res_laws_szStringS r)) (Option.some.inj hm).symm
    · skip
      show EvU ext tbl (.c c_laws_szStringS_35) K_laws_szStringS_35 (s_laws_szStringS_35 e) _
      exact ok_laws_szStringS_35 e r hm

theorem ok_laws_szStringS (p0 : (List ByteArray)) (p1 : Int) (r : Int) (hm : m_laws_szStringS p0 p1 = some r) : Runs ext tbl 45 (as_laws_szStringS p0 p1) (res_laws_szStringS r) :=
  runs_of (vf := vf_laws_szStringS) (by kernel_rfl) rfl (st := (enter vf_laws_szStringS (as_laws_szStringS p0 p1)).getD default) (by kernel_rfl) (go_on [] 1000 True.intro (ok_laws_szStringS_0 p0 p1 r hm) (by kernel_rfl))
theorem ok_laws_szCue_0 (p0 : S_Cue) (p1 : Int) (r : Int) (hm : m_laws_szCue_0 p0 p1 = some r) : EvU ext tbl (.c c_laws_szCue_0) K_laws_szCue_0 (s_laws_szCue_0 p0 p1) (Post vf_laws_szCue (res_laws_szCue r)) := by
  obtain ⟨x0_0, h0_0, hm⟩ := bind_some hm
  obtain ⟨h0_1, hm⟩ | ⟨h0_1, hm⟩ := split_ite hm
  · skip
    exact go_end [.res (res_laws_szStringS x0_0), .bit true] 1000 (And.intro (ok_laws_szStringS p0.lines p1 x0_0 h0_0) (And.intro h0_1 True.intro)) (congrArg res_laws_szCue (Option.some.inj hm)) (by kernel_rfl)
  · skip
    exact go_end [.res (res_laws_szStringS x0_0), .bit false] 1000 (And.intro (ok_laws_szStringS p0.lines p1 x0_0 h0_0) (And.intro h0_1 True.intro)) (congrArg res_laws_szCue (Option.some.inj hm)) (by kernel_rfl)

theorem ok_laws_szCue (p0 : S_Cue) (p1 : Int) (r : Int) (hm : m_laws_szCue p0 p1 = some r) : Runs ext tbl 32 (as_laws_szCue p0 p1) (res_laws_szCue r) :=
  runs_of (vf := vf_laws_szCue) (by kernel_rfl) rfl (st := (enter vf_laws_szCue (as_laws_szCue p0 p1)).getD default) (by kernel_rfl) (go_on [] 1000 True.intro (ok_laws_szCue_0 p0 p1 r hm) (by kernel_rfl))
def O_laws_szCueS_17 (Q : VX → St → Prop) (e : (Int) ⊕ ((Int))) : Prop := match e with | .inl e => Q = Post vf_laws_szCueS (res_laws_szCueS e) | .inr e => EvU ext tbl (.c c_laws_szCueS_35) K_laws_szCueS_35 (s_laws_szCueS_35 e) Q
theorem ok_laws_szCueS_35 (i35_0 : Int) (r : Int) (hm : m_laws_szCueS_35 i35_0 = some r) : EvU ext tbl (.c c_laws_szCueS_35) K_laws_szCueS_35 (s_laws_szCueS_35 i35_0) (Post vf_laws_szCueS (res_laws_szCueS r)) := by
  exact go_end [] 1000 True.intro (congrArg res_laws_szCueS (Option.some.inj hm)) (by kernel_rfl)

theorem ok_laws_szCueS_17 (p0 : (List S_Cue)) (i17_0 : Int) (i17_1 : Int) (y : (Int × Int) ⊕ ((Int) ⊕ ((Int)))) (hm : m_laws_szCueS_17 p0 i17_0 i17_1 = some y) (Q : VX → St → Prop)
    (hin : ∀ s, y = .inl s → EvU ext tbl (.c c_laws_szCueS_17) K_laws_szCueS_17 (s_laws_szCueS_17 p0 s.1 s.2) Q) (hout : ∀ e, y = .inr e → O_laws_szCueS_17 Q e) : EvU ext tbl (.c c_laws_szCueS_17) K_laws_szCueS_17 (s_laws_szCueS_17 p0 i17_0 i17_1) Q := by
  obtain ⟨h17_0, hm⟩ | ⟨h17_0, hm⟩ := split_ite hm
  · skip
    obtain ⟨x17_1, h17_1, hm⟩ := bind_some hm
    obtain ⟨x17_2, h17_2, hm⟩ := bind_some hm
    obtain ⟨h17_3, hm⟩ | ⟨h17_3, hm⟩ := split_ite hm
    · skip
      have hQ : Q = Post vf_laws_szCueS (res_laws_szCueS (-1)) := hout (.inl (-1)) (Option.some.inj hm).symm
      subst hQ
      exact go_end [.num p0.length, .bit true, .row (rS_Cue x17_1), .res (res_laws_szCue x17_2), .bit true] 1000 (And.intro (len_map rS_Cue (show p0.length = p0.length from rfl)) (And.intro h17_0 (And.intro (rd_nn h17_1) (And.intro (at_row rS_Cue (rd_get h17_1)) (And.intro (ok_laws_szCue x17_1 i17_0 x17_2 h17_2) (And.intro h17_3 True.intro)))))) (rfl : res_laws_szCueS (-1) = res_laws_szCueS (-1)) (by kernel_rfl)
    · skip
      refine go_on (u' := .c c_laws_szCueS_17) (K' := K_laws_szCueS_17) (st' := s_laws_szCueS_17 p0 x17_2 (w64 (i17_1 + 1))) [.num p0.length, .bit true, .row (rS_Cue x17_1), .res (res_laws_szCue x17_2), .bit false] 1000 (And.intro (len_map rS_Cue (show p0.length = p0.length from rfl)) (And.intro h17_0 (And.intro (rd_nn h17_1) (And.intro (at_row rS_Cue (rd_get h17_1)) (And.intro (ok_laws_szCue x17_1 i17_0 x17_2 h17_2) (And.intro h17_3 True.intro)))))) ?_ (by kernel_rfl)
      exact hin (x17_2, (w64 (i17_1 + 1))) (Option.some.inj hm).symm
  · skip
    refine go_on (u' := .c c_laws_szCueS_35) (K' := K_laws_szCueS_35) (st' := s_laws_szCueS_35 i17_0) [.num p0.length, .bit false] 1000 (And.intro (len_map rS_Cue (show p0.length = p0.length from rfl)) (And.intro h17_0 True.intro)) ?_ (by kernel_rfl)
    exact hout (.inr i17_0) (Option.some.inj hm).symm

theorem ok_laws_szCueS_0 (p0 : (List S_Cue)) (p1 : Int) (r : Int) (hm : m_laws_szCueS_0 p0 p1 = some r) : EvU ext tbl (.c c_laws_szCueS_0) K_laws_szCueS_0 (s_laws_szCueS_0 p0 p1) (Post vf_laws_szCueS (res_laws_szCueS r)) := by
  obtain ⟨h0_0, hm⟩ | ⟨h0_0, hm⟩ := split_ite hm
  · skip
    exact go_end [.num p0.length, .bit true] 1000 (And.intro (len_map rS_Cue (show p0.length = p0.length from rfl)) (And.intro h0_0 True.intro)) (congrArg res_laws_szCueS (Option.some.inj hm)) (by kernel_rfl)
  · skip
    refine go_on (u' := .c c_laws_szCueS_17) (K' := K_laws_szCueS_17) (st' := s_laws_szCueS_17 p0 (w64 (p1 - (p0.length : Int))) 0) [.num p0.length, .bit false] 1000 (And.intro (len_map rS_Cue (show p0.length = p0.length from rfl)) (And.intro h0_0 True.intro)) ?_ (by kernel_rfl)
    obtain ⟨e, he, hm⟩ := bind_some hm
    refine loop_rule (u := .c c_laws_szCueS_17) (K := K_laws_szCueS_17) (Q := (Post vf_laws_szCueS (res_laws_szCueS r))) (b := lp_laws_szCueS_17 p0) (We := O_laws_szCueS_17 (Post vf_laws_szCueS (res_laws_szCueS r))) (stJ := fun s => s_laws_szCueS_17 p0 s.1 s.2) (s := ((w64 (p1 - (p0.length : Int))), 0)) (fun s y hb hin hout => ok_laws_szCueS_17 p0 s.1 s.2 y hb (Post vf_laws_szCueS (res_laws_szCueS r)) hin hout) he ?_
    rcases e with e | e
    · skip
      exact congrArg (fun r => Post vf_laws_szCueS (res_laws_szCueS r)) (Option.some.inj hm).symm
    · skip
      show EvU ext tbl (.c c_laws_szCueS_35) K_laws_szCueS_35 (s_laws_szCueS_35 e) _
      exact ok_laws_szCueS_35 e r hm

theorem ok_laws_szCueS (p0 : (List S_Cue)) (p1 : Int) (r : Int) (hm : m_laws_szCueS p0 p1 = some r) : Runs ext tbl 12 (as_laws_szCueS p0 p1) (res_laws_szCueS r) :=
  runs_of (vf := vf_laws_szCueS) (by kernel_rfl) rfl (st := (enter vf_laws_szCueS (as_laws_szCueS p0 p1)).getD default) (by kernel_rfl) (go_on [] 1000 True.intro (ok_laws_szCueS_0 p0 p1 r hm) (by kernel_rfl))
def O_laws_toStringS_9 (Q : VX → St → Prop) (e : ((List ByteArray))) : Prop := EvU ext tbl (.c c_laws_toStringS_19) K_laws_toStringS_19 (s_laws_toStringS_19 e) Q
theorem ok_laws_toStringS_19 (l19_0 : (List ByteArray)) (r : (List ByteArray)) (hm : m_laws_toStringS_19 l19_0 = some r) : EvU ext tbl (.c c_laws_toStringS_19) K_laws_toStringS_19 (s_laws_toStringS_19 l19_0) (Post vf_laws_toStringS (res_laws_toStringS r)) := by
  exact go_end [.rows (List.map rS l19_0)] 1000 (And.intro (all_le0 rS l19_0 rfl) (And.intro (all_t rS l19_0 rfl) True.intro)) (congrArg res_laws_toStringS (Option.some.inj hm)) (by kernel_rfl)

theorem ok_laws_toStringS_9 (p0 : (List ByteArray)) (i9_0 : Int) (l9_1 : (List ByteArray)) (y : (Int × (List ByteArray)) ⊕ (((List ByteArray)))) (hm : m_laws_toStringS_9 p0 i9_0 l9_1 = some y) (Q : VX → St → Prop)
    (hin : ∀ s, y = .inl s → EvU ext tbl (.c c_laws_toStringS_9) K_laws_toStringS_9 (s_laws_toStringS_9 p0 s.1 s.2) Q) (hout : ∀ e, y = .inr e → O_laws_toStringS_9 Q e) : EvU ext tbl (.c c_laws_toStringS_9) K_laws_toStringS_9 (s_laws_toStringS_9 p0 i9_0 l9_1) Q := by
  obtain ⟨h9_0, hm⟩ | ⟨h9_0, hm⟩ := split_ite hm
  · skip
    obtain ⟨x9_1, h9_1, hm⟩ := bind_some hm
    obtain ⟨x9_2, h9_2, hm⟩ := bind_some hm
    refine go_on (u' := .c c_laws_toStringS_9) (K' := K_laws_toStringS_9) (st' := s_laws_toStringS_9 p0 (w64 (i9_0 + 1)) (l9_1.set (0 + Int.toNat i9_0) x9_1)) [.num p0.length, .bit true, .row (rS x9_1), .rows (List.map rS (l9_1.set (0 + Int.toNat i9_0) x9_1)), .num ((l9_1.set (0 + Int.toNat i9_0) x9_1).length)] 1000 (And.intro (len_map rS (show p0.length = p0.length from rfl)) (And.intro h9_0 (And.intro (rd_nn h9_1) (And.intro (at_row rS (rd_get h9_1)) (And.intro (rd_in rfl h9_2) (And.intro (put_ob rS x9_1 0 (.lit (.string x9_1)) (rd_get0 h9_2) (by kernel_rfl) (by kernel_rfl)) (And.intro (lens l9_1.length ((l9_1.set (0 + Int.toNat i9_0) x9_1).length) (set_len rfl)) True.intro))))))) ?_ (by kernel_rfl)
    exact hin ((w64 (i9_0 + 1)), (l9_1.set (0 + Int.toNat i9_0) x9_1)) (Option.some.inj hm).symm
  · skip
    refine go_on (u' := .c c_laws_toStringS_19) (K' := K_laws_toStringS_19) (st' := s_laws_toStringS_19 l9_1) [.num p0.length, .bit false, .num l9_1.length] 1000 (And.intro (len_map rS (show p0.length = p0.length from rfl)) (And.intro h9_0 (And.intro (lens l9_1.length l9_1.length rfl) True.intro))) ?_ (by kernel_rfl)
    exact hout l9_1 (Option.some.inj hm).symm

theorem ok_laws_toStringS_0 (p0 : (List ByteArray)) (r : (List ByteArray)) (hm : m_laws_toStringS_0 p0 = some r) : EvU ext tbl (.c c_laws_toStringS_0) K_laws_toStringS_0 (s_laws_toStringS_0 p0) (Post vf_laws_toStringS (res_laws_toStringS r)) := by
  obtain ⟨x0_0, h0_0, hm⟩ := bind_some hm
  refine go_on (u' := .c c_laws_toStringS_9) (K' := K_laws_toStringS_9) (st' := s_laws_toStringS_9 p0 0 (List.replicate (Int.toNat (p0.length : Int)) ((ByteArray.mk #[]) : ByteArray))) [.num p0.length, .rows (List.map rS (List.replicate (Int.toNat (p0.length : Int)) ((ByteArray.mk #[]) : ByteArray))), .num (Int.toNat (p0.length : Int)), .num ((List.replicate (Int.toNat (p0.length : Int)) ((ByteArray.mk #[]) : ByteArray)).length)] 1000 (And.intro (len_map rS (show p0.length = p0.length from rfl)) (And.intro (ck_p h0_0) (And.intro (rep_ob rS (Int.toNat (p0.length : Int)) ((ByteArray.mk #[]) : ByteArray) [.lit (.string (ByteArray.mk #[]))] (by kernel_rfl)) (And.intro (len_map rS (show (Int.toNat (p0.length : Int)) = (List.replicate (Int.toNat (p0.length : Int)) ((ByteArray.mk #[]) : ByteArray)).length from (rep_len (Int.toNat (p0.length : Int)) ((ByteArray.mk #[]) : ByteArray)))) (And.intro (lens (Int.toNat (p0.length : Int)) ((List.replicate (Int.toNat (p0.length : Int)) ((ByteArray.mk #[]) : ByteArray)).length) (rep_len (Int.toNat (p0.length : Int)) ((ByteArray.mk #[]) : ByteArray))) True.intro))))) ?_ (by kernel_rfl)
  obtain ⟨e, he, hm⟩ := bind_some hm
  refine loop_rule (u := .c c_laws_toStringS_9) (K := K_laws_toStringS_9) (Q := (Post vf_laws_toStringS (res_laws_toStringS r))) (b := lp_laws_toStringS_9 p0) (We := O_laws_toStringS_9 (Post vf_laws_toStringS (res_laws_toStringS r))) (stJ := fun s => s_laws_toStringS_9 p0 s.1 s.2) (s := (0, (List.replicate (Int.toNat (p0.length : Int)) ((ByteArray.mk #[]) : ByteArray)))) (fun s y hb hin hout => ok_laws_toStringS_9 p0 s.1 s.2 y hb (Post vf_laws_toStringS (res_laws_toStringS r)) hin hout) he ?_
  show EvU ext tbl (.c c_laws_toStringS_19) K_laws_toStringS_19 (s_laws_toStringS_19 e) _
  exact ok_laws_toStringS_19 e r hm

theorem ok_laws_toStringS (p0 : (List ByteArray)) (r : (List ByteArray)) (hm : m_laws_toStringS p0 = some r) : Runs ext tbl 46 (as_laws_toStringS p0) (res_laws_toStringS r) :=
  runs_of (vf := vf_laws_toStringS) (by kernel_rfl) rfl (st := (enter vf_laws_toStringS (as_laws_toStringS p0)).getD default) (by kernel_rfl) (go_on [] 1000 True.intro (ok_laws_toStringS_0 p0 r hm) (by kernel_rfl))
theorem ok_laws_toCue_0 (p0 : S_Cue) (r : S_Cue) (hm : m_laws_toCue_0 p0 = some r) : EvU ext tbl (.c c_laws_toCue_0) K_laws_toCue_0 (s_laws_toCue_0 p0) (Post vf_laws_toCue (res_laws_toCue r)) := by
  obtain ⟨x0_0, h0_0, hm⟩ := bind_some hm
  exact go_end [.res (res_laws_toStringS x0_0), .num x0_0.length, .rows (List.map rS x0_0)] 1000 (And.intro (ok_laws_toStringS p0.lines x0_0 h0_0) (And.intro (len_map rS (show x0_0.length = x0_0.length from rfl)) (And.intro (all_le0 rS x0_0 rfl) (And.intro (all_t rS x0_0 rfl) True.intro)))) (congrArg res_laws_toCue (Option.some.inj hm)) (by kernel_rfl)

theorem ok_laws_toCue (p0 : S_Cue) (r : S_Cue) (hm : m_laws_toCue p0 = some r) : Runs ext tbl 34 (as_laws_toCue p0) (res_laws_toCue r) :=
  runs_of (vf := vf_laws_toCue) (by kernel_rfl) rfl (st := (enter vf_laws_toCue (as_laws_toCue p0)).getD default) (by kernel_rfl) (go_on [] 1000 True.intro (ok_laws_toCue_0 p0 r hm) (by kernel_rfl))
def O_laws_toCueS_9 (Q : VX → St → Prop) (e : ((List S_Cue))) : Prop := EvU ext tbl (.c c_laws_toCueS_19) K_laws_toCueS_19 (s_laws_toCueS_19 e) Q
theorem ok_laws_toCueS_19 (l19_0 : (List S_Cue)) (r : (List S_Cue)) (hm : m_laws_toCueS_19 l19_0 = some r) : EvU ext tbl (.c c_laws_toCueS_19) K_laws_toCueS_19 (s_laws_toCueS_19 l19_0) (Post vf_laws_toCueS (res_laws_toCueS r)) := by
  exact go_end [.rows (List.map rS_Cue l19_0)] 1000 (And.intro (all_le0 rS_Cue l19_0 rfl) (And.intro (all_t rS_Cue l19_0 rfl) True.intro)) (congrArg res_laws_toCueS (Option.some.inj hm)) (by kernel_rfl)

theorem ok_laws_toCueS_9 (p0 : (List S_Cue)) (i9_0 : Int) (l9_1 : (List S_Cue)) (y : (Int × (List S_Cue)) ⊕ (((List S_Cue)))) (hm : m_laws_toCueS_9 p0 i9_0 l9_1 = some y) (Q : VX → St → Prop)
    (hin : ∀ s, y = .inl s → EvU ext tbl (.c c_laws_toCueS_9) K_laws_toCueS_9 (s_laws_toCueS_9 p0 s.1 s.2) Q) (hout : ∀ e, y = .inr e → O_laws_toCueS_9 Q e) : EvU ext tbl (.c c_laws_toCueS_9) K_laws_toCueS_9 (s_laws_toCueS_9 p0 i9_0 l9_1) Q := by
  obtain ⟨h9_0, hm⟩ | ⟨h9_0, hm⟩ := split_ite hm
  · skip
    obtain ⟨x9_1, h9_1, hm⟩ := bind_some hm
    obtain ⟨x9_2, h9_2, hm⟩ := bind_some hm
    obtain ⟨x9_3, h9_3, hm⟩ := bind_some hm
    refine go_on (u' := .c c_laws_toCueS_9) (K' := K_laws_toCueS_9) (st' := s_laws_toCueS_9 p0 (w64 (i9_0 + 1)) (l9_1.set (0 + Int.toNat i9_0) x9_2)) [.num p0.length, .bit true, .row (rS_Cue x9_1), .res (res_laws_toCue x9_2), .num x9_2.lines.length, .rows (List.map rS_Cue (l9_1.set (0 + Int.toNat i9_0) (S_Cue.mk x9_2.from_ x9_3.to_ x9_3.lines))), .rows (List.map rS_Cue (l9_1.set (0 + Int.toNat i9_0) (S_Cue.mk x9_2.from_ x9_2.to_ x9_3.lines))), .rows (List.map rS x9_2.lines), .rows (List.map rS_Cue (l9_1.set (0 + Int.toNat i9_0) x9_2)), .num ((l9_1.set (0 + Int.toNat i9_0) x9_2).length)] 1000 (And.intro (len_map rS_Cue (show p0.length = p0.length from rfl)) (And.intro h9_0 (And.intro (rd_nn h9_1) (And.intro (at_row rS_Cue (rd_get h9_1)) (And.intro (ok_laws_toCue x9_1 x9_2 h9_2) (And.intro (len_map rS (show x9_2.lines.length = x9_2.lines.length from rfl)) (And.intro (rd_in rfl h9_3) (And.intro (put_ob rS_Cue (S_Cue.mk x9_2.from_ x9_3.to_ x9_3.lines) 0 (.lit (.int .i64 x9_2.from_)) (rd_get0 h9_3) (by kernel_rfl) (by kernel_rfl)) (And.intro (put_ob2 rS_Cue (S_Cue.mk x9_2.from_ x9_2.to_ x9_3.lines) 1 (.lit (.int .i64 x9_2.to_)) (set_at (S_Cue.mk x9_2.from_ x9_3.to_ x9_3.lines) (rd_get0 h9_3)) (by kernel_rfl) (by kernel_rfl)) (And.intro (all_le0 rS x9_2.lines rfl) (And.intro (all_t rS x9_2.lines rfl) (And.intro (put_ob2 rS_Cue x9_2 2 (.sl (x9_2.lines.map rS)) (set_at2 (S_Cue.mk x9_2.from_ x9_2.to_ x9_3.lines) (set_at (S_Cue.mk x9_2.from_ x9_3.to_ x9_3.lines) (rd_get0 h9_3))) (by kernel_rfl) (by kernel_rfl)) (And.intro (lens l9_1.length ((l9_1.set (0 + Int.toNat i9_0) x9_2).length) (set_len rfl)) True.intro))))))))))))) ?_ (by kernel_rfl)
    exact hin ((w64 (i9_0 + 1)), (l9_1.set (0 + Int.toNat i9_0) x9_2)) (Option.some.inj hm).symm
  · skip
    refine go_on (u' := .c c_laws_toCueS_19) (K' := K_laws_toCueS_19) (st' := s_laws_toCueS_19 l9_1) [.num p0.length, .bit false, .num l9_1.length] 1000 (And.intro (len_map rS_Cue (show p0.length = p0.length from rfl)) (And.intro h9_0 (And.intro (lens l9_1.length l9_1.length rfl) True.intro))) ?_ (by kernel_rfl)
    exact hout l9_1 (Option.some.inj hm).symm

theorem ok_laws_toCueS_0 (p0 : (List S_Cue)) (r : (List S_Cue)) (hm : m_laws_toCueS_0 p0 = some r) : EvU ext tbl (.c c_laws_toCueS_0) K_laws_toCueS_0 (s_laws_toCueS_0 p0) (Post vf_laws_toCueS (res_laws_toCueS r)) := by
  obtain ⟨x0_0, h0_0, hm⟩ := bind_some hm
  refine go_on (u' := .c c_laws_toCueS_9) (K' := K_laws_toCueS_9) (st' := s_laws_toCueS_9 p0 0 (List.replicate (Int.toNat (p0.length : Int)) ((S_Cue.mk 0 0 []) : S_Cue))) [.num p0.length, .rows (List.map rS_Cue (List.replicate (Int.toNat (p0.length : Int)) ((S_Cue.mk 0 0 []) : S_Cue))), .num (Int.toNat (p0.length : Int)), .num ((List.replicate (Int.toNat (p0.length : Int)) ((S_Cue.mk 0 0 []) : S_Cue)).length)] 1000 (And.intro (len_map rS_Cue (show p0.length = p0.length from rfl)) (And.intro (ck_p h0_0) (And.intro (rep_ob rS_Cue (Int.toNat (p0.length : Int)) ((S_Cue.mk 0 0 []) : S_Cue) [.lit (.int .i64 0), .lit (.int .i64 0), .sl []] (by kernel_rfl)) (And.intro (len_map rS_Cue (show (Int.toNat (p0.length : Int)) = (List.replicate (Int.toNat (p0.length : Int)) ((S_Cue.mk 0 0 []) : S_Cue)).length from (rep_len (Int.toNat (p0.length : Int)) ((S_Cue.mk 0 0 []) : S_Cue)))) (And.intro (lens (Int.toNat (p0.length : Int)) ((List.replicate (Int.toNat (p0.length : Int)) ((S_Cue.mk 0 0 []) : S_Cue)).length) (rep_len (Int.toNat (p0.length : Int)) ((S_Cue.mk 0 0 []) : S_Cue))) True.intro))))) ?_ (by kernel_rfl)
  obtain ⟨e, he, hm⟩ := bind_some hm
  refine loop_rule (u := .c c_laws_toCueS_9) (K := K_laws_toCueS_9) (Q := (Post vf_laws_toCueS (res_laws_toCueS r))) (b := lp_laws_toCueS_9 p0) (We := O_laws_toCueS_9 (Post vf_laws_toCueS (res_laws_toCueS r))) (stJ := fun s => s_laws_toCueS_9 p0 s.1 s.2) (s := (0, (List.replicate (Int.toNat (p0.length : Int)) ((S_Cue.mk 0 0 []) : S_Cue)))) (fun s y hb hin hout => ok_laws_toCueS_9 p0 s.1 s.2 y hb (Post vf_laws_toCueS (res_laws_toCueS r)) hin hout) he ?_
  show EvU ext tbl (.c c_laws_toCueS_19) K_laws_toCueS_19 (s_laws_toCueS_19 e) _
  exact ok_laws_toCueS_19 e r hm

theorem ok_laws_toCueS (p0 : (List S_Cue)) (r : (List S_Cue)) (hm : m_laws_toCueS p0 = some r) : Runs ext tbl 14 (as_laws_toCueS p0) (res_laws_toCueS r) :=
  runs_of (vf := vf_laws_toCueS) (by kernel_rfl) rfl (st := (enter vf_laws_toCueS (as_laws_toCueS p0)).getD default) (by kernel_rfl) (go_on [] 1000 True.intro (ok_laws_toCueS_0 p0 r hm) (by kernel_rfl))
theorem ok_spec_l15Time_0 (p0 : Int) (r : Bool) (hm : m_spec_l15Time_0 p0 = some r) : EvU ext tbl (.c c_spec_l15Time_0) K_spec_l15Time_0 (s_spec_l15Time_0 p0) (Post vf_spec_l15Time (res_spec_l15Time r)) := by
  obtain ⟨h0_0, hm⟩ | ⟨h0_0, hm⟩ := split_ite hm
  · skip
    exact go_end [.bit true, .bit true, .bit true] 1000 (And.intro h0_0 (And.intro h0_0 (And.intro h0_0 True.intro))) (congrArg res_spec_l15Time (Option.some.inj hm)) (by kernel_rfl)
  · skip
    exact go_end [.bit false, .bit false, .bit false] 1000 (And.intro h0_0 (And.intro h0_0 (And.intro h0_0 True.intro))) (congrArg res_spec_l15Time (Option.some.inj hm)) (by kernel_rfl)

theorem ok_spec_l15Time (p0 : Int) (r : Bool) (hm : m_spec_l15Time p0 = some r) : Runs ext tbl 33 (as_spec_l15Time p0) (res_spec_l15Time r) :=
  runs_of (vf := vf_spec_l15Time) (by kernel_rfl) rfl (st := (enter vf_spec_l15Time (as_spec_l15Time p0)).getD default) (by kernel_rfl) (go_on [] 1000 True.intro (ok_spec_l15Time_0 p0 r hm) (by kernel_rfl))
def O_spec_l15Bytes_7 (Q : VX → St → Prop) (e : (Bool) ⊕ ((Unit))) : Prop := match e with | .inl e => Q = Post vf_spec_l15Bytes (res_spec_l15Bytes e) | .inr e => EvU ext tbl (.c c_spec_l15Bytes_23) K_spec_l15Bytes_23 (s_spec_l15Bytes_23) Q
theorem ok_spec_l15Bytes_23 (r : Bool) (hm : m_spec_l15Bytes_23 = some r) : EvU ext tbl (.c c_spec_l15Bytes_23) K_spec_l15Bytes_23 (s_spec_l15Bytes_23) (Post vf_spec_l15Bytes (res_spec_l15Bytes r)) := by
  exact go_end [] 1000 True.intro (congrArg res_spec_l15Bytes (Option.some.inj hm)) (by kernel_rfl)

theorem ok_spec_l15Bytes_7 (p0 : ByteArray) (i7_0 : Int) (y : (Int) ⊕ ((Bool) ⊕ ((Unit)))) (hm : m_spec_l15Bytes_7 p0 i7_0 = some y) (Q : VX → St → Prop)
    (hin : ∀ s, y = .inl s → EvU ext tbl (.c c_spec_l15Bytes_7) K_spec_l15Bytes_7 (s_spec_l15Bytes_7 p0 s) Q) (hout : ∀ e, y = .inr e → O_spec_l15Bytes_7 Q e) : EvU ext tbl (.c c_spec_l15Bytes_7) K_spec_l15Bytes_7 (s_spec_l15Bytes_7 p0 i7_0) Q := by
  obtain ⟨h7_0, hm⟩ | ⟨h7_0, hm⟩ := split_ite hm
  · skip
    obtain ⟨x7_1, h7_1, hm⟩ := bind_some hm
    obtain ⟨h7_2, hm⟩ | ⟨h7_2, hm⟩ := split_ite hm
    · skip
      have hQ : Q = Post vf_spec_l15Bytes (res_spec_l15Bytes false) := hout (.inl false) (Option.some.inj hm).symm
      subst hQ
      exact go_end [.bit true, .int x7_1, .bit true, .bit true, .bit true, .bit true, .bit true, .bit true] 1000 (And.intro h7_0 (And.intro (sat_nn h7_1) (And.intro (sat_at h7_1) (And.intro h7_2 (And.intro h7_2 (And.intro h7_2 (And.intro h7_2 (And.intro h7_2 (And.intro (Eq.refl true) True.intro))))))))) (rfl : res_spec_l15Bytes false = res_spec_l15Bytes false) (by kernel_rfl)
    · skip
      obtain ⟨h7_3, hm⟩ | ⟨h7_3, hm⟩ := split_ite hm
      · skip
        have hQ : Q = Post vf_spec_l15Bytes (res_spec_l15Bytes false) := hout (.inl false) (Option.some.inj hm).symm
        subst hQ
        exact go_end [.bit true, .int x7_1, .bit false, .bit false, .bit false, .int x7_1, .bit false, .bit false, .bit true] 1000 (And.intro h7_0 (And.intro (sat_nn h7_1) (And.intro (sat_at h7_1) (And.intro h7_2 (And.intro h7_2 (And.intro h7_2 (And.intro (sat_nn h7_1) (And.intro (sat_at h7_1) (And.intro h7_2 (And.intro h7_2 (And.intro h7_3 True.intro))))))))))) (rfl : res_spec_l15Bytes false = res_spec_l15Bytes false) (by kernel_rfl)
      · skip
        refine go_on (u' := .c c_spec_l15Bytes_7) (K' := K_spec_l15Bytes_7) (st' := s_spec_l15Bytes_7 p0 (w64 (i7_0 + 1))) [.bit true, .int x7_1, .bit false, .bit false, .bit false, .int x7_1, .bit false, .bit false, .bit false] 1000 (And.intro h7_0 (And.intro (sat_nn h7_1) (And.intro (sat_at h7_1) (And.intro h7_2 (And.intro h7_2 (And.intro h7_2 (And.intro (sat_nn h7_1) (And.intro (sat_at h7_1) (And.intro h7_2 (And.intro h7_2 (And.intro h7_3 True.intro))))))))))) ?_ (by kernel_rfl)
        exact hin (w64 (i7_0 + 1)) (Option.some.inj hm).symm
  · skip
    refine go_on (u' := .c c_spec_l15Bytes_23) (K' := K_spec_l15Bytes_23) (st' := s_spec_l15Bytes_23) [.bit false] 1000 (And.intro h7_0 True.intro) ?_ (by kernel_rfl)
    exact hout (.inr ()) (Option.some.inj hm).symm

theorem ok_spec_l15Bytes_0 (p0 : ByteArray) (r : Bool) (hm : m_spec_l15Bytes_0 p0 = some r) : EvU ext tbl (.c c_spec_l15Bytes_0) K_spec_l15Bytes_0 (s_spec_l15Bytes_0 p0) (Post vf_spec_l15Bytes (res_spec_l15Bytes r)) := by
  refine go_on (u' := .c c_spec_l15Bytes_7) (K' := K_spec_l15Bytes_7) (st' := s_spec_l15Bytes_7 p0 0) [] 1000 True.intro ?_ (by kernel_rfl)
  obtain ⟨e, he, hm⟩ := bind_some hm
  refine loop_rule (u := .c c_spec_l15Bytes_7) (K := K_spec_l15Bytes_7) (Q := (Post vf_spec_l15Bytes (res_spec_l15Bytes r))) (b := lp_spec_l15Bytes_7 p0) (We := O_spec_l15Bytes_7 (Post vf_spec_l15Bytes (res_spec_l15Bytes r))) (stJ := fun s => s_spec_l15Bytes_7 p0 s) (s := 0) (fun s y hb hin hout => ok_spec_l15Bytes_7 p0 s y hb (Post vf_spec_l15Bytes (res_spec_l15Bytes r)) hin hout) he ?_
  rcases e with e | e
  · skip
    exact congrArg (fun r => Post vf_spec_l15Bytes (res_spec_l15Bytes r)) (Option.some.inj hm).symm
  · skip
    show EvU ext tbl (.c c_spec_l15Bytes_23) K_spec_l15Bytes_23 (s_spec_l15Bytes_23) _
    exact ok_spec_l15Bytes_23 r hm

theorem ok_spec_l15Bytes (p0 : ByteArray) (r : Bool) (hm : m_spec_l15Bytes p0 = some r) : Runs ext tbl 50 (as_spec_l15Bytes p0) (res_spec_l15Bytes r) :=
  runs_of (vf := vf_spec_l15Bytes) (by kernel_rfl) rfl (st := (enter vf_spec_l15Bytes (as_spec_l15Bytes p0)).getD default) (by kernel_rfl) (go_on [] 1000 True.intro (ok_spec_l15Bytes_0 p0 r hm) (by kernel_rfl))
def O_spec_l15Has_7 (Q : VX → St → Prop) (e : (Bool) ⊕ ((Unit))) : Prop := match e with | .inl e => Q = Post vf_spec_l15Has (res_spec_l15Has e) | .inr e => EvU ext tbl (.c c_spec_l15Has_23) K_spec_l15Has_23 (s_spec_l15Has_23) Q
theorem ok_spec_l15Has_23 (r : Bool) (hm : m_spec_l15Has_23 = some r) : EvU ext tbl (.c c_spec_l15Has_23) K_spec_l15Has_23 (s_spec_l15Has_23) (Post vf_spec_l15Has (res_spec_l15Has r)) := by
  exact go_end [] 1000 True.intro (congrArg res_spec_l15Has (Option.some.inj hm)) (by kernel_rfl)

theorem ok_spec_l15Has_7 (p0 : ByteArray) (i7_0 : Int) (y : (Int) ⊕ ((Bool) ⊕ ((Unit)))) (hm : m_spec_l15Has_7 p0 i7_0 = some y) (Q : VX → St → Prop)
    (hin : ∀ s, y = .inl s → EvU ext tbl (.c c_spec_l15Has_7) K_spec_l15Has_7 (s_spec_l15Has_7 p0 s) Q) (hout : ∀ e, y = .inr e → O_spec_l15Has_7 Q e) : EvU ext tbl (.c c_spec_l15Has_7) K_spec_l15Has_7 (s_spec_l15Has_7 p0 i7_0) Q := by
  obtain ⟨h7_0, hm⟩ | ⟨h7_0, hm⟩ := split_ite hm
  · skip
    obtain ⟨x7_1, h7_1, hm⟩ := bind_some hm
    obtain ⟨x7_2, h7_2, hm⟩ := bind_some hm
    obtain ⟨h7_3, hm⟩ | ⟨h7_3, hm⟩ := split_ite hm
    · skip
      have hQ : Q = Post vf_spec_l15Has (res_spec_l15Has true) := hout (.inl true) (Option.some.inj hm).symm
      subst hQ
      exact go_end [.bit true, .bit true] 1000 (And.intro h7_0 (And.intro (ck_p h7_1) (And.intro (ck_p h7_2) (And.intro h7_3 True.intro)))) (rfl : res_spec_l15Has true = res_spec_l15Has true) (by kernel_rfl)
    · skip
      refine go_on (u' := .c c_spec_l15Has_7) (K' := K_spec_l15Has_7) (st' := s_spec_l15Has_7 p0 (w64 (i7_0 + 1))) [.bit true, .bit false] 1000 (And.intro h7_0 (And.intro (ck_p h7_1) (And.intro (ck_p h7_2) (And.intro h7_3 True.intro)))) ?_ (by kernel_rfl)
      exact hin (w64 (i7_0 + 1)) (Option.some.inj hm).symm
  · skip
    refine go_on (u' := .c c_spec_l15Has_23) (K' := K_spec_l15Has_23) (st' := s_spec_l15Has_23) [.bit false] 1000 (And.intro h7_0 True.intro) ?_ (by kernel_rfl)
    exact hout (.inr ()) (Option.some.inj hm).symm

theorem ok_spec_l15Has_0 (p0 : ByteArray) (r : Bool) (hm : m_spec_l15Has_0 p0 = some r) : EvU ext tbl (.c c_spec_l15Has_0) K_spec_l15Has_0 (s_spec_l15Has_0 p0) (Post vf_spec_l15Has (res_spec_l15Has r)) := by
  refine go_on (u' := .c c_spec_l15Has_7) (K' := K_spec_l15Has_7) (st' := s_spec_l15Has_7 p0 0) [] 1000 True.intro ?_ (by kernel_rfl)
  obtain ⟨e, he, hm⟩ := bind_some hm
  refine loop_rule (u := .c c_spec_l15Has_7) (K := K_spec_l15Has_7) (Q := (Post vf_spec_l15Has (res_spec_l15Has r))) (b := lp_spec_l15Has_7 p0) (We := O_spec_l15Has_7 (Post vf_spec_l15Has (res_spec_l15Has r))) (stJ := fun s => s_spec_l15Has_7 p0 s) (s := 0) (fun s y hb hin hout => ok_spec_l15Has_7 p0 s y hb (Post vf_spec_l15Has (res_spec_l15Has r)) hin hout) he ?_
  rcases e with e | e
  · skip
    exact congrArg (fun r => Post vf_spec_l15Has (res_spec_l15Has r)) (Option.some.inj hm).symm
  · skip
    show EvU ext tbl (.c c_spec_l15Has_23) K_spec_l15Has_23 (s_spec_l15Has_23) _
    exact ok_spec_l15Has_23 r hm

theorem ok_spec_l15Has (p0 : ByteArray) (r : Bool) (hm : m_spec_l15Has p0 = some r) : Runs ext tbl 51 (as_spec_l15Has p0) (res_spec_l15Has r) :=
  runs_of (vf := vf_spec_l15Has) (by kernel_rfl) rfl (st := (enter vf_spec_l15Has (as_spec_l15Has p0)).getD default) (by kernel_rfl) (go_on [] 1000 True.intro (ok_spec_l15Has_0 p0 r hm) (by kernel_rfl))
def O_spec_l15Lines_7 (p0 : (List ByteArray)) (Q : VX → St → Prop) (e : (Bool) ⊕ ((Unit))) : Prop := match e with | .inl e => Q = Post vf_spec_l15Lines (res_spec_l15Lines e) | .inr e => EvU ext tbl (.c c_spec_l15Lines_25) K_spec_l15Lines_25 (s_spec_l15Lines_25 p0) Q
theorem ok_spec_l15Lines_25 (p0 : (List ByteArray)) (r : Bool) (hm : m_spec_l15Lines_25 p0 = some r) : EvU ext tbl (.c c_spec_l15Lines_25) K_spec_l15Lines_25 (s_spec_l15Lines_25 p0) (Post vf_spec_l15Lines (res_spec_l15Lines r)) := by
  obtain ⟨h25_0, hm⟩ | ⟨h25_0, hm⟩ := split_ite hm
  · skip
    exact go_end [.num p0.length, .bit true, .bit true, .num p0.length, .bit true, .bit true] 1000 (And.intro (len_map rS (show p0.length = p0.length from rfl)) (And.intro h25_0 (And.intro h25_0 (And.intro (len_map rS (show p0.length = p0.length from rfl)) (And.intro h25_0 (And.intro h25_0 True.intro)))))) (congrArg res_spec_l15Lines (Option.some.inj hm)) (by kernel_rfl)
  · skip
    exact go_end [.num p0.length, .bit false, .bit false, .bit false, .bit false] 1000 (And.intro (len_map rS (show p0.length = p0.length from rfl)) (And.intro h25_0 (And.intro h25_0 (And.intro h25_0 (And.intro h25_0 True.intro))))) (congrArg res_spec_l15Lines (Option.some.inj hm)) (by kernel_rfl)

theorem ok_spec_l15Lines_7 (p0 : (List ByteArray)) (i7_0 : Int) (y : (Int) ⊕ ((Bool) ⊕ ((Unit)))) (hm : m_spec_l15Lines_7 p0 i7_0 = some y) (Q : VX → St → Prop)
    (hin : ∀ s, y = .inl s → EvU ext tbl (.c c_spec_l15Lines_7) K_spec_l15Lines_7 (s_spec_l15Lines_7 p0 s) Q) (hout : ∀ e, y = .inr e → O_spec_l15Lines_7 p0 Q e) : EvU ext tbl (.c c_spec_l15Lines_7) K_spec_l15Lines_7 (s_spec_l15Lines_7 p0 i7_0) Q := by
  obtain ⟨h7_0, hm⟩ | ⟨h7_0, hm⟩ := split_ite hm
  · skip
    obtain ⟨x7_1, h7_1, hm⟩ := bind_some hm
    obtain ⟨h7_2, hm⟩ | ⟨h7_2, hm⟩ := split_ite hm
    · skip
      have hQ : Q = Post vf_spec_l15Lines (res_spec_l15Lines false) := hout (.inl false) (Option.some.inj hm).symm
      subst hQ
      exact go_end [.bit true, .row (rS x7_1), .bit true, .bit true, .bit true, .bit true, .bit true, .bit true, .bit true, .bit true, .bit true, .bit true, .bit true, .bit true, .bit true, .bit true, .bit true, .bit true, .bit true, .bit true, .bit true] 1000 (And.intro h7_0 (And.intro (rd_nn h7_1) (And.intro (at_row rS (rd_get h7_1)) (And.intro h7_2 (And.intro h7_2 (And.intro h7_2 (And.intro h7_2 (And.intro (Eq.refl true) (And.intro (Eq.refl true) (And.intro (Eq.refl true) (And.intro (Eq.refl true) (And.intro (Eq.refl true) (And.intro (Eq.refl true) (And.intro (Eq.refl true) (And.intro (Eq.refl true) (And.intro (Eq.refl true) (And.intro (Eq.refl true) (And.intro (Eq.refl true) (And.intro (Eq.refl true) (And.intro (Eq.refl true) (And.intro (Eq.refl true) (And.intro (Eq.refl true) True.intro)))))))))))))))))))))) (rfl : res_spec_l15Lines false = res_spec_l15Lines false) (by kernel_rfl)
    · skip
      obtain ⟨h7_3, hm⟩ | ⟨h7_3, hm⟩ := split_ite hm
      · skip
        have hQ : Q = Post vf_spec_l15Lines (res_spec_l15Lines false) := hout (.inl false) (Option.some.inj hm).symm
        subst hQ
        exact go_end [.bit true, .row (rS x7_1), .bit false, .bit false, .bit false, .bit false, .bit true, .bit true, .bit true, .bit true, .bit true, .bit true, .bit true, .bit true, .bit true, .bit true, .bit true, .bit true, .bit true, .bit true, .bit true] 1000 (And.intro h7_0 (And.intro (rd_nn h7_1) (And.intro (at_row rS (rd_get h7_1)) (And.intro h7_2 (And.intro h7_2 (And.intro h7_2 (And.intro h7_2 (And.intro h7_3 (And.intro h7_3 (And.intro h7_3 (And.intro h7_3 (And.intro (Eq.refl true) (And.intro (Eq.refl true) (And.intro (Eq.refl true) (And.intro (Eq.refl true) (And.intro (Eq.refl true) (And.intro (Eq.refl true) (And.intro (Eq.refl true) (And.intro (Eq.refl true) (And.intro (Eq.refl true) (And.intro (Eq.refl true) (And.intro (Eq.refl true) True.intro)))))))))))))))))))))) (rfl : res_spec_l15Lines false = res_spec_l15Lines false) (by kernel_rfl)
      · skip
        obtain ⟨x7_4, h7_4, hm⟩ := bind_some hm
        obtain ⟨h7_5, hm⟩ | ⟨h7_5, hm⟩ := split_ite hm
        · skip
          obtain ⟨x7_6, h7_6, hm⟩ := bind_some hm
          obtain ⟨h7_7, hm⟩ | ⟨h7_7, hm⟩ := split_ite hm
          · skip
            have hQ : Q = Post vf_spec_l15Lines (res_spec_l15Lines false) := hout (.inl false) (Option.some.inj hm).symm
            subst hQ
            exact go_end [.bit true, .row (rS x7_1), .bit false, .bit false, .bit false, .bit false, .bit false, .bit false, .res (res_spec_l15Bytes x7_4), .bit false, .bit false, .bit false, .bit false, .bit false, .bit false, .bit false, .int x7_6, .bit false, .bit false, .bit true, .bit true, .bit true, .bit true] 1000 (And.intro h7_0 (And.intro (rd_nn h7_1) (And.intro (at_row rS (rd_get h7_1)) (And.intro h7_2 (And.intro h7_2 (And.intro h7_2 (And.intro h7_2 (And.intro h7_3 (And.intro h7_3 (And.intro (ok_spec_l15Bytes x7_1 x7_4 h7_4) (And.intro h7_3 (And.intro h7_3 (And.intro (not_f h7_5) (And.intro (not_f h7_5) (And.intro (not_f h7_5) (And.intro (not_f h7_5) (And.intro (not_f h7_5) (And.intro (sat_nn h7_6) (And.intro (sat_at h7_6) (And.intro (not_f h7_5) (And.intro (not_f h7_5) (And.intro h7_7 (And.intro h7_7 (And.intro h7_7 (And.intro (Eq.refl true) True.intro))))))))))))))))))))))))) (rfl : res_spec_l15Lines false = res_spec_l15Lines false) (by kernel_rfl)
          · skip
            obtain ⟨x7_8, h7_8, hm⟩ := bind_some hm
            obtain ⟨h7_9, hm⟩ | ⟨h7_9, hm⟩ := split_ite hm
            · skip
              have hQ : Q = Post vf_spec_l15Lines (res_spec_l15Lines false) := hout (.inl false) (Option.some.inj hm).symm
              subst hQ
              exact go_end [.bit true, .row (rS x7_1), .bit false, .bit false, .bit false, .bit false, .bit false, .bit false, .res (res_spec_l15Bytes x7_4), .bit false, .bit false, .bit false, .bit false, .bit false, .bit false, .bit false, .int x7_6, .bit false, .bit false, .bit false, .bit false, .res (res_spec_l15Has x7_8), .bit false, .bit true] 1000 (And.intro h7_0 (And.intro (rd_nn h7_1) (And.intro (at_row rS (rd_get h7_1)) (And.intro h7_2 (And.intro h7_2 (And.intro h7_2 (And.intro h7_2 (And.intro h7_3 (And.intro h7_3 (And.intro (ok_spec_l15Bytes x7_1 x7_4 h7_4) (And.intro h7_3 (And.intro h7_3 (And.intro (not_f h7_5) (And.intro (not_f h7_5) (And.intro (not_f h7_5) (And.intro (not_f h7_5) (And.intro (not_f h7_5) (And.intro (sat_nn h7_6) (And.intro (sat_at h7_6) (And.intro (not_f h7_5) (And.intro (not_f h7_5) (And.intro h7_7 (And.intro h7_7 (And.intro (ok_spec_l15Has x7_1 x7_8 h7_8) (And.intro h7_7 (And.intro h7_9 True.intro)))))))))))))))))))))))))) (rfl : res_spec_l15Lines false = res_spec_l15Lines false) (by kernel_rfl)
            · skip
              refine go_on (u' := .c c_spec_l15Lines_7) (K' := K_spec_l15Lines_7) (st' := s_spec_l15Lines_7 p0 (w64 (i7_0 + 1))) [.bit true, .row (rS x7_1), .bit false, .bit false, .bit false, .bit false, .bit false, .bit false, .res (res_spec_l15Bytes x7_4), .bit false, .bit false, .bit false, .bit false, .bit false, .bit false, .bit false, .int x7_6, .bit false, .bit false, .bit false, .bit false, .res (res_spec_l15Has x7_8), .bit false, .bit false] 1000 (And.intro h7_0 (And.intro (rd_nn h7_1) (And.intro (at_row rS (rd_get h7_1)) (And.intro h7_2 (And.intro h7_2 (And.intro h7_2 (And.intro h7_2 (And.intro h7_3 (And.intro h7_3 (And.intro (ok_spec_l15Bytes x7_1 x7_4 h7_4) (And.intro h7_3 (And.intro h7_3 (And.intro (not_f h7_5) (And.intro (not_f h7_5) (And.intro (not_f h7_5) (And.intro (not_f h7_5) (And.intro (not_f h7_5) (And.intro (sat_nn h7_6) (And.intro (sat_at h7_6) (And.intro (not_f h7_5) (And.intro (not_f h7_5) (And.intro h7_7 (And.intro h7_7 (And.intro (ok_spec_l15Has x7_1 x7_8 h7_8) (And.intro h7_7 (And.intro h7_9 True.intro)))))))))))))))))))))))))) ?_ (by kernel_rfl)
              exact hin (w64 (i7_0 + 1)) (Option.some.inj hm).symm
        · skip
          have hQ : Q = Post vf_spec_l15Lines (res_spec_l15Lines false) := hout (.inl false) (Option.some.inj hm).symm
          subst hQ
          exact go_end [.bit true, .row (rS x7_1), .bit false, .bit false, .bit false, .bit false, .bit false, .bit false, .res (res_spec_l15Bytes x7_4), .bit false, .bit false, .bit true, .bit true, .bit true, .bit true, .bit true, .bit true, .bit true, .bit true, .bit true, .bit true, .bit true] 1000 (And.intro h7_0 (And.intro (rd_nn h7_1) (And.intro (at_row rS (rd_get h7_1)) (And.intro h7_2 (And.intro h7_2 (And.intro h7_2 (And.intro h7_2 (And.intro h7_3 (And.intro h7_3 (And.intro (ok_spec_l15Bytes x7_1 x7_4 h7_4) (And.intro h7_3 (And.intro h7_3 (And.intro (not_t h7_5) (And.intro (not_t h7_5) (And.intro (not_t h7_5) (And.intro (not_t h7_5) (And.intro (not_t h7_5) (And.intro (not_t h7_5) (And.intro (not_t h7_5) (And.intro (Eq.refl true) (And.intro (Eq.refl true) (And.intro (Eq.refl true) (And.intro (Eq.refl true) True.intro))))))))))))))))))))))) (rfl : res_spec_l15Lines false = res_spec_l15Lines false) (by kernel_rfl)
  · skip
    refine go_on (u' := .c c_spec_l15Lines_25) (K' := K_spec_l15Lines_25) (st' := s_spec_l15Lines_25 p0) [.bit false] 1000 (And.intro h7_0 True.intro) ?_ (by kernel_rfl)
    exact hout (.inr ()) (Option.some.inj hm).symm

theorem ok_spec_l15Lines_0 (p0 : (List ByteArray)) (r : Bool) (hm : m_spec_l15Lines_0 p0 = some r) : EvU ext tbl (.c c_spec_l15Lines_0) K_spec_l15Lines_0 (s_spec_l15Lines_0 p0) (Post vf_spec_l15Lines (res_spec_l15Lines r)) := by
  refine go_on (u' := .c c_spec_l15Lines_7) (K' := K_spec_l15Lines_7) (st' := s_spec_l15Lines_7 p0 0) [.num p0.length] 1000 (And.intro (len_map rS (show p0.length = p0.length from rfl)) True.intro) ?_ (by kernel_rfl)
  obtain ⟨e, he, hm⟩ := bind_some hm
  refine loop_rule (u := .c c_spec_l15Lines_7) (K := K_spec_l15Lines_7) (Q := (Post vf_spec_l15Lines (res_spec_l15Lines r))) (b := lp_spec_l15Lines_7 p0) (We := O_spec_l15Lines_7 p0 (Post vf_spec_l15Lines (res_spec_l15Lines r))) (stJ := fun s => s_spec_l15Lines_7 p0 s) (s := 0) (fun s y hb hin hout => ok_spec_l15Lines_7 p0 s y hb (Post vf_spec_l15Lines (res_spec_l15Lines r)) hin hout) he ?_
  rcases e with e | e
  · skip
    exact congrArg (fun r => Post vf_spec_l15Lines (res_spec_l15Lines r)) (Option.some.inj hm).symm
  · skip
    show EvU ext tbl (.c c_spec_l15Lines_25) K_spec_l15Lines_25 (s_spec_l15Lines_25 p0) _
    exact ok_spec_l15Lines_25 p0 r hm

theorem ok_spec_l15Lines (p0 : (List ByteArray)) (r : Bool) (hm : m_spec_l15Lines p0 = some r) : Runs ext tbl 42 (as_spec_l15Lines p0) (res_spec_l15Lines r) :=
  runs_of (vf := vf_spec_l15Lines) (by kernel_rfl) rfl (st := (enter vf_spec_l15Lines (as_spec_l15Lines p0)).getD default) (by kernel_rfl) (go_on [] 1000 True.intro (ok_spec_l15Lines_0 p0 r hm) (by kernel_rfl))
def O_spec_GoodCues_15 (Q : VX → St → Prop) (e : (Bool) ⊕ ((Unit))) : Prop := match e with | .inl e => Q = Post vf_spec_GoodCues (res_spec_GoodCues e) | .inr e => EvU ext tbl (.c c_spec_GoodCues_33) K_spec_GoodCues_33 (s_spec_GoodCues_33) Q
theorem ok_spec_GoodCues_33 (r : Bool) (hm : m_spec_GoodCues_33 = some r) : EvU ext tbl (.c c_spec_GoodCues_33) K_spec_GoodCues_33 (s_spec_GoodCues_33) (Post vf_spec_GoodCues (res_spec_GoodCues r)) := by
  exact go_end [] 1000 True.intro (congrArg res_spec_GoodCues (Option.some.inj hm)) (by kernel_rfl)

theorem ok_spec_GoodCues_15 (p0 : (List S_Cue)) (i15_0 : Int) (y : (Int) ⊕ ((Bool) ⊕ ((Unit)))) (hm : m_spec_GoodCues_15 p0 i15_0 = some y) (Q : VX → St → Prop)
    (hin : ∀ s, y = .inl s → EvU ext tbl (.c c_spec_GoodCues_15) K_spec_GoodCues_15 (s_spec_GoodCues_15 p0 s) Q) (hout : ∀ e, y = .inr e → O_spec_GoodCues_15 Q e) : EvU ext tbl (.c c_spec_GoodCues_15) K_spec_GoodCues_15 (s_spec_GoodCues_15 p0 i15_0) Q := by
  obtain ⟨h15_0, hm⟩ | ⟨h15_0, hm⟩ := split_ite hm
  · skip
    obtain ⟨x15_1, h15_1, hm⟩ := bind_some hm
    obtain ⟨x15_2, h15_2, hm⟩ := bind_some hm
    obtain ⟨h15_3, hm⟩ | ⟨h15_3, hm⟩ := split_ite hm
    · skip
      obtain ⟨x15_4, h15_4, hm⟩ := bind_some hm
      obtain ⟨h15_5, hm⟩ | ⟨h15_5, hm⟩ := split_ite hm
      · skip
        obtain ⟨h15_6, hm⟩ | ⟨h15_6, hm⟩ := split_ite hm
        · skip
          have hQ : Q = Post vf_spec_GoodCues (res_spec_GoodCues false) := hout (.inl false) (Option.some.inj hm).symm
          subst hQ
          exact go_end [.bit true, .row (rS_Cue x15_1), .res (res_spec_l15Time x15_2), .bit false, .bit false, .bit false, .res (res_spec_l15Time x15_4), .bit false, .bit false, .bit false, .bit false, .bit false, .bit false, .bit false, .bit false, .bit true, .bit true, .bit true, .bit true, .bit true, .bit true, .bit true, .bit true, .bit true, .bit true, .bit true] 1000 (And.intro h15_0 (And.intro (rd_nn h15_1) (And.intro (at_row rS_Cue (rd_get h15_1)) (And.intro (ok_spec_l15Time x15_1.from_ x15_2 h15_2) (And.intro (not_f h15_3) (And.intro (not_f h15_3) (And.intro (not_f h15_3) (And.intro (ok_spec_l15Time x15_1.to_ x15_4 h15_4) (And.intro (not_f h15_3) (And.intro (not_f h15_3) (And.intro (not_f h15_5) (And.intro (not_f h15_5) (And.intro (not_f h15_5) (And.intro (not_f h15_5) (And.intro (not_f h15_5) (And.intro (not_f h15_5) (And.intro h15_6 (And.intro h15_6 (And.intro h15_6 (And.intro h15_6 (And.intro h15_6 (And.intro (Eq.refl true) (And.intro (Eq.refl true) (And.intro (Eq.refl true) (And.intro (Eq.refl true) (And.intro (Eq.refl true) (And.intro (Eq.refl true) True.intro))))))))))))))))))))))))))) (rfl : res_spec_GoodCues false = res_spec_GoodCues false) (by kernel_rfl)
        · skip
          obtain ⟨x15_7, h15_7, hm⟩ := bind_some hm
          obtain ⟨h15_8, hm⟩ | ⟨h15_8, hm⟩ := split_ite hm
          · skip
            obtain ⟨h15_9, hm⟩ | ⟨h15_9, hm⟩ := split_ite hm
            · skip
              obtain ⟨x15_10, h15_10, hm⟩ := bind_some hm
              obtain ⟨h15_11, hm⟩ | ⟨h15_11, hm⟩ := split_ite hm
              · skip
                have hQ : Q = Post vf_spec_GoodCues (res_spec_GoodCues false) := hout (.inl false) (Option.some.inj hm).symm
                subst hQ
                exact go_end [.bit true, .row (rS_Cue x15_1), .res (res_spec_l15Time x15_2), .bit false, .bit false, .bit false, .res (res_spec_l15Time x15_4), .bit false, .bit false, .bit false, .bit false, .bit false, .bit false, .bit false, .bit false, .bit false, .bit false, .bit false, .res (res_spec_l15Lines x15_7), .bit false, .bit false, .bit false, .bit false, .bit false, .bit true, .bit true, .bit true, .bit true, .bit true, .bit true, .row (rS_Cue x15_10), .bit true, .bit true, .bit true, .bit false, .bit true, .bit false, .bit true] 1000 (And.intro h15_0 (And.intro (rd_nn h15_1) (And.intro (at_row rS_Cue (rd_get h15_1)) (And.intro (ok_spec_l15Time x15_1.from_ x15_2 h15_2) (And.intro (not_f h15_3) (And.intro (not_f h15_3) (And.intro (not_f h15_3) (And.intro (ok_spec_l15Time x15_1.to_ x15_4 h15_4) (And.intro (not_f h15_3) (And.intro (not_f h15_3) (And.intro (not_f h15_5) (And.intro (not_f h15_5) (And.intro (not_f h15_5) (And.intro (not_f h15_5) (And.intro (not_f h15_5) (And.intro (not_f h15_5) (And.intro h15_6 (And.intro h15_6 (And.intro h15_6 (And.intro (ok_spec_l15Lines x15_1.lines x15_7 h15_7) (And.intro h15_6 (And.intro h15_6 (And.intro (not_f h15_8) (And.intro (not_f h15_8) (And.intro (not_f h15_8) (And.intro h15_9 (And.intro h15_9 (And.intro h15_9 (And.intro h15_9 (And.intro h15_9 (And.intro h15_9 (And.intro (rd_nn h15_10) (And.intro (at_row rS_Cue (rd_get h15_10)) (And.intro h15_9 (And.intro h15_9 (And.intro h15_9 (And.intro (not_f h15_8) (And.intro h15_9 (And.intro (not_f h15_8) (And.intro h15_11 True.intro)))))))))))))))))))))))))))))))))))))))) (rfl : res_spec_GoodCues false = res_spec_GoodCues false) (by kernel_rfl)
              · skip
                refine go_on (u' := .c c_spec_GoodCues_15) (K' := K_spec_GoodCues_15) (st' := s_spec_GoodCues_15 p0 (w64 (i15_0 + 1))) [.bit true, .row (rS_Cue x15_1), .res (res_spec_l15Time x15_2), .bit false, .bit false, .bit false, .res (res_spec_l15Time x15_4), .bit false, .bit false, .bit false, .bit false, .bit false, .bit false, .bit false, .bit false, .bit false, .bit false, .bit false, .res (res_spec_l15Lines x15_7), .bit false, .bit false, .bit false, .bit false, .bit false, .bit true, .bit true, .bit true, .bit true, .bit true, .bit true, .row (rS_Cue x15_10), .bit true, .bit true, .bit true, .bit false, .bit true, .bit false, .bit false] 1000 (And.intro h15_0 (And.intro (rd_nn h15_1) (And.intro (at_row rS_Cue (rd_get h15_1)) (And.intro (ok_spec_l15Time x15_1.from_ x15_2 h15_2) (And.intro (not_f h15_3) (And.intro (not_f h15_3) (And.intro (not_f h15_3) (And.intro (ok_spec_l15Time x15_1.to_ x15_4 h15_4) (And.intro (not_f h15_3) (And.intro (not_f h15_3) (And.intro (not_f h15_5) (And.intro (not_f h15_5) (And.intro (not_f h15_5) (And.intro (not_f h15_5) (And.intro (not_f h15_5) (And.intro (not_f h15_5) (And.intro h15_6 (And.intro h15_6 (And.intro h15_6 (And.intro (ok_spec_l15Lines x15_1.lines x15_7 h15_7) (And.intro h15_6 (And.intro h15_6 (And.intro (not_f h15_8) (And.intro (not_f h15_8) (And.intro (not_f h15_8) (And.intro h15_9 (And.intro h15_9 (And.intro h15_9 (And.intro h15_9 (And.intro h15_9 (And.intro h15_9 (And.intro (rd_nn h15_10) (And.intro (at_row rS_Cue (rd_get h15_10)) (And.intro h15_9 (And.intro h15_9 (And.intro h15_9 (And.intro (not_f h15_8) (And.intro h15_9 (And.intro (not_f h15_8) (And.intro h15_11 True.intro)))))))))))))))))))))))))))))))))))))))) ?_ (by kernel_rfl)
                exact hin (w64 (i15_0 + 1)) (Option.some.inj hm).symm
            · skip
              refine go_on (u' := .c c_spec_GoodCues_15) (K' := K_spec_GoodCues_15) (st' := s_spec_GoodCues_15 p0 (w64 (i15_0 + 1))) [.bit true, .row (rS_Cue x15_1), .res (res_spec_l15Time x15_2), .bit false, .bit false, .bit false, .res (res_spec_l15Time x15_4), .bit false, .bit false, .bit false, .bit false, .bit false, .bit false, .bit false, .bit false, .bit false, .bit false, .bit false, .res (res_spec_l15Lines x15_7), .bit false, .bit false, .bit false, .bit false, .bit false, .bit false, .bit false, .bit false, .bit false, .bit false, .bit false, .bit false, .bit false, .bit false, .bit false, .bit false, .bit false, .bit false] 1000 (And.intro h15_0 (And.intro (rd_nn h15_1) (And.intro (at_row rS_Cue (rd_get h15_1)) (And.intro (ok_spec_l15Time x15_1.from_ x15_2 h15_2) (And.intro (not_f h15_3) (And.intro (not_f h15_3) (And.intro (not_f h15_3) (And.intro (ok_spec_l15Time x15_1.to_ x15_4 h15_4) (And.intro (not_f h15_3) (And.intro (not_f h15_3) (And.intro (not_f h15_5) (And.intro (not_f h15_5) (And.intro (not_f h15_5) (And.intro (not_f h15_5) (And.intro (not_f h15_5) (And.intro (not_f h15_5) (And.intro h15_6 (And.intro h15_6 (And.intro h15_6 (And.intro (ok_spec_l15Lines x15_1.lines x15_7 h15_7) (And.intro h15_6 (And.intro h15_6 (And.intro (not_f h15_8) (And.intro (not_f h15_8) (And.intro (not_f h15_8) (And.intro h15_9 (And.intro h15_9 (And.intro h15_9 (And.intro h15_9 (And.intro h15_9 (And.intro h15_9 (And.intro h15_9 (And.intro h15_9 (And.intro h15_9 (And.intro (not_f h15_8) (And.intro h15_9 (And.intro (not_f h15_8) (And.intro (Eq.refl false) True.intro)))))))))))))))))))))))))))))))))))))) ?_ (by kernel_rfl)
              exact hin (w64 (i15_0 + 1)) (Option.some.inj hm).symm
          · skip
            have hQ : Q = Post vf_spec_GoodCues (res_spec_GoodCues false) := hout (.inl false) (Option.some.inj hm).symm
            subst hQ
            exact go_end [.bit true, .row (rS_Cue x15_1), .res (res_spec_l15Time x15_2), .bit false, .bit false, .bit false, .res (res_spec_l15Time x15_4), .bit false, .bit false, .bit false, .bit false, .bit false, .bit false, .bit false, .bit false, .bit false, .bit false, .bit false, .res (res_spec_l15Lines x15_7), .bit false, .bit false, .bit true, .bit true, .bit true, .bit true, .bit true, .bit true] 1000 (And.intro h15_0 (And.intro (rd_nn h15_1) (And.intro (at_row rS_Cue (rd_get h15_1)) (And.intro (ok_spec_l15Time x15_1.from_ x15_2 h15_2) (And.intro (not_f h15_3) (And.intro (not_f h15_3) (And.intro (not_f h15_3) (And.intro (ok_spec_l15Time x15_1.to_ x15_4 h15_4) (And.intro (not_f h15_3) (And.intro (not_f h15_3) (And.intro (not_f h15_5) (And.intro (not_f h15_5) (And.intro (not_f h15_5) (And.intro (not_f h15_5) (And.intro (not_f h15_5) (And.intro (not_f h15_5) (And.intro h15_6 (And.intro h15_6 (And.intro h15_6 (And.intro (ok_spec_l15Lines x15_1.lines x15_7 h15_7) (And.intro h15_6 (And.intro h15_6 (And.intro (not_t h15_8) (And.intro (not_t h15_8) (And.intro (not_t h15_8) (And.intro (not_t h15_8) (And.intro (not_t h15_8) (And.intro (Eq.refl true) True.intro)))))))))))))))))))))))))))) (rfl : res_spec_GoodCues false = res_spec_GoodCues false) (by kernel_rfl)
      · skip
        have hQ : Q = Post vf_spec_GoodCues (res_spec_GoodCues false) := hout (.inl false) (Option.some.inj hm).symm
        subst hQ
        exact go_end [.bit true, .row (rS_Cue x15_1), .res (res_spec_l15Time x15_2), .bit false, .bit false, .bit false, .res (res_spec_l15Time x15_4), .bit false, .bit false, .bit true, .bit true, .bit true, .bit true, .bit true, .bit true, .bit true, .bit true, .bit true, .bit true, .bit true, .bit true, .bit true, .bit true, .bit true, .bit true, .bit true] 1000 (And.intro h15_0 (And.intro (rd_nn h15_1) (And.intro (at_row rS_Cue (rd_get h15_1)) (And.intro (ok_spec_l15Time x15_1.from_ x15_2 h15_2) (And.intro (not_f h15_3) (And.intro (not_f h15_3) (And.intro (not_f h15_3) (And.intro (ok_spec_l15Time x15_1.to_ x15_4 h15_4) (And.intro (not_f h15_3) (And.intro (not_f h15_3) (And.intro (not_t h15_5) (And.intro (not_t h15_5) (And.intro (not_t h15_5) (And.intro (not_t h15_5) (And.intro (not_t h15_5) (And.intro (not_t h15_5) (And.intro (Eq.refl true) (And.intro (Eq.refl true) (And.intro (Eq.refl true) (And.intro (Eq.refl true) (And.intro (Eq.refl true) (And.intro (Eq.refl true) (And.intro (Eq.refl true) (And.intro (Eq.refl true) (And.intro (Eq.refl true) (And.intro (Eq.refl true) (And.intro (Eq.refl true) True.intro))))))))))))))))))))))))))) (rfl : res_spec_GoodCues false = res_spec_GoodCues false) (by kernel_rfl)
    · skip
      have hQ : Q = Post vf_spec_GoodCues (res_spec_GoodCues false) := hout (.inl false) (Option.some.inj hm).symm
      subst hQ
      exact go_end [.bit true, .row (rS_Cue x15_1), .res (res_spec_l15Time x15_2), .bit true, .bit true, .bit true, .bit true, .bit true, .bit true, .bit true, .bit true, .bit true, .bit true, .bit true, .bit true, .bit true, .bit true, .bit true, .bit true, .bit true, .bit true, .bit true, .bit true, .bit true, .bit true] 1000 (And.intro h15_0 (And.intro (rd_nn h15_1) (And.intro (at_row rS_Cue (rd_get h15_1)) (And.intro (ok_spec_l15Time x15_1.from_ x15_2 h15_2) (And.intro (not_t h15_3) (And.intro (not_t h15_3) (And.intro (not_t h15_3) (And.intro (not_t h15_3) (And.intro (not_t h15_3) (And.intro (Eq.refl true) (And.intro (Eq.refl true) (And.intro (Eq.refl true) (And.intro (Eq.refl true) (And.intro (Eq.refl true) (And.intro (Eq.refl true) (And.intro (Eq.refl true) (And.intro (Eq.refl true) (And.intro (Eq.refl true) (And.intro (Eq.refl true) (And.intro (Eq.refl true) (And.intro (Eq.refl true) (And.intro (Eq.refl true) (And.intro (Eq.refl true) (And.intro (Eq.refl true) (And.intro (Eq.refl true) (And.intro (Eq.refl true) True.intro)))))))))))))))))))))))))) (rfl : res_spec_GoodCues false = res_spec_GoodCues false) (by kernel_rfl)
  · skip
    refine go_on (u' := .c c_spec_GoodCues_33) (K' := K_spec_GoodCues_33) (st' := s_spec_GoodCues_33) [.bit false] 1000 (And.intro h15_0 True.intro) ?_ (by kernel_rfl)
    exact hout (.inr ()) (Option.some.inj hm).symm

theorem ok_spec_GoodCues_0 (p0 : (List S_Cue)) (r : Bool) (hm : m_spec_GoodCues_0 p0 = some r) : EvU ext tbl (.c c_spec_GoodCues_0) K_spec_GoodCues_0 (s_spec_GoodCues_0 p0) (Post vf_spec_GoodCues (res_spec_GoodCues r)) := by
  obtain ⟨h0_0, hm⟩ | ⟨h0_0, hm⟩ := split_ite hm
  · skip
    exact go_end [.num p0.length, .bit true] 1000 (And.intro (len_map rS_Cue (show p0.length = p0.length from rfl)) (And.intro h0_0 True.intro)) (congrArg res_spec_GoodCues (Option.some.inj hm)) (by kernel_rfl)
  · skip
    refine go_on (u' := .c c_spec_GoodCues_15) (K' := K_spec_GoodCues_15) (st' := s_spec_GoodCues_15 p0 0) [.num p0.length, .bit false, .num p0.length] 1000 (And.intro (len_map rS_Cue (show p0.length = p0.length from rfl)) (And.intro h0_0 (And.intro (len_map rS_Cue (show p0.length = p0.length from rfl)) True.intro))) ?_ (by kernel_rfl)
    obtain ⟨e, he, hm⟩ := bind_some hm
    refine loop_rule (u := .c c_spec_GoodCues_15) (K := K_spec_GoodCues_15) (Q := (Post vf_spec_GoodCues (res_spec_GoodCues r))) (b := lp_spec_GoodCues_15 p0) (We := O_spec_GoodCues_15 (Post vf_spec_GoodCues (res_spec_GoodCues r))) (stJ := fun s => s_spec_GoodCues_15 p0 s) (s := 0) (fun s y hb hin hout => ok_spec_GoodCues_15 p0 s y hb (Post vf_spec_GoodCues (res_spec_GoodCues r)) hin hout) he ?_
    rcases e with e | e
    · skip
      exact congrArg (fun r => Post vf_spec_GoodCues (res_spec_GoodCues r)) (Option.some.inj hm).symm
    · skip
      show EvU ext tbl (.c c_spec_GoodCues_33) K_spec_GoodCues_33 (s_spec_GoodCues_33) _
      exact ok_spec_GoodCues_33 r hm

theorem ok_spec_GoodCues (p0 : (List S_Cue)) (r : Bool) (hm : m_spec_GoodCues p0 = some r) : Runs ext tbl 27 (as_spec_GoodCues p0) (res_spec_GoodCues r) :=
  runs_of (vf := vf_spec_GoodCues) (by kernel_rfl) rfl (st := (enter vf_spec_GoodCues (as_spec_GoodCues p0)).getD default) (by kernel_rfl) (go_on [] 1000 True.intro (ok_spec_GoodCues_0 p0 r hm) (by kernel_rfl))
def O_spec_RowsOf_49 (p0 : (List S_Cue)) (p1 : Int) (i17_0 : Int) (i34_0 : Int) (x17_1 : S_Cue) (l17_1 : (List Int)) (Q : VX → St → Prop) (e : ((List Bool))) : Prop := EvU ext tbl (.c c_spec_RowsOf_62) K_spec_RowsOf_62 (s_spec_RowsOf_62 p0 p1 i17_0 i34_0 x17_1 l17_1 e) Q
def O_spec_RowsOf_85 (p0 : (List S_Cue)) (p1 : Int) (i70_0 : Int) (i70_1 : Int) (i17_0 : Int) (x17_1 : S_Cue) (l17_1 : (List Int)) (l63_0 : (List Bool)) (Q : VX → St → Prop) (e : (Bool)) : Prop := EvU ext tbl (.c c_spec_RowsOf_97) K_spec_RowsOf_97 (s_spec_RowsOf_97 p0 p1 i70_0 i70_1 i17_0 x17_1 l17_1 l63_0 e) Q
def O_spec_RowsOf_70 (p0 : (List S_Cue)) (p1 : Int) (i17_0 : Int) (l17_1 : (List Int)) (Q : VX → St → Prop) (e : (Int)) : Prop := EvU ext tbl (.c c_spec_RowsOf_103) K_spec_RowsOf_103 (s_spec_RowsOf_103 p0 p1 i17_0 l17_1 e) Q
def O_spec_RowsOf_34 (p0 : (List S_Cue)) (p1 : Int) (i17_0 : Int) (x17_1 : S_Cue) (l17_1 : (List Int)) (Q : VX → St → Prop) (e : ((List Bool))) : Prop := EvU ext tbl (.c c_spec_RowsOf_63) K_spec_RowsOf_63 (s_spec_RowsOf_63 p0 p1 i17_0 x17_1 l17_1 e) Q
def O_spec_RowsOf_17 (Q : VX → St → Prop) (e : ((List Int))) : Prop := EvU ext tbl (.c c_spec_RowsOf_105) K_spec_RowsOf_105 (s_spec_RowsOf_105 e) Q
theorem ok_spec_RowsOf_62 (p0 : (List S_Cue)) (p1 : Int) (i17_0 : Int) (i34_0 : Int) (x17_1 : S_Cue) (l17_1 : (List Int)) (l62_0 : (List Bool)) (y : (Int × (List Bool)) ⊕ (((List Bool)))) (hm : m_spec_RowsOf_62 p0 p1 i17_0 i34_0 x17_1 l17_1 l62_0 = some y) (Q : VX → St → Prop)
    (hin : ∀ s, y = .inl s → EvU ext tbl (.c c_spec_RowsOf_34) K_spec_RowsOf_34 (s_spec_RowsOf_34 p0 p1 i17_0 x17_1 l17_1 s.1 s.2) Q) (hout : ∀ e, y = .inr e → O_spec_RowsOf_34 p0 p1 i17_0 x17_1 l17_1 Q e) : EvU ext tbl (.c c_spec_RowsOf_62) K_spec_RowsOf_62 (s_spec_RowsOf_62 p0 p1 i17_0 i34_0 x17_1 l17_1 l62_0) Q := by
  refine go_on (u' := .c c_spec_RowsOf_34) (K' := K_spec_RowsOf_34) (st' := s_spec_RowsOf_34 p0 p1 i17_0 x17_1 l17_1 (w64 (i34_0 + 1)) l62_0) [.num l17_1.length, .num l62_0.length] 1000 (And.intro (lens l17_1.length l17_1.length rfl) (And.intro (lens l62_0.length l62_0.length rfl) True.intro)) ?_ (by kernel_rfl)
  exact hin ((w64 (i34_0 + 1)), l62_0) (Option.some.inj hm).symm

theorem ok_spec_RowsOf_49 (p0 : (List S_Cue)) (p1 : Int) (i17_0 : Int) (i34_0 : Int) (x44_1 : S_Cue) (x17_1 : S_Cue) (l17_1 : (List Int)) (i49_0 : Int) (l49_1 : (List Bool)) (y : (Int × (List Bool)) ⊕ (((List Bool)))) (hm : m_spec_RowsOf_49 p0 p1 i17_0 i34_0 x44_1 x17_1 l17_1 i49_0 l49_1 = some y) (Q : VX → St → Prop)
    (hin : ∀ s, y = .inl s → EvU ext tbl (.c c_spec_RowsOf_49) K_spec_RowsOf_49 (s_spec_RowsOf_49 p0 p1 i17_0 i34_0 x44_1 x17_1 l17_1 s.1 s.2) Q) (hout : ∀ e, y = .inr e → O_spec_RowsOf_49 p0 p1 i17_0 i34_0 x17_1 l17_1 Q e) : EvU ext tbl (.c c_spec_RowsOf_49) K_spec_RowsOf_49 (s_spec_RowsOf_49 p0 p1 i17_0 i34_0 x44_1 x17_1 l17_1 i49_0 l49_1) Q := by
  obtain ⟨h49_0, hm⟩ | ⟨h49_0, hm⟩ := split_ite hm
  · skip
    obtain ⟨x49_1, h49_1, hm⟩ := bind_some hm
    obtain ⟨x49_2, h49_2, hm⟩ := bind_some hm
    refine go_on (u' := .c c_spec_RowsOf_49) (K' := K_spec_RowsOf_49) (st' := s_spec_RowsOf_49 p0 p1 i17_0 i34_0 x44_1 x17_1 l17_1 (w64 (i49_0 + 1)) (l49_1.set (0 + Int.toNat (w64 (x49_1 + i49_0))) true)) [.bit true, .row ((rI .i64) x49_1), .rows (List.map rB (l49_1.set (0 + Int.toNat (w64 (x49_1 + i49_0))) true)), .num l17_1.length, .num ((l49_1.set (0 + Int.toNat (w64 (x49_1 + i49_0))) true).length)] 1000 (And.intro h49_0 (And.intro (rd_in rfl h49_1) (And.intro (at_row (rI .i64) (rd_get0 h49_1)) (And.intro (rd_in rfl h49_2) (And.intro (put_ob rB true 0 (.lit (.bool true)) (rd_get0 h49_2) (by kernel_rfl) (by kernel_rfl)) (And.intro (lens l17_1.length l17_1.length rfl) (And.intro (lens l49_1.length ((l49_1.set (0 + Int.toNat (w64 (x49_1 + i49_0))) true).length) (set_len rfl)) True.intro))))))) ?_ (by kernel_rfl)
    exact hin ((w64 (i49_0 + 1)), (l49_1.set (0 + Int.toNat (w64 (x49_1 + i49_0))) true)) (Option.some.inj hm).symm
  · skip
    refine go_on (u' := .c c_spec_RowsOf_62) (K' := K_spec_RowsOf_62) (st' := s_spec_RowsOf_62 p0 p1 i17_0 i34_0 x17_1 l17_1 l49_1) [.bit false, .num l17_1.length, .num l49_1.length] 1000 (And.intro h49_0 (And.intro (lens l17_1.length l17_1.length rfl) (And.intro (lens l49_1.length l49_1.length rfl) True.intro))) ?_ (by kernel_rfl)
    exact hout l49_1 (Option.some.inj hm).symm

theorem ok_spec_RowsOf_44 (p0 : (List S_Cue)) (p1 : Int) (i17_0 : Int) (i34_0 : Int) (x17_1 : S_Cue) (l17_1 : (List Int)) (l34_1 : (List Bool)) (b44_0 : Bool) (y : (Int × (List Bool)) ⊕ (((List Bool)))) (hm : m_spec_RowsOf_44 p0 p1 i17_0 i34_0 x17_1 l17_1 l34_1 b44_0 = some y) (Q : VX → St → Prop)
    (hin : ∀ s, y = .inl s → EvU ext tbl (.c c_spec_RowsOf_34) K_spec_RowsOf_34 (s_spec_RowsOf_34 p0 p1 i17_0 x17_1 l17_1 s.1 s.2) Q) (hout : ∀ e, y = .inr e → O_spec_RowsOf_34 p0 p1 i17_0 x17_1 l17_1 Q e) : EvU ext tbl (.c c_spec_RowsOf_44) K_spec_RowsOf_44 (s_spec_RowsOf_44 p0 p1 i17_0 i34_0 x17_1 l17_1 l34_1 b44_0) Q := by
  obtain ⟨h44_0, hm⟩ | ⟨h44_0, hm⟩ := split_ite hm
  · skip
    obtain ⟨x44_1, h44_1, hm⟩ := bind_some hm
    refine go_on (u' := .c c_spec_RowsOf_49) (K' := K_spec_RowsOf_49) (st' := s_spec_RowsOf_49 p0 p1 i17_0 i34_0 x44_1 x17_1 l17_1 0 l34_1) [.bit true, .row (rS_Cue x44_1), .num x44_1.lines.length, .num l17_1.length, .num l34_1.length] 1000 (And.intro h44_0 (And.intro (rd_nn h44_1) (And.intro (at_row rS_Cue (rd_get h44_1)) (And.intro (len_map rS (show x44_1.lines.length = x44_1.lines.length from rfl)) (And.intro (lens l17_1.length l17_1.length rfl) (And.intro (lens l34_1.length l34_1.length rfl) True.intro)))))) ?_ (by kernel_rfl)
    obtain ⟨e, he, hm⟩ := bind_some hm
    refine loop_rule (u := .c c_spec_RowsOf_49) (K := K_spec_RowsOf_49) (Q := Q) (b := lp_spec_RowsOf_49 p0 p1 i17_0 i34_0 x44_1 x17_1 l17_1) (We := O_spec_RowsOf_49 p0 p1 i17_0 i34_0 x17_1 l17_1 Q) (stJ := fun s => s_spec_RowsOf_49 p0 p1 i17_0 i34_0 x44_1 x17_1 l17_1 s.1 s.2) (s := (0, l34_1)) (fun s y hb hin hout => ok_spec_RowsOf_49 p0 p1 i17_0 i34_0 x44_1 x17_1 l17_1 s.1 s.2 y hb Q hin hout) he ?_
    show EvU ext tbl (.c c_spec_RowsOf_62) K_spec_RowsOf_62 (s_spec_RowsOf_62 p0 p1 i17_0 i34_0 x17_1 l17_1 e) _
    exact ok_spec_RowsOf_62 p0 p1 i17_0 i34_0 x17_1 l17_1 e y hm Q hin hout
  · skip
    refine go_on (u' := .c c_spec_RowsOf_62) (K' := K_spec_RowsOf_62) (st' := s_spec_RowsOf_62 p0 p1 i17_0 i34_0 x17_1 l17_1 l34_1) [.bit false, .num l17_1.length, .num l34_1.length] 1000 (And.intro h44_0 (And.intro (lens l17_1.length l17_1.length rfl) (And.intro (lens l34_1.length l34_1.length rfl) True.intro))) ?_ (by kernel_rfl)
    exact ok_spec_RowsOf_62 p0 p1 i17_0 i34_0 x17_1 l17_1 l34_1 y hm Q hin hout

theorem ok_spec_RowsOf_97 (p0 : (List S_Cue)) (p1 : Int) (i70_0 : Int) (i70_1 : Int) (i17_0 : Int) (x17_1 : S_Cue) (l17_1 : (List Int)) (l63_0 : (List Bool)) (b97_0 : Bool) (y : (Int × Int) ⊕ ((Int))) (hm : m_spec_RowsOf_97 p0 p1 i70_0 i70_1 i17_0 x17_1 l17_1 l63_0 b97_0 = some y) (Q : VX → St → Prop)
    (hin : ∀ s, y = .inl s → EvU ext tbl (.c c_spec_RowsOf_70) K_spec_RowsOf_70 (s_spec_RowsOf_70 p0 p1 i17_0 x17_1 l17_1 l63_0 s.1 s.2) Q) (hout : ∀ e, y = .inr e → O_spec_RowsOf_70 p0 p1 i17_0 l17_1 Q e) : EvU ext tbl (.c c_spec_RowsOf_97) K_spec_RowsOf_97 (s_spec_RowsOf_97 p0 p1 i70_0 i70_1 i17_0 x17_1 l17_1 l63_0 b97_0) Q := by
  obtain ⟨h97_0, hm⟩ | ⟨h97_0, hm⟩ := split_ite hm
  · skip
    refine go_on (u' := .c c_spec_RowsOf_70) (K' := K_spec_RowsOf_70) (st' := s_spec_RowsOf_70 p0 p1 i17_0 x17_1 l17_1 l63_0 i70_1 (w64 (i70_1 - 1))) [.bit true, .num l17_1.length, .num l63_0.length] 1000 (And.intro h97_0 (And.intro (lens l17_1.length l17_1.length rfl) (And.intro (lens l63_0.length l63_0.length rfl) True.intro))) ?_ (by kernel_rfl)
    exact hin (i70_1, (w64 (i70_1 - 1))) (Option.some.inj hm).symm
  · skip
    refine go_on (u' := .c c_spec_RowsOf_70) (K' := K_spec_RowsOf_70) (st' := s_spec_RowsOf_70 p0 p1 i17_0 x17_1 l17_1 l63_0 i70_0 (w64 (i70_1 - 1))) [.bit false, .num l17_1.length, .num l63_0.length] 1000 (And.intro h97_0 (And.intro (lens l17_1.length l17_1.length rfl) (And.intro (lens l63_0.length l63_0.length rfl) True.intro))) ?_ (by kernel_rfl)
    exact hin (i70_0, (w64 (i70_1 - 1))) (Option.some.inj hm).symm

theorem ok_spec_RowsOf_85 (p0 : (List S_Cue)) (p1 : Int) (i70_0 : Int) (i70_1 : Int) (i17_0 : Int) (x17_1 : S_Cue) (l17_1 : (List Int)) (l63_0 : (List Bool)) (b85_0 : Bool) (i85_1 : Int) (y : (Bool × Int) ⊕ ((Bool))) (hm : m_spec_RowsOf_85 p0 p1 i70_0 i70_1 i17_0 x17_1 l17_1 l63_0 b85_0 i85_1 = some y) (Q : VX → St → Prop)
    (hin : ∀ s, y = .inl s → EvU ext tbl (.c c_spec_RowsOf_85) K_spec_RowsOf_85 (s_spec_RowsOf_85 p0 p1 i70_0 i70_1 i17_0 x17_1 l17_1 l63_0 s.1 s.2) Q) (hout : ∀ e, y = .inr e → O_spec_RowsOf_85 p0 p1 i70_0 i70_1 i17_0 x17_1 l17_1 l63_0 Q e) : EvU ext tbl (.c c_spec_RowsOf_85) K_spec_RowsOf_85 (s_spec_RowsOf_85 p0 p1 i70_0 i70_1 i17_0 x17_1 l17_1 l63_0 b85_0 i85_1) Q := by
  obtain ⟨h85_0, hm⟩ | ⟨h85_0, hm⟩ := split_ite hm
  · skip
    obtain ⟨h85_1, hm⟩ | ⟨h85_1, hm⟩ := split_ite hm
    · skip
      obtain ⟨x85_2, h85_2, hm⟩ := bind_some hm
      refine go_on (u' := .c c_spec_RowsOf_85) (K' := K_spec_RowsOf_85) (st' := s_spec_RowsOf_85 p0 p1 i70_0 i70_1 i17_0 x17_1 l17_1 l63_0 (!x85_2) (w64 (i85_1 + 1))) [.bit true, .bit true, .bit true, .bit true, .bit true, .bit true, .bit true, .row (rB x85_2), .bit true, .bit true, .num l17_1.length, .num l63_0.length] 1000 (And.intro h85_0 (And.intro h85_1 (And.intro h85_1 (And.intro h85_1 (And.intro h85_1 (And.intro h85_1 (And.intro (rd_in rfl h85_2) (And.intro h85_1 (And.intro (at_row rB (rd_get0 h85_2)) (And.intro h85_1 (And.intro h85_1 (And.intro (lens l17_1.length l17_1.length rfl) (And.intro (lens l63_0.length l63_0.length rfl) True.intro))))))))))))) ?_ (by kernel_rfl)
      exact hin ((!x85_2), (w64 (i85_1 + 1))) (Option.some.inj hm).symm
    · skip
      refine go_on (u' := .c c_spec_RowsOf_85) (K' := K_spec_RowsOf_85) (st' := s_spec_RowsOf_85 p0 p1 i70_0 i70_1 i17_0 x17_1 l17_1 l63_0 false (w64 (i85_1 + 1))) [.bit true, .bit false, .bit false, .bit false, .bit false, .bit false, .bit false, .bit false, .bit false, .num l17_1.length, .num l63_0.length] 1000 (And.intro h85_0 (And.intro h85_1 (And.intro h85_1 (And.intro h85_1 (And.intro h85_1 (And.intro h85_1 (And.intro h85_1 (And.intro h85_1 (And.intro h85_1 (And.intro (lens l17_1.length l17_1.length rfl) (And.intro (lens l63_0.length l63_0.length rfl) True.intro))))))))))) ?_ (by kernel_rfl)
      exact hin (false, (w64 (i85_1 + 1))) (Option.some.inj hm).symm
  · skip
    refine go_on (u' := .c c_spec_RowsOf_97) (K' := K_spec_RowsOf_97) (st' := s_spec_RowsOf_97 p0 p1 i70_0 i70_1 i17_0 x17_1 l17_1 l63_0 b85_0) [.bit false, .num l17_1.length, .num l63_0.length] 1000 (And.intro h85_0 (And.intro (lens l17_1.length l17_1.length rfl) (And.intro (lens l63_0.length l63_0.length rfl) True.intro))) ?_ (by kernel_rfl)
    exact hout b85_0 (Option.some.inj hm).symm

theorem ok_spec_RowsOf_103 (p0 : (List S_Cue)) (p1 : Int) (i17_0 : Int) (l17_1 : (List Int)) (i103_0 : Int) (y : (Int × (List Int)) ⊕ (((List Int)))) (hm : m_spec_RowsOf_103 p0 p1 i17_0 l17_1 i103_0 = some y) (Q : VX → St → Prop)
    (hin : ∀ s, y = .inl s → EvU ext tbl (.c c_spec_RowsOf_17) K_spec_RowsOf_17 (s_spec_RowsOf_17 p0 p1 s.1 s.2) Q) (hout : ∀ e, y = .inr e → O_spec_RowsOf_17 Q e) : EvU ext tbl (.c c_spec_RowsOf_103) K_spec_RowsOf_103 (s_spec_RowsOf_103 p0 p1 i17_0 l17_1 i103_0) Q := by
  obtain ⟨x103_0, h103_0, hm⟩ := bind_some hm
  refine go_on (u' := .c c_spec_RowsOf_17) (K' := K_spec_RowsOf_17) (st' := s_spec_RowsOf_17 p0 p1 (w64 (i17_0 + 1)) (l17_1 ++ ([i103_0] : List Int))) [.rows (List.map (rI .i64) ([i103_0] : List Int)), .num 1, .rows (List.map (rI .i64) (l17_1 ++ ([i103_0] : List Int))), .num ((l17_1 ++ ([i103_0] : List Int)).length), .num ((l17_1 ++ ([i103_0] : List Int)).length)] 1000 (And.intro (Eq.refl (List.map (rI .i64) ([i103_0] : List Int))) (And.intro (len_map (rI .i64) (show 1 = ([i103_0] : List Int).length from rfl)) (And.intro (all_le (rI .i64) ([i103_0] : List Int) rfl) (And.intro (app_ck (rI .i64) l17_1 ([i103_0] : List Int) rfl rfl h103_0) (And.intro (app_tell (rI .i64) l17_1 ([i103_0] : List Int) rfl rfl) (And.intro (len_map (rI .i64) (show (l17_1 ++ ([i103_0] : List Int)).length = (l17_1 ++ ([i103_0] : List Int)).length from rfl)) (And.intro (lens ((l17_1 ++ ([i103_0] : List Int)).length) ((l17_1 ++ ([i103_0] : List Int)).length) rfl) True.intro))))))) ?_ (by kernel_rfl)
  exact hin ((w64 (i17_0 + 1)), (l17_1 ++ ([i103_0] : List Int))) (Option.some.inj hm).symm

theorem ok_spec_RowsOf_70 (p0 : (List S_Cue)) (p1 : Int) (i17_0 : Int) (x17_1 : S_Cue) (l17_1 : (List Int)) (l63_0 : (List Bool)) (i70_0 : Int) (i70_1 : Int) (y : (Int × Int) ⊕ ((Int))) (hm : m_spec_RowsOf_70 p0 p1 i17_0 x17_1 l17_1 l63_0 i70_0 i70_1 = some y) (Q : VX → St → Prop)
    (hin : ∀ s, y = .inl s → EvU ext tbl (.c c_spec_RowsOf_70) K_spec_RowsOf_70 (s_spec_RowsOf_70 p0 p1 i17_0 x17_1 l17_1 l63_0 s.1 s.2) Q) (hout : ∀ e, y = .inr e → O_spec_RowsOf_70 p0 p1 i17_0 l17_1 Q e) : EvU ext tbl (.c c_spec_RowsOf_70) K_spec_RowsOf_70 (s_spec_RowsOf_70 p0 p1 i17_0 x17_1 l17_1 l63_0 i70_0 i70_1) Q := by
  obtain ⟨h70_0, hm⟩ | ⟨h70_0, hm⟩ := split_ite hm
  · skip
    refine go_on (u' := .c c_spec_RowsOf_85) (K' := K_spec_RowsOf_85) (st' := s_spec_RowsOf_85 p0 p1 i70_0 i70_1 i17_0 x17_1 l17_1 l63_0 true 0) [.bit true, .num x17_1.lines.length, .num l17_1.length, .num l63_0.length] 1000 (And.intro h70_0 (And.intro (len_map rS (show x17_1.lines.length = x17_1.lines.length from rfl)) (And.intro (lens l17_1.length l17_1.length rfl) (And.intro (lens l63_0.length l63_0.length rfl) True.intro)))) ?_ (by kernel_rfl)
    obtain ⟨e, he, hm⟩ := bind_some hm
    refine loop_rule (u := .c c_spec_RowsOf_85) (K := K_spec_RowsOf_85) (Q := Q) (b := lp_spec_RowsOf_85 p0 p1 i70_0 i70_1 i17_0 x17_1 l17_1 l63_0) (We := O_spec_RowsOf_85 p0 p1 i70_0 i70_1 i17_0 x17_1 l17_1 l63_0 Q) (stJ := fun s => s_spec_RowsOf_85 p0 p1 i70_0 i70_1 i17_0 x17_1 l17_1 l63_0 s.1 s.2) (s := (true, 0)) (fun s y hb hin hout => ok_spec_RowsOf_85 p0 p1 i70_0 i70_1 i17_0 x17_1 l17_1 l63_0 s.1 s.2 y hb Q hin hout) he ?_
    show EvU ext tbl (.c c_spec_RowsOf_97) K_spec_RowsOf_97 (s_spec_RowsOf_97 p0 p1 i70_0 i70_1 i17_0 x17_1 l17_1 l63_0 e) _
    exact ok_spec_RowsOf_97 p0 p1 i70_0 i70_1 i17_0 x17_1 l17_1 l63_0 e y hm Q hin hout
  · skip
    refine go_on (u' := .c c_spec_RowsOf_103) (K' := K_spec_RowsOf_103) (st' := s_spec_RowsOf_103 p0 p1 i17_0 l17_1 i70_0) [.bit false, .num l17_1.length] 1000 (And.intro h70_0 (And.intro (lens l17_1.length l17_1.length rfl) True.intro)) ?_ (by kernel_rfl)
    exact hout i70_0 (Option.some.inj hm).symm

theorem ok_spec_RowsOf_63 (p0 : (List S_Cue)) (p1 : Int) (i17_0 : Int) (x17_1 : S_Cue) (l17_1 : (List Int)) (l63_0 : (List Bool)) (y : (Int × (List Int)) ⊕ (((List Int)))) (hm : m_spec_RowsOf_63 p0 p1 i17_0 x17_1 l17_1 l63_0 = some y) (Q : VX → St → Prop)
    (hin : ∀ s, y = .inl s → EvU ext tbl (.c c_spec_RowsOf_17) K_spec_RowsOf_17 (s_spec_RowsOf_17 p0 p1 s.1 s.2) Q) (hout : ∀ e, y = .inr e → O_spec_RowsOf_17 Q e) : EvU ext tbl (.c c_spec_RowsOf_63) K_spec_RowsOf_63 (s_spec_RowsOf_63 p0 p1 i17_0 x17_1 l17_1 l63_0) Q := by
  refine go_on (u' := .c c_spec_RowsOf_70) (K' := K_spec_RowsOf_70) (st' := s_spec_RowsOf_70 p0 p1 i17_0 x17_1 l17_1 l63_0 (-1) (w64 (p1 - (x17_1.lines.length : Int)))) [.num x17_1.lines.length, .num l17_1.length, .num l63_0.length] 1000 (And.intro (len_map rS (show x17_1.lines.length = x17_1.lines.length from rfl)) (And.intro (lens l17_1.length l17_1.length rfl) (And.intro (lens l63_0.length l63_0.length rfl) True.intro))) ?_ (by kernel_rfl)
  obtain ⟨e, he, hm⟩ := bind_some hm
  refine loop_rule (u := .c c_spec_RowsOf_70) (K := K_spec_RowsOf_70) (Q := Q) (b := lp_spec_RowsOf_70 p0 p1 i17_0 x17_1 l17_1 l63_0) (We := O_spec_RowsOf_70 p0 p1 i17_0 l17_1 Q) (stJ := fun s => s_spec_RowsOf_70 p0 p1 i17_0 x17_1 l17_1 l63_0 s.1 s.2) (s := ((-1), (w64 (p1 - (x17_1.lines.length : Int))))) (fun s y hb hin hout => ok_spec_RowsOf_70 p0 p1 i17_0 x17_1 l17_1 l63_0 s.1 s.2 y hb Q hin hout) he ?_
  show EvU ext tbl (.c c_spec_RowsOf_103) K_spec_RowsOf_103 (s_spec_RowsOf_103 p0 p1 i17_0 l17_1 e) _
  exact ok_spec_RowsOf_103 p0 p1 i17_0 l17_1 e y hm Q hin hout

theorem ok_spec_RowsOf_34 (p0 : (List S_Cue)) (p1 : Int) (i17_0 : Int) (x17_1 : S_Cue) (l17_1 : (List Int)) (i34_0 : Int) (l34_1 : (List Bool)) (y : (Int × (List Bool)) ⊕ (((List Bool)))) (hm : m_spec_RowsOf_34 p0 p1 i17_0 x17_1 l17_1 i34_0 l34_1 = some y) (Q : VX → St → Prop)
    (hin : ∀ s, y = .inl s → EvU ext tbl (.c c_spec_RowsOf_34) K_spec_RowsOf_34 (s_spec_RowsOf_34 p0 p1 i17_0 x17_1 l17_1 s.1 s.2) Q) (hout : ∀ e, y = .inr e → O_spec_RowsOf_34 p0 p1 i17_0 x17_1 l17_1 Q e) : EvU ext tbl (.c c_spec_RowsOf_34) K_spec_RowsOf_34 (s_spec_RowsOf_34 p0 p1 i17_0 x17_1 l17_1 i34_0 l34_1) Q := by
  obtain ⟨h34_0, hm⟩ | ⟨h34_0, hm⟩ := split_ite hm
  · skip
    obtain ⟨x34_1, h34_1, hm⟩ := bind_some hm
    obtain ⟨h34_2, hm⟩ | ⟨h34_2, hm⟩ := split_ite hm
    · skip
      obtain ⟨x34_3, h34_3, hm⟩ := bind_some hm
      obtain ⟨h34_4, hm⟩ | ⟨h34_4, hm⟩ := split_ite hm
      · skip
        refine go_on (u' := .c c_spec_RowsOf_44) (K' := K_spec_RowsOf_44) (st' := s_spec_RowsOf_44 p0 p1 i17_0 i34_0 x17_1 l17_1 l34_1 (decide (x17_1.from_ < x34_3.to_))) [.bit true, .row ((rI .i64) x34_1), .bit true, .bit true, .bit true, .row (rS_Cue x34_3), .bit true, .bit true, .bit true, .bit true, .bit true, .bit true, .bit true, .bit true, .bit true, .bit true, .bit true, .row (rS_Cue x34_3), .bit true, .bit true, .bit true, .bit true, .num l17_1.length, .num l34_1.length] 1000 (And.intro h34_0 (And.intro (rd_in rfl h34_1) (And.intro (at_row (rI .i64) (rd_get0 h34_1)) (And.intro h34_2 (And.intro h34_2 (And.intro h34_2 (And.intro (rd_nn h34_3) (And.intro (at_row rS_Cue (rd_get h34_3)) (And.intro h34_2 (And.intro h34_2 (And.intro h34_2 (And.intro h34_2 (And.intro h34_2 (And.intro h34_2 (And.intro h34_4 (And.intro h34_4 (And.intro h34_4 (And.intro h34_4 (And.intro h34_4 (And.intro (rd_nn h34_3) (And.intro (at_row rS_Cue (rd_get h34_3)) (And.intro h34_4 (And.intro h34_4 (And.intro h34_4 (And.intro h34_4 (And.intro (lens l17_1.length l17_1.length rfl) (And.intro (lens l34_1.length l34_1.length rfl) True.intro))))))))))))))))))))))))))) ?_ (by kernel_rfl)
        exact ok_spec_RowsOf_44 p0 p1 i17_0 i34_0 x17_1 l17_1 l34_1 (decide (x17_1.from_ < x34_3.to_)) y hm Q hin hout
      · skip
        refine go_on (u' := .c c_spec_RowsOf_44) (K' := K_spec_RowsOf_44) (st' := s_spec_RowsOf_44 p0 p1 i17_0 i34_0 x17_1 l17_1 l34_1 false) [.bit true, .row ((rI .i64) x34_1), .bit true, .bit true, .bit true, .row (rS_Cue x34_3), .bit true, .bit true, .bit true, .bit true, .bit true, .bit true, .bit false, .bit false, .bit false, .bit false, .bit false, .bit false, .bit false, .bit false, .bit false, .num l17_1.length, .num l34_1.length] 1000 (And.intro h34_0 (And.intro (rd_in rfl h34_1) (And.intro (at_row (rI .i64) (rd_get0 h34_1)) (And.intro h34_2 (And.intro h34_2 (And.intro h34_2 (And.intro (rd_nn h34_3) (And.intro (at_row rS_Cue (rd_get h34_3)) (And.intro h34_2 (And.intro h34_2 (And.intro h34_2 (And.intro h34_2 (And.intro h34_2 (And.intro h34_2 (And.intro h34_4 (And.intro h34_4 (And.intro h34_4 (And.intro h34_4 (And.intro h34_4 (And.intro h34_4 (And.intro h34_4 (And.intro h34_4 (And.intro h34_4 (And.intro (lens l17_1.length l17_1.length rfl) (And.intro (lens l34_1.length l34_1.length rfl) True.intro))))))))))))))))))))))))) ?_ (by kernel_rfl)
        exact ok_spec_RowsOf_44 p0 p1 i17_0 i34_0 x17_1 l17_1 l34_1 false y hm Q hin hout
    · skip
      refine go_on (u' := .c c_spec_RowsOf_44) (K' := K_spec_RowsOf_44) (st' := s_spec_RowsOf_44 p0 p1 i17_0 i34_0 x17_1 l17_1 l34_1 false) [.bit true, .row ((rI .i64) x34_1), .bit false, .bit false, .bit false, .bit false, .bit false, .bit false, .bit false, .bit false, .bit false, .bit false, .bit false, .bit false, .bit false, .bit false, .bit false, .bit false, .bit false, .bit false, .num l17_1.length, .num l34_1.length] 1000 (And.intro h34_0 (And.intro (rd_in rfl h34_1) (And.intro (at_row (rI .i64) (rd_get0 h34_1)) (And.intro h34_2 (And.intro h34_2 (And.intro h34_2 (And.intro h34_2 (And.intro h34_2 (And.intro h34_2 (And.intro h34_2 (And.intro h34_2 (And.intro h34_2 (And.intro (Eq.refl false) (And.intro (Eq.refl false) (And.intro (Eq.refl false) (And.intro (Eq.refl false) (And.intro (Eq.refl false) (And.intro (Eq.refl false) (And.intro (Eq.refl false) (And.intro (Eq.refl false) (And.intro (Eq.refl false) (And.intro (lens l17_1.length l17_1.length rfl) (And.intro (lens l34_1.length l34_1.length rfl) True.intro))))))))))))))))))))))) ?_ (by kernel_rfl)
      exact ok_spec_RowsOf_44 p0 p1 i17_0 i34_0 x17_1 l17_1 l34_1 false y hm Q hin hout
  · skip
    refine go_on (u' := .c c_spec_RowsOf_63) (K' := K_spec_RowsOf_63) (st' := s_spec_RowsOf_63 p0 p1 i17_0 x17_1 l17_1 l34_1) [.bit false, .num l17_1.length, .num l34_1.length] 1000 (And.intro h34_0 (And.intro (lens l17_1.length l17_1.length rfl) (And.intro (lens l34_1.length l34_1.length rfl) True.intro))) ?_ (by kernel_rfl)
    exact hout l34_1 (Option.some.inj hm).symm

theorem ok_spec_RowsOf_105 (l105_0 : (List Int)) (r : (List Int)) (hm : m_spec_RowsOf_105 l105_0 = some r) : EvU ext tbl (.c c_spec_RowsOf_105) K_spec_RowsOf_105 (s_spec_RowsOf_105 l105_0) (Post vf_spec_RowsOf (res_spec_RowsOf r)) := by
  exact go_end [.rows (List.map (rI .i64) l105_0)] 1000 (And.intro (all_le0 (rI .i64) l105_0 rfl) (And.intro (all_t (rI .i64) l105_0 rfl) True.intro)) (congrArg res_spec_RowsOf (Option.some.inj hm)) (by kernel_rfl)

theorem ok_spec_RowsOf_17 (p0 : (List S_Cue)) (p1 : Int) (i17_0 : Int) (l17_1 : (List Int)) (y : (Int × (List Int)) ⊕ (((List Int)))) (hm : m_spec_RowsOf_17 p0 p1 i17_0 l17_1 = some y) (Q : VX → St → Prop)
    (hin : ∀ s, y = .inl s → EvU ext tbl (.c c_spec_RowsOf_17) K_spec_RowsOf_17 (s_spec_RowsOf_17 p0 p1 s.1 s.2) Q) (hout : ∀ e, y = .inr e → O_spec_RowsOf_17 Q e) : EvU ext tbl (.c c_spec_RowsOf_17) K_spec_RowsOf_17 (s_spec_RowsOf_17 p0 p1 i17_0 l17_1) Q := by
  obtain ⟨h17_0, hm⟩ | ⟨h17_0, hm⟩ := split_ite hm
  · skip
    obtain ⟨x17_1, h17_1, hm⟩ := bind_some hm
    obtain ⟨x17_2, h17_2, hm⟩ := bind_some hm
    refine go_on (u' := .c c_spec_RowsOf_34) (K' := K_spec_RowsOf_34) (st' := s_spec_RowsOf_34 p0 p1 i17_0 x17_1 l17_1 0 (List.replicate (Int.toNat p1) (false : Bool))) [.bit true, .row (rS_Cue x17_1), .rows (List.map rB (List.replicate (Int.toNat p1) (false : Bool))), .num (Int.toNat p1), .num l17_1.length, .num ((List.replicate (Int.toNat p1) (false : Bool)).length)] 1000 (And.intro h17_0 (And.intro (rd_nn h17_1) (And.intro (at_row rS_Cue (rd_get h17_1)) (And.intro (ck_p h17_2) (And.intro (rep_ob rB (Int.toNat p1) (false : Bool) [.lit (.bool false)] (by kernel_rfl)) (And.intro (len_map rB (show (Int.toNat p1) = (List.replicate (Int.toNat p1) (false : Bool)).length from (rep_len (Int.toNat p1) (false : Bool)))) (And.intro (lens l17_1.length l17_1.length rfl) (And.intro (lens (Int.toNat p1) ((List.replicate (Int.toNat p1) (false : Bool)).length) (rep_len (Int.toNat p1) (false : Bool))) True.intro)))))))) ?_ (by kernel_rfl)
    obtain ⟨e, he, hm⟩ := bind_some hm
    refine loop_rule (u := .c c_spec_RowsOf_34) (K := K_spec_RowsOf_34) (Q := Q) (b := lp_spec_RowsOf_34 p0 p1 i17_0 x17_1 l17_1) (We := O_spec_RowsOf_34 p0 p1 i17_0 x17_1 l17_1 Q) (stJ := fun s => s_spec_RowsOf_34 p0 p1 i17_0 x17_1 l17_1 s.1 s.2) (s := (0, (List.replicate (Int.toNat p1) (false : Bool)))) (fun s y hb hin hout => ok_spec_RowsOf_34 p0 p1 i17_0 x17_1 l17_1 s.1 s.2 y hb Q hin hout) he ?_
    show EvU ext tbl (.c c_spec_RowsOf_63) K_spec_RowsOf_63 (s_spec_RowsOf_63 p0 p1 i17_0 x17_1 l17_1 e) _
    exact ok_spec_RowsOf_63 p0 p1 i17_0 x17_1 l17_1 e y hm Q hin hout
  · skip
    refine go_on (u' := .c c_spec_RowsOf_105) (K' := K_spec_RowsOf_105) (st' := s_spec_RowsOf_105 l17_1) [.bit false, .num l17_1.length] 1000 (And.intro h17_0 (And.intro (lens l17_1.length l17_1.length rfl) True.intro)) ?_ (by kernel_rfl)
    exact hout l17_1 (Option.some.inj hm).symm

theorem ok_spec_RowsOf_0 (p0 : (List S_Cue)) (p1 : Int) (r : (List Int)) (hm : m_spec_RowsOf_0 p0 p1 = some r) : EvU ext tbl (.c c_spec_RowsOf_0) K_spec_RowsOf_0 (s_spec_RowsOf_0 p0 p1) (Post vf_spec_RowsOf (res_spec_RowsOf r)) := by
  obtain ⟨x0_0, h0_0, hm⟩ := bind_some hm
  obtain ⟨h0_1, hm⟩ | ⟨h0_1, hm⟩ := split_ite hm
  · skip
    obtain ⟨h0_2, hm⟩ | ⟨h0_2, hm⟩ := split_ite hm
    · skip
      exact go_end [.res (res_spec_GoodCues x0_0), .bit false, .bit false, .bit false, .bit true, .bit true, .bit true, .bit true, .rows (List.map (rI .i64) ([] : List Int))] 1000 (And.intro (ok_spec_GoodCues p0 x0_0 h0_0) (And.intro (not_f h0_1) (And.intro (not_f h0_1) (And.intro (not_f h0_1) (And.intro h0_2 (And.intro h0_2 (And.intro h0_2 (And.intro (Eq.refl true) (And.intro (all_le0 (rI .i64) ([] : List Int) rfl) (And.intro (all_t (rI .i64) ([] : List Int) rfl) True.intro)))))))))) (congrArg res_spec_RowsOf (Option.some.inj hm)) (by kernel_rfl)
    · skip
      obtain ⟨h0_3, hm⟩ | ⟨h0_3, hm⟩ := split_ite hm
      · skip
        exact go_end [.res (res_spec_GoodCues x0_0), .bit false, .bit false, .bit false, .bit false, .bit false, .bit false, .bit true, .rows (List.map (rI .i64) ([] : List Int))] 1000 (And.intro (ok_spec_GoodCues p0 x0_0 h0_0) (And.intro (not_f h0_1) (And.intro (not_f h0_1) (And.intro (not_f h0_1) (And.intro h0_2 (And.intro h0_2 (And.intro h0_2 (And.intro h0_3 (And.intro (all_le0 (rI .i64) ([] : List Int) rfl) (And.intro (all_t (rI .i64) ([] : List Int) rfl) True.intro)))))))))) (congrArg res_spec_RowsOf (Option.some.inj hm)) (by kernel_rfl)
      · skip
        refine go_on (u' := .c c_spec_RowsOf_17) (K' := K_spec_RowsOf_17) (st' := s_spec_RowsOf_17 p0 p1 0 ([] : List Int)) [.res (res_spec_GoodCues x0_0), .bit false, .bit false, .bit false, .bit false, .bit false, .bit false, .bit false, .num p0.length, .num (([] : List Int).length)] 1000 (And.intro (ok_spec_GoodCues p0 x0_0 h0_0) (And.intro (not_f h0_1) (And.intro (not_f h0_1) (And.intro (not_f h0_1) (And.intro h0_2 (And.intro h0_2 (And.intro h0_2 (And.intro h0_3 (And.intro (len_map rS_Cue (show p0.length = p0.length from rfl)) (And.intro (lens 0 (([] : List Int).length) rfl) True.intro)))))))))) ?_ (by kernel_rfl)
        obtain ⟨e, he, hm⟩ := bind_some hm
        refine loop_rule (u := .c c_spec_RowsOf_17) (K := K_spec_RowsOf_17) (Q := (Post vf_spec_RowsOf (res_spec_RowsOf r))) (b := lp_spec_RowsOf_17 p0 p1) (We := O_spec_RowsOf_17 (Post vf_spec_RowsOf (res_spec_RowsOf r))) (stJ := fun s => s_spec_RowsOf_17 p0 p1 s.1 s.2) (s := (0, ([] : List Int))) (fun s y hb hin hout => ok_spec_RowsOf_17 p0 p1 s.1 s.2 y hb (Post vf_spec_RowsOf (res_spec_RowsOf r)) hin hout) he ?_
        show EvU ext tbl (.c c_spec_RowsOf_105) K_spec_RowsOf_105 (s_spec_RowsOf_105 e) _
        exact ok_spec_RowsOf_105 e r hm
  · skip
    exact go_end [.res (res_spec_GoodCues x0_0), .bit true, .bit true, .bit true, .bit true, .bit true, .bit true, .bit true, .rows (List.map (rI .i64) ([] : List Int))] 1000 (And.intro (ok_spec_GoodCues p0 x0_0 h0_0) (And.intro (not_t h0_1) (And.intro (not_t h0_1) (And.intro (not_t h0_1) (And.intro (Eq.refl true) (And.intro (Eq.refl true) (And.intro (Eq.refl true) (And.intro (Eq.refl true) (And.intro (all_le0 (rI .i64) ([] : List Int) rfl) (And.intro (all_t (rI .i64) ([] : List Int) rfl) True.intro)))))))))) (congrArg res_spec_RowsOf (Option.some.inj hm)) (by kernel_rfl)

theorem ok_spec_RowsOf (p0 : (List S_Cue)) (p1 : Int) (r : (List Int)) (hm : m_spec_RowsOf p0 p1 = some r) : Runs ext tbl 11 (as_spec_RowsOf p0 p1) (res_spec_RowsOf r) :=
  runs_of (vf := vf_spec_RowsOf) (by kernel_rfl) rfl (st := (enter vf_spec_RowsOf (as_spec_RowsOf p0 p1)).getD default) (by kernel_rfl) (go_on [] 1000 True.intro (ok_spec_RowsOf_0 p0 p1 r hm) (by kernel_rfl))
theorem ok_impl_ztime_0 (p0 : Int) (r : Bool) (hm : m_impl_ztime_0 p0 = some r) : EvU ext tbl (.c c_impl_ztime_0) K_impl_ztime_0 (s_impl_ztime_0 p0) (Post vf_impl_ztime (res_impl_ztime r)) := by
  obtain ⟨h0_0, hm⟩ | ⟨h0_0, hm⟩ := split_ite hm
  · skip
    exact go_end [.bit true, .bit true, .bit true] 1000 (And.intro h0_0 (And.intro h0_0 (And.intro h0_0 True.intro))) (congrArg res_impl_ztime (Option.some.inj hm)) (by kernel_rfl)
  · skip
    exact go_end [.bit false, .bit false, .bit false] 1000 (And.intro h0_0 (And.intro h0_0 (And.intro h0_0 True.intro))) (congrArg res_impl_ztime (Option.some.inj hm)) (by kernel_rfl)

theorem ok_impl_ztime (p0 : Int) (r : Bool) (hm : m_impl_ztime p0 = some r) : Runs ext tbl 35 (as_impl_ztime p0) (res_impl_ztime r) :=
  runs_of (vf := vf_impl_ztime) (by kernel_rfl) rfl (st := (enter vf_impl_ztime (as_impl_ztime p0)).getD default) (by kernel_rfl) (go_on [] 1000 True.intro (ok_impl_ztime_0 p0 r hm) (by kernel_rfl))
theorem ok_strings_Contains (p0 : ByteArray) (p1 : ByteArray) (r : Bool) (hm : m_strings_Contains p0 p1 = some r) : Runs ext tbl 53 (as_strings_Contains p0 p1) (res_strings_Contains r) := by
  refine ⟨1, ?_⟩
  have h : vrun ext tbl 1 53 (as_strings_Contains p0 p1) = (m_strings_Contains p0 p1).map res_strings_Contains := by kernel_rfl
  rw [h, hm]
  rfl
def O_impl_zcueLine_7 (p0 : ByteArray) (Q : VX → St → Prop) (e : (Int) ⊕ ((Unit))) : Prop := match e with | .inl e => Q = Post vf_impl_zcueLine (res_impl_zcueLine e) | .inr e => EvU ext tbl (.c c_impl_zcueLine_25) K_impl_zcueLine_25 (s_impl_zcueLine_25 p0) Q
theorem ok_impl_zcueLine_25 (p0 : ByteArray) (r : Int) (hm : m_impl_zcueLine_25 p0 = some r) : EvU ext tbl (.c c_impl_zcueLine_25) K_impl_zcueLine_25 (s_impl_zcueLine_25 p0) (Post vf_impl_zcueLine (res_impl_zcueLine r)) := by
  obtain ⟨x25_0, h25_0, hm⟩ := bind_some hm
  obtain ⟨h25_1, hm⟩ | ⟨h25_1, hm⟩ := split_ite hm
  · skip
    exact go_end [.res (res_strings_Contains x25_0), .bit true] 1000 (And.intro (ok_strings_Contains p0 (ByteArray.mk #[45, 45, 62]) x25_0 h25_0) (And.intro h25_1 True.intro)) (congrArg res_impl_zcueLine (Option.some.inj hm)) (by kernel_rfl)
  · skip
    obtain ⟨h25_2, hm⟩ | ⟨h25_2, hm⟩ := split_ite hm
    · skip
      exact go_end [.res (res_strings_Contains x25_0), .bit false, .bit true] 1000 (And.intro (ok_strings_Contains p0 (ByteArray.mk #[45, 45, 62]) x25_0 h25_0) (And.intro h25_1 (And.intro h25_2 True.intro))) (congrArg res_impl_zcueLine (Option.some.inj hm)) (by kernel_rfl)
    · skip
      exact go_end [.res (res_strings_Contains x25_0), .bit false, .bit false] 1000 (And.intro (ok_strings_Contains p0 (ByteArray.mk #[45, 45, 62]) x25_0 h25_0) (And.intro h25_1 (And.intro h25_2 True.intro))) (congrArg res_impl_zcueLine (Option.some.inj hm)) (by kernel_rfl)

theorem ok_impl_zcueLine_7 (p0 : ByteArray) (i7_0 : Int) (y : (Int) ⊕ ((Int) ⊕ ((Unit)))) (hm : m_impl_zcueLine_7 p0 i7_0 = some y) (Q : VX → St → Prop)
    (hin : ∀ s, y = .inl s → EvU ext tbl (.c c_impl_zcueLine_7) K_impl_zcueLine_7 (s_impl_zcueLine_7 p0 s) Q) (hout : ∀ e, y = .inr e → O_impl_zcueLine_7 p0 Q e) : EvU ext tbl (.c c_impl_zcueLine_7) K_impl_zcueLine_7 (s_impl_zcueLine_7 p0 i7_0) Q := by
  obtain ⟨h7_0, hm⟩ | ⟨h7_0, hm⟩ := split_ite hm
  · skip
    obtain ⟨x7_1, h7_1, hm⟩ := bind_some hm
    obtain ⟨h7_2, hm⟩ | ⟨h7_2, hm⟩ := split_ite hm
    · skip
      have hQ : Q = Post vf_impl_zcueLine (res_impl_zcueLine 4) := hout (.inl 4) (Option.some.inj hm).symm
      subst hQ
      exact go_end [.bit true, .int x7_1, .bit true, .bit true, .bit true, .bit true, .bit true, .bit true] 1000 (And.intro h7_0 (And.intro (sat_nn h7_1) (And.intro (sat_at h7_1) (And.intro h7_2 (And.intro h7_2 (And.intro h7_2 (And.intro h7_2 (And.intro h7_2 (And.intro (Eq.refl true) True.intro))))))))) (rfl : res_impl_zcueLine 4 = res_impl_zcueLine 4) (by kernel_rfl)
    · skip
      obtain ⟨h7_3, hm⟩ | ⟨h7_3, hm⟩ := split_ite hm
      · skip
        have hQ : Q = Post vf_impl_zcueLine (res_impl_zcueLine 4) := hout (.inl 4) (Option.some.inj hm).symm
        subst hQ
        exact go_end [.bit true, .int x7_1, .bit false, .bit false, .bit false, .int x7_1, .bit false, .bit false, .bit true] 1000 (And.intro h7_0 (And.intro (sat_nn h7_1) (And.intro (sat_at h7_1) (And.intro h7_2 (And.intro h7_2 (And.intro h7_2 (And.intro (sat_nn h7_1) (And.intro (sat_at h7_1) (And.intro h7_2 (And.intro h7_2 (And.intro h7_3 True.intro))))))))))) (rfl : res_impl_zcueLine 4 = res_impl_zcueLine 4) (by kernel_rfl)
      · skip
        refine go_on (u' := .c c_impl_zcueLine_7) (K' := K_impl_zcueLine_7) (st' := s_impl_zcueLine_7 p0 (w64 (i7_0 + 1))) [.bit true, .int x7_1, .bit false, .bit false, .bit false, .int x7_1, .bit false, .bit false, .bit false] 1000 (And.intro h7_0 (And.intro (sat_nn h7_1) (And.intro (sat_at h7_1) (And.intro h7_2 (And.intro h7_2 (And.intro h7_2 (And.intro (sat_nn h7_1) (And.intro (sat_at h7_1) (And.intro h7_2 (And.intro h7_2 (And.intro h7_3 True.intro))))))))))) ?_ (by kernel_rfl)
        exact hin (w64 (i7_0 + 1)) (Option.some.inj hm).symm
  · skip
    refine go_on (u' := .c c_impl_zcueLine_25) (K' := K_impl_zcueLine_25) (st' := s_impl_zcueLine_25 p0) [.bit false] 1000 (And.intro h7_0 True.intro) ?_ (by kernel_rfl)
    exact hout (.inr ()) (Option.some.inj hm).symm

theorem ok_impl_zcueLine_0 (p0 : ByteArray) (r : Int) (hm : m_impl_zcueLine_0 p0 = some r) : EvU ext tbl (.c c_impl_zcueLine_0) K_impl_zcueLine_0 (s_impl_zcueLine_0 p0) (Post vf_impl_zcueLine (res_impl_zcueLine r)) := by
  refine go_on (u' := .c c_impl_zcueLine_7) (K' := K_impl_zcueLine_7) (st' := s_impl_zcueLine_7 p0 0) [] 1000 True.intro ?_ (by kernel_rfl)
  obtain ⟨e, he, hm⟩ := bind_some hm
  refine loop_rule (u := .c c_impl_zcueLine_7) (K := K_impl_zcueLine_7) (Q := (Post vf_impl_zcueLine (res_impl_zcueLine r))) (b := lp_impl_zcueLine_7 p0) (We := O_impl_zcueLine_7 p0 (Post vf_impl_zcueLine (res_impl_zcueLine r))) (stJ := fun s => s_impl_zcueLine_7 p0 s) (s := 0) (fun s y hb hin hout => ok_impl_zcueLine_7 p0 s y hb (Post vf_impl_zcueLine (res_impl_zcueLine r)) hin hout) he ?_
  rcases e with e | e
  · skip
    exact congrArg (fun r => Post vf_impl_zcueLine (res_impl_zcueLine r)) (Option.some.inj hm).symm
  · skip
    show EvU ext tbl (.c c_impl_zcueLine_25) K_impl_zcueLine_25 (s_impl_zcueLine_25 p0) _
    exact ok_impl_zcueLine_25 p0 r hm

theorem ok_impl_zcueLine (p0 : ByteArray) (r : Int) (hm : m_impl_zcueLine p0 = some r) : Runs ext tbl 49 (as_impl_zcueLine p0) (res_impl_zcueLine r) :=
  runs_of (vf := vf_impl_zcueLine) (by kernel_rfl) rfl (st := (enter vf_impl_zcueLine (as_impl_zcueLine p0)).getD default) (by kernel_rfl) (go_on [] 1000 True.intro (ok_impl_zcueLine_0 p0 r hm) (by kernel_rfl))
def O_impl_zcue_15 (Q : VX → St → Prop) (e : (Bool) ⊕ ((Unit))) : Prop := match e with | .inl e => Q = Post vf_impl_zcue (res_impl_zcue e) | .inr e => EvU ext tbl (.c c_impl_zcue_33) K_impl_zcue_33 (s_impl_zcue_33) Q
theorem ok_impl_zcue_33 (r : Bool) (hm : m_impl_zcue_33 = some r) : EvU ext tbl (.c c_impl_zcue_33) K_impl_zcue_33 (s_impl_zcue_33) (Post vf_impl_zcue (res_impl_zcue r)) := by
  exact go_end [] 1000 True.intro (congrArg res_impl_zcue (Option.some.inj hm)) (by kernel_rfl)

theorem ok_impl_zcue_15 (p0 : S_Cue) (i15_0 : Int) (y : (Int) ⊕ ((Bool) ⊕ ((Unit)))) (hm : m_impl_zcue_15 p0 i15_0 = some y) (Q : VX → St → Prop)
    (hin : ∀ s, y = .inl s → EvU ext tbl (.c c_impl_zcue_15) K_impl_zcue_15 (s_impl_zcue_15 p0 s) Q) (hout : ∀ e, y = .inr e → O_impl_zcue_15 Q e) : EvU ext tbl (.c c_impl_zcue_15) K_impl_zcue_15 (s_impl_zcue_15 p0 i15_0) Q := by
  obtain ⟨h15_0, hm⟩ | ⟨h15_0, hm⟩ := split_ite hm
  · skip
    obtain ⟨x15_1, h15_1, hm⟩ := bind_some hm
    obtain ⟨h15_2, hm⟩ | ⟨h15_2, hm⟩ := split_ite hm
    · skip
      have hQ : Q = Post vf_impl_zcue (res_impl_zcue false) := hout (.inl false) (Option.some.inj hm).symm
      subst hQ
      exact go_end [.bit true, .row (rS x15_1), .bit true, .bit true, .bit true, .bit true, .bit true, .bit true, .bit true, .bit true, .bit true, .bit true, .bit true, .bit true] 1000 (And.intro h15_0 (And.intro (rd_nn h15_1) (And.intro (at_row rS (rd_get h15_1)) (And.intro h15_2 (And.intro h15_2 (And.intro h15_2 (And.intro h15_2 (And.intro h15_2 (And.intro h15_2 (And.intro h15_2 (And.intro (Eq.refl true) (And.intro (Eq.refl true) (And.intro (Eq.refl true) (And.intro (Eq.refl true) (And.intro (Eq.refl true) True.intro))))))))))))))) (rfl : res_impl_zcue false = res_impl_zcue false) (by kernel_rfl)
    · skip
      obtain ⟨x15_3, h15_3, hm⟩ := bind_some hm
      obtain ⟨h15_4, hm⟩ | ⟨h15_4, hm⟩ := split_ite hm
      · skip
        have hQ : Q = Post vf_impl_zcue (res_impl_zcue false) := hout (.inl false) (Option.some.inj hm).symm
        subst hQ
        exact go_end [.bit true, .row (rS x15_1), .bit false, .bit false, .bit false, .bit false, .bit false, .int x15_3, .bit false, .bit false, .bit true, .bit true, .bit true, .bit true, .bit true] 1000 (And.intro h15_0 (And.intro (rd_nn h15_1) (And.intro (at_row rS (rd_get h15_1)) (And.intro h15_2 (And.intro h15_2 (And.intro h15_2 (And.intro h15_2 (And.intro h15_2 (And.intro (sat_nn h15_3) (And.intro (sat_at h15_3) (And.intro h15_2 (And.intro h15_2 (And.intro h15_4 (And.intro h15_4 (And.intro h15_4 (And.intro h15_4 (And.intro (Eq.refl true) True.intro))))))))))))))))) (rfl : res_impl_zcue false = res_impl_zcue false) (by kernel_rfl)
      · skip
        obtain ⟨x15_5, h15_5, hm⟩ := bind_some hm
        obtain ⟨h15_6, hm⟩ | ⟨h15_6, hm⟩ := split_ite hm
        · skip
          have hQ : Q = Post vf_impl_zcue (res_impl_zcue false) := hout (.inl false) (Option.some.inj hm).symm
          subst hQ
          exact go_end [.bit true, .row (rS x15_1), .bit false, .bit false, .bit false, .bit false, .bit false, .int x15_3, .bit false, .bit false, .bit false, .bit false, .res (res_impl_zcueLine x15_5), .bit false, .bit false, .bit true] 1000 (And.intro h15_0 (And.intro (rd_nn h15_1) (And.intro (at_row rS (rd_get h15_1)) (And.intro h15_2 (And.intro h15_2 (And.intro h15_2 (And.intro h15_2 (And.intro h15_2 (And.intro (sat_nn h15_3) (And.intro (sat_at h15_3) (And.intro h15_2 (And.intro h15_2 (And.intro h15_4 (And.intro h15_4 (And.intro (ok_impl_zcueLine x15_1 x15_5 h15_5) (And.intro h15_4 (And.intro h15_4 (And.intro h15_6 True.intro)))))))))))))))))) (rfl : res_impl_zcue false = res_impl_zcue false) (by kernel_rfl)
        · skip
          refine go_on (u' := .c c_impl_zcue_15) (K' := K_impl_zcue_15) (st' := s_impl_zcue_15 p0 (w64 (i15_0 + 1))) [.bit true, .row (rS x15_1), .bit false, .bit false, .bit false, .bit false, .bit false, .int x15_3, .bit false, .bit false, .bit false, .bit false, .res (res_impl_zcueLine x15_5), .bit false, .bit false, .bit false] 1000 (And.intro h15_0 (And.intro (rd_nn h15_1) (And.intro (at_row rS (rd_get h15_1)) (And.intro h15_2 (And.intro h15_2 (And.intro h15_2 (And.intro h15_2 (And.intro h15_2 (And.intro (sat_nn h15_3) (And.intro (sat_at h15_3) (And.intro h15_2 (And.intro h15_2 (And.intro h15_4 (And.intro h15_4 (And.intro (ok_impl_zcueLine x15_1 x15_5 h15_5) (And.intro h15_4 (And.intro h15_4 (And.intro h15_6 True.intro)))))))))))))))))) ?_ (by kernel_rfl)
          exact hin (w64 (i15_0 + 1)) (Option.some.inj hm).symm
  · skip
    refine go_on (u' := .c c_impl_zcue_33) (K' := K_impl_zcue_33) (st' := s_impl_zcue_33) [.bit false] 1000 (And.intro h15_0 True.intro) ?_ (by kernel_rfl)
    exact hout (.inr ()) (Option.some.inj hm).symm

theorem ok_impl_zcue_0 (p0 : S_Cue) (r : Bool) (hm : m_impl_zcue_0 p0 = some r) : EvU ext tbl (.c c_impl_zcue_0) K_impl_zcue_0 (s_impl_zcue_0 p0) (Post vf_impl_zcue (res_impl_zcue r)) := by
  obtain ⟨h0_0, hm⟩ | ⟨h0_0, hm⟩ := split_ite hm
  · skip
    exact go_end [.num p0.lines.length, .bit true, .bit true, .bit true, .bit true, .bit true, .bit true] 1000 (And.intro (len_map rS (show p0.lines.length = p0.lines.length from rfl)) (And.intro h0_0 (And.intro h0_0 (And.intro h0_0 (And.intro h0_0 (And.intro h0_0 (And.intro (Eq.refl true) True.intro))))))) (congrArg res_impl_zcue (Option.some.inj hm)) (by kernel_rfl)
  · skip
    obtain ⟨h0_1, hm⟩ | ⟨h0_1, hm⟩ := split_ite hm
    · skip
      exact go_end [.num p0.lines.length, .bit false, .bit false, .bit false, .num p0.lines.length, .bit false, .bit false, .bit true] 1000 (And.intro (len_map rS (show p0.lines.length = p0.lines.length from rfl)) (And.intro h0_0 (And.intro h0_0 (And.intro h0_0 (And.intro (len_map rS (show p0.lines.length = p0.lines.length from rfl)) (And.intro h0_0 (And.intro h0_0 (And.intro h0_1 True.intro)))))))) (congrArg res_impl_zcue (Option.some.inj hm)) (by kernel_rfl)
    · skip
      refine go_on (u' := .c c_impl_zcue_15) (K' := K_impl_zcue_15) (st' := s_impl_zcue_15 p0 0) [.num p0.lines.length, .bit false, .bit false, .bit false, .num p0.lines.length, .bit false, .bit false, .bit false, .num p0.lines.length] 1000 (And.intro (len_map rS (show p0.lines.length = p0.lines.length from rfl)) (And.intro h0_0 (And.intro h0_0 (And.intro h0_0 (And.intro (len_map rS (show p0.lines.length = p0.lines.length from rfl)) (And.intro h0_0 (And.intro h0_0 (And.intro h0_1 (And.intro (len_map rS (show p0.lines.length = p0.lines.length from rfl)) True.intro))))))))) ?_ (by kernel_rfl)
      obtain ⟨e, he, hm⟩ := bind_some hm
      refine loop_rule (u := .c c_impl_zcue_15) (K := K_impl_zcue_15) (Q := (Post vf_impl_zcue (res_impl_zcue r))) (b := lp_impl_zcue_15 p0) (We := O_impl_zcue_15 (Post vf_impl_zcue (res_impl_zcue r))) (stJ := fun s => s_impl_zcue_15 p0 s) (s := 0) (fun s y hb hin hout => ok_impl_zcue_15 p0 s y hb (Post vf_impl_zcue (res_impl_zcue r)) hin hout) he ?_
      rcases e with e | e
      · skip
        exact congrArg (fun r => Post vf_impl_zcue (res_impl_zcue r)) (Option.some.inj hm).symm
      · skip
        show EvU ext tbl (.c c_impl_zcue_33) K_impl_zcue_33 (s_impl_zcue_33) _
        exact ok_impl_zcue_33 r hm

theorem ok_impl_zcue (p0 : S_Cue) (r : Bool) (hm : m_impl_zcue p0 = some r) : Runs ext tbl 41 (as_impl_zcue p0) (res_impl_zcue r) :=
  runs_of (vf := vf_impl_zcue) (by kernel_rfl) rfl (st := (enter vf_impl_zcue (as_impl_zcue p0)).getD default) (by kernel_rfl) (go_on [] 1000 True.intro (ok_impl_zcue_0 p0 r hm) (by kernel_rfl))
def O_impl_GoodCues_15 (Q : VX → St → Prop) (e : (Bool) ⊕ ((Unit))) : Prop := match e with | .inl e => Q = Post vf_impl_GoodCues (res_impl_GoodCues e) | .inr e => EvU ext tbl (.c c_impl_GoodCues_33) K_impl_GoodCues_33 (s_impl_GoodCues_33) Q
theorem ok_impl_GoodCues_33 (r : Bool) (hm : m_impl_GoodCues_33 = some r) : EvU ext tbl (.c c_impl_GoodCues_33) K_impl_GoodCues_33 (s_impl_GoodCues_33) (Post vf_impl_GoodCues (res_impl_GoodCues r)) := by
  exact go_end [] 1000 True.intro (congrArg res_impl_GoodCues (Option.some.inj hm)) (by kernel_rfl)

theorem ok_impl_GoodCues_15 (p0 : (List S_Cue)) (i15_0 : Int) (y : (Int) ⊕ ((Bool) ⊕ ((Unit)))) (hm : m_impl_GoodCues_15 p0 i15_0 = some y) (Q : VX → St → Prop)
    (hin : ∀ s, y = .inl s → EvU ext tbl (.c c_impl_GoodCues_15) K_impl_GoodCues_15 (s_impl_GoodCues_15 p0 s) Q) (hout : ∀ e, y = .inr e → O_impl_GoodCues_15 Q e) : EvU ext tbl (.c c_impl_GoodCues_15) K_impl_GoodCues_15 (s_impl_GoodCues_15 p0 i15_0) Q := by
  obtain ⟨h15_0, hm⟩ | ⟨h15_0, hm⟩ := split_ite hm
  · skip
    obtain ⟨x15_1, h15_1, hm⟩ := bind_some hm
    obtain ⟨x15_2, h15_2, hm⟩ := bind_some hm
    obtain ⟨h15_3, hm⟩ | ⟨h15_3, hm⟩ := split_ite hm
    · skip
      obtain ⟨x15_4, h15_4, hm⟩ := bind_some hm
      obtain ⟨h15_5, hm⟩ | ⟨h15_5, hm⟩ := split_ite hm
      · skip
        obtain ⟨h15_6, hm⟩ | ⟨h15_6, hm⟩ := split_ite hm
        · skip
          have hQ : Q = Post vf_impl_GoodCues (res_impl_GoodCues false) := hout (.inl false) (Option.some.inj hm).symm
          subst hQ
          exact go_end [.bit true, .row (rS_Cue x15_1), .res (res_impl_ztime x15_2), .bit false, .bit false, .bit false, .res (res_impl_ztime x15_4), .bit false, .bit false, .bit false, .bit false, .bit false, .bit false, .bit false, .bit false, .bit true, .bit true, .bit true, .bit true, .bit true, .bit true, .bit true, .bit true, .bit true, .bit true] 1000 (And.intro h15_0 (And.intro (rd_nn h15_1) (And.intro (at_row rS_Cue (rd_get h15_1)) (And.intro (ok_impl_ztime x15_1.from_ x15_2 h15_2) (And.intro (not_f h15_3) (And.intro (not_f h15_3) (And.intro (not_f h15_3) (And.intro (ok_impl_ztime x15_1.to_ x15_4 h15_4) (And.intro (not_f h15_3) (And.intro (not_f h15_3) (And.intro (not_f h15_5) (And.intro (not_f h15_5) (And.intro (not_f h15_5) (And.intro (not_f h15_5) (And.intro (not_f h15_5) (And.intro (not_f h15_5) (And.intro h15_6 (And.intro h15_6 (And.intro h15_6 (And.intro h15_6 (And.intro (Eq.refl true) (And.intro (Eq.refl true) (And.intro (Eq.refl true) (And.intro (Eq.refl true) (And.intro (Eq.refl true) (And.intro (Eq.refl true) True.intro)))))))))))))))))))))))))) (rfl : res_impl_GoodCues false = res_impl_GoodCues false) (by kernel_rfl)
        · skip
          obtain ⟨x15_7, h15_7, hm⟩ := bind_some hm
          obtain ⟨h15_8, hm⟩ | ⟨h15_8, hm⟩ := split_ite hm
          · skip
            obtain ⟨h15_9, hm⟩ | ⟨h15_9, hm⟩ := split_ite hm
            · skip
              obtain ⟨x15_10, h15_10, hm⟩ := bind_some hm
              obtain ⟨h15_11, hm⟩ | ⟨h15_11, hm⟩ := split_ite hm
              · skip
                have hQ : Q = Post vf_impl_GoodCues (res_impl_GoodCues false) := hout (.inl false) (Option.some.inj hm).symm
                subst hQ
                exact go_end [.bit true, .row (rS_Cue x15_1), .res (res_impl_ztime x15_2), .bit false, .bit false, .bit false, .res (res_impl_ztime x15_4), .bit false, .bit false, .bit false, .bit false, .bit false, .bit false, .bit false, .bit false, .bit false, .bit false, .res (res_impl_zcue x15_7), .bit false, .bit false, .bit false, .bit false, .bit false, .bit true, .bit true, .bit true, .bit true, .bit true, .bit true, .row (rS_Cue x15_10), .bit true, .bit true, .bit true, .bit false, .bit true, .bit false, .bit true] 1000 (And.intro h15_0 (And.intro (rd_nn h15_1) (And.intro (at_row rS_Cue (rd_get h15_1)) (And.intro (ok_impl_ztime x15_1.from_ x15_2 h15_2) (And.intro (not_f h15_3) (And.intro (not_f h15_3) (And.intro (not_f h15_3) (And.intro (ok_impl_ztime x15_1.to_ x15_4 h15_4) (And.intro (not_f h15_3) (And.intro (not_f h15_3) (And.intro (not_f h15_5) (And.intro (not_f h15_5) (And.intro (not_f h15_5) (And.intro (not_f h15_5) (And.intro (not_f h15_5) (And.intro (not_f h15_5) (And.intro h15_6 (And.intro h15_6 (And.intro (ok_impl_zcue x15_1 x15_7 h15_7) (And.intro h15_6 (And.intro h15_6 (And.intro (not_f h15_8) (And.intro (not_f h15_8) (And.intro (not_f h15_8) (And.intro h15_9 (And.intro h15_9 (And.intro h15_9 (And.intro h15_9 (And.intro h15_9 (And.intro h15_9 (And.intro (rd_nn h15_10) (And.intro (at_row rS_Cue (rd_get h15_10)) (And.intro h15_9 (And.intro h15_9 (And.intro h15_9 (And.intro (not_f h15_8) (And.intro h15_9 (And.intro (not_f h15_8) (And.intro h15_11 True.intro))))))))))))))))))))))))))))))))))))))) (rfl : res_impl_GoodCues false = res_impl_GoodCues false) (by kernel_rfl)
              · skip
                refine go_on (u' := .c c_impl_GoodCues_15) (K' := K_impl_GoodCues_15) (st' := s_impl_GoodCues_15 p0 (w64 (i15_0 + 1))) [.bit true, .row (rS_Cue x15_1), .res (res_impl_ztime x15_2), .bit false, .bit false, .bit false, .res (res_impl_ztime x15_4), .bit false, .bit false, .bit false, .bit false, .bit false, .bit false, .bit false, .bit false, .bit false, .bit false, .res (res_impl_zcue x15_7), .bit false, .bit false, .bit false, .bit false, .bit false, .bit true, .bit true, .bit true, .bit true, .bit true, .bit true, .row (rS_Cue x15_10), .bit true, .bit true, .bit true, .bit false, .bit true, .bit false, .bit false] 1000 (And.intro h15_0 (And.intro (rd_nn h15_1) (And.intro (at_row rS_Cue (rd_get h15_1)) (And.intro (ok_impl_ztime x15_1.from_ x15_2 h15_2) (And.intro (not_f h15_3) (And.intro (not_f h15_3) (And.intro (not_f h15_3) (And.intro (ok_impl_ztime x15_1.to_ x15_4 h15_4) (And.intro (not_f h15_3) (And.intro (not_f h15_3) (And.intro (not_f h15_5) (And.intro (not_f h15_5) (And.intro (not_f h15_5) (And.intro (not_f h15_5) (And.intro (not_f h15_5) (And.intro (not_f h15_5) (And.intro h15_6 (And.intro h15_6 (And.intro (ok_impl_zcue x15_1 x15_7 h15_7) (And.intro h15_6 (And.intro h15_6 (And.intro (not_f h15_8) (And.intro (not_f h15_8) (And.intro (not_f h15_8) (And.intro h15_9 (And.intro h15_9 (And.intro h15_9 (And.intro h15_9 (And.intro h15_9 (And.intro h15_9 (And.intro (rd_nn h15_10) (And.intro (at_row rS_Cue (rd_get h15_10)) (And.intro h15_9 (And.intro h15_9 (And.intro h15_9 (And.intro (not_f h15_8) (And.intro h15_9 (And.intro (not_f h15_8) (And.intro h15_11 True.intro))))))))))))))))))))))))))))))))))))))) ?_ (by kernel_rfl)
                exact hin (w64 (i15_0 + 1)) (Option.some.inj hm).symm
            · skip
              refine go_on (u' := .c c_impl_GoodCues_15) (K' := K_impl_GoodCues_15) (st' := s_impl_GoodCues_15 p0 (w64 (i15_0 + 1))) [.bit true, .row (rS_Cue x15_1), .res (res_impl_ztime x15_2), .bit false, .bit false, .bit false, .res (res_impl_ztime x15_4), .bit false, .bit false, .bit false, .bit false, .bit false, .bit false, .bit false, .bit false, .bit false, .bit false, .res (res_impl_zcue x15_7), .bit false, .bit false, .bit false, .bit false, .bit false, .bit false, .bit false, .bit false, .bit false, .bit false, .bit false, .bit false, .bit false, .bit false, .bit false, .bit false, .bit false, .bit false] 1000 (And.intro h15_0 (And.intro (rd_nn h15_1) (And.intro (at_row rS_Cue (rd_get h15_1)) (And.intro (ok_impl_ztime x15_1.from_ x15_2 h15_2) (And.intro (not_f h15_3) (And.intro (not_f h15_3) (And.intro (not_f h15_3) (And.intro (ok_impl_ztime x15_1.to_ x15_4 h15_4) (And.intro (not_f h15_3) (And.intro (not_f h15_3) (And.intro (not_f h15_5) (And.intro (not_f h15_5) (And.intro (not_f h15_5) (And.intro (not_f h15_5) (And.intro (not_f h15_5) (And.intro (not_f h15_5) (And.intro h15_6 (And.intro h15_6 (And.intro (ok_impl_zcue x15_1 x15_7 h15_7) (And.intro h15_6 (And.intro h15_6 (And.intro (not_f h15_8) (And.intro (not_f h15_8) (And.intro (not_f h15_8) (And.intro h15_9 (And.intro h15_9 (And.intro h15_9 (And.intro h15_9 (And.intro h15_9 (And.intro h15_9 (And.intro h15_9 (And.intro h15_9 (And.intro h15_9 (And.intro (not_f h15_8) (And.intro h15_9 (And.intro (not_f h15_8) (And.intro (Eq.refl false) True.intro))))))))))))))))))))))))))))))))))))) ?_ (by kernel_rfl)
              exact hin (w64 (i15_0 + 1)) (Option.some.inj hm).symm
          · skip
            have hQ : Q = Post vf_impl_GoodCues (res_impl_GoodCues false) := hout (.inl false) (Option.some.inj hm).symm
            subst hQ
            exact go_end [.bit true, .row (rS_Cue x15_1), .res (res_impl_ztime x15_2), .bit false, .bit false, .bit false, .res (res_impl_ztime x15_4), .bit false, .bit false, .bit false, .bit false, .bit false, .bit false, .bit false, .bit false, .bit false, .bit false, .res (res_impl_zcue x15_7), .bit false, .bit false, .bit true, .bit true, .bit true, .bit true, .bit true, .bit true] 1000 (And.intro h15_0 (And.intro (rd_nn h15_1) (And.intro (at_row rS_Cue (rd_get h15_1)) (And.intro (ok_impl_ztime x15_1.from_ x15_2 h15_2) (And.intro (not_f h15_3) (And.intro (not_f h15_3) (And.intro (not_f h15_3) (And.intro (ok_impl_ztime x15_1.to_ x15_4 h15_4) (And.intro (not_f h15_3) (And.intro (not_f h15_3) (And.intro (not_f h15_5) (And.intro (not_f h15_5) (And.intro (not_f h15_5) (And.intro (not_f h15_5) (And.intro (not_f h15_5) (And.intro (not_f h15_5) (And.intro h15_6 (And.intro h15_6 (And.intro (ok_impl_zcue x15_1 x15_7 h15_7) (And.intro h15_6 (And.intro h15_6 (And.intro (not_t h15_8) (And.intro (not_t h15_8) (And.intro (not_t h15_8) (And.intro (not_t h15_8) (And.intro (not_t h15_8) (And.intro (Eq.refl true) True.intro))))))))))))))))))))))))))) (rfl : res_impl_GoodCues false = res_impl_GoodCues false) (by kernel_rfl)
      · skip
        have hQ : Q = Post vf_impl_GoodCues (res_impl_GoodCues false) := hout (.inl false) (Option.some.inj hm).symm
        subst hQ
        exact go_end [.bit true, .row (rS_Cue x15_1), .res (res_impl_ztime x15_2), .bit false, .bit false, .bit false, .res (res_impl_ztime x15_4), .bit false, .bit false, .bit true, .bit true, .bit true, .bit true, .bit true, .bit true, .bit true, .bit true, .bit true, .bit true, .bit true, .bit true, .bit true, .bit true, .bit true, .bit true] 1000 (And.intro h15_0 (And.intro (rd_nn h15_1) (And.intro (at_row rS_Cue (rd_get h15_1)) (And.intro (ok_impl_ztime x15_1.from_ x15_2 h15_2) (And.intro (not_f h15_3) (And.intro (not_f h15_3) (And.intro (not_f h15_3) (And.intro (ok_impl_ztime x15_1.to_ x15_4 h15_4) (And.intro (not_f h15_3) (And.intro (not_f h15_3) (And.intro (not_t h15_5) (And.intro (not_t h15_5) (And.intro (not_t h15_5) (And.intro (not_t h15_5) (And.intro (not_t h15_5) (And.intro (not_t h15_5) (And.intro (Eq.refl true) (And.intro (Eq.refl true) (And.intro (Eq.refl true) (And.intro (Eq.refl true) (And.intro (Eq.refl true) (And.intro (Eq.refl true) (And.intro (Eq.refl true) (And.intro (Eq.refl true) (And.intro (Eq.refl true) (And.intro (Eq.refl true) True.intro)))))))))))))))))))))))))) (rfl : res_impl_GoodCues false = res_impl_GoodCues false) (by kernel_rfl)
    · skip
      have hQ : Q = Post vf_impl_GoodCues (res_impl_GoodCues false) := hout (.inl false) (Option.some.inj hm).symm
      subst hQ
      exact go_end [.bit true, .row (rS_Cue x15_1), .res (res_impl_ztime x15_2), .bit true, .bit true, .bit true, .bit true, .bit true, .bit true, .bit true, .bit true, .bit true, .bit true, .bit true, .bit true, .bit true, .bit true, .bit true, .bit true, .bit true, .bit true, .bit true, .bit true, .bit true] 1000 (And.intro h15_0 (And.intro (rd_nn h15_1) (And.intro (at_row rS_Cue (rd_get h15_1)) (And.intro (ok_impl_ztime x15_1.from_ x15_2 h15_2) (And.intro (not_t h15_3) (And.intro (not_t h15_3) (And.intro (not_t h15_3) (And.intro (not_t h15_3) (And.intro (not_t h15_3) (And.intro (Eq.refl true) (And.intro (Eq.refl true) (And.intro (Eq.refl true) (And.intro (Eq.refl true) (And.intro (Eq.refl true) (And.intro (Eq.refl true) (And.intro (Eq.refl true) (And.intro (Eq.refl true) (And.intro (Eq.refl true) (And.intro (Eq.refl true) (And.intro (Eq.refl true) (And.intro (Eq.refl true) (And.intro (Eq.refl true) (And.intro (Eq.refl true) (And.intro (Eq.refl true) (And.intro (Eq.refl true) True.intro))))))))))))))))))))))))) (rfl : res_impl_GoodCues false = res_impl_GoodCues false) (by kernel_rfl)
  · skip
    refine go_on (u' := .c c_impl_GoodCues_33) (K' := K_impl_GoodCues_33) (st' := s_impl_GoodCues_33) [.bit false] 1000 (And.intro h15_0 True.intro) ?_ (by kernel_rfl)
    exact hout (.inr ()) (Option.some.inj hm).symm

theorem ok_impl_GoodCues_0 (p0 : (List S_Cue)) (r : Bool) (hm : m_impl_GoodCues_0 p0 = some r) : EvU ext tbl (.c c_impl_GoodCues_0) K_impl_GoodCues_0 (s_impl_GoodCues_0 p0) (Post vf_impl_GoodCues (res_impl_GoodCues r)) := by
  obtain ⟨h0_0, hm⟩ | ⟨h0_0, hm⟩ := split_ite hm
  · skip
    exact go_end [.num p0.length, .bit true] 1000 (And.intro (len_map rS_Cue (show p0.length = p0.length from rfl)) (And.intro h0_0 True.intro)) (congrArg res_impl_GoodCues (Option.some.inj hm)) (by kernel_rfl)
  · skip
    refine go_on (u' := .c c_impl_GoodCues_15) (K' := K_impl_GoodCues_15) (st' := s_impl_GoodCues_15 p0 0) [.num p0.length, .bit false, .num p0.length] 1000 (And.intro (len_map rS_Cue (show p0.length = p0.length from rfl)) (And.intro h0_0 (And.intro (len_map rS_Cue (show p0.length = p0.length from rfl)) True.intro))) ?_ (by kernel_rfl)
    obtain ⟨e, he, hm⟩ := bind_some hm
    refine loop_rule (u := .c c_impl_GoodCues_15) (K := K_impl_GoodCues_15) (Q := (Post vf_impl_GoodCues (res_impl_GoodCues r))) (b := lp_impl_GoodCues_15 p0) (We := O_impl_GoodCues_15 (Post vf_impl_GoodCues (res_impl_GoodCues r))) (stJ := fun s => s_impl_GoodCues_15 p0 s) (s := 0) (fun s y hb hin hout => ok_impl_GoodCues_15 p0 s y hb (Post vf_impl_GoodCues (res_impl_GoodCues r)) hin hout) he ?_
    rcases e with e | e
    · skip
      exact congrArg (fun r => Post vf_impl_GoodCues (res_impl_GoodCues r)) (Option.some.inj hm).symm
    · skip
      show EvU ext tbl (.c c_impl_GoodCues_33) K_impl_GoodCues_33 (s_impl_GoodCues_33) _
      exact ok_impl_GoodCues_33 r hm

theorem ok_impl_GoodCues (p0 : (List S_Cue)) (r : Bool) (hm : m_impl_GoodCues p0 = some r) : Runs ext tbl 26 (as_impl_GoodCues p0) (res_impl_GoodCues r) :=
  runs_of (vf := vf_impl_GoodCues) (by kernel_rfl) rfl (st := (enter vf_impl_GoodCues (as_impl_GoodCues p0)).getD default) (by kernel_rfl) (go_on [] 1000 True.intro (ok_impl_GoodCues_0 p0 r hm) (by kernel_rfl))
def O_impl_RowsOf_51 (p0 : (List S_Cue)) (p1 : Int) (i17_0 : Int) (i34_0 : Int) (x17_1 : S_Cue) (l17_1 : (List Int)) (Q : VX → St → Prop) (e : ((List Bool))) : Prop := EvU ext tbl (.c c_impl_RowsOf_64) K_impl_RowsOf_64 (s_impl_RowsOf_64 p0 p1 i17_0 i34_0 x17_1 l17_1 e) Q
def O_impl_RowsOf_87 (p0 : (List S_Cue)) (p1 : Int) (i72_0 : Int) (i72_1 : Int) (i17_0 : Int) (x17_1 : S_Cue) (l17_1 : (List Int)) (l65_0 : (List Bool)) (Q : VX → St → Prop) (e : (Bool)) : Prop := EvU ext tbl (.c c_impl_RowsOf_99) K_impl_RowsOf_99 (s_impl_RowsOf_99 p0 p1 i72_0 i72_1 i17_0 x17_1 l17_1 l65_0 e) Q
def O_impl_RowsOf_72 (p0 : (List S_Cue)) (p1 : Int) (i17_0 : Int) (l17_1 : (List Int)) (Q : VX → St → Prop) (e : (Int)) : Prop := EvU ext tbl (.c c_impl_RowsOf_105) K_impl_RowsOf_105 (s_impl_RowsOf_105 p0 p1 i17_0 l17_1 e) Q
def O_impl_RowsOf_34 (p0 : (List S_Cue)) (p1 : Int) (i17_0 : Int) (x17_1 : S_Cue) (l17_1 : (List Int)) (Q : VX → St → Prop) (e : ((List Bool))) : Prop := EvU ext tbl (.c c_impl_RowsOf_65) K_impl_RowsOf_65 (s_impl_RowsOf_65 p0 p1 i17_0 x17_1 l17_1 e) Q
def O_impl_RowsOf_17 (Q : VX → St → Prop) (e : ((List Int))) : Prop := EvU ext tbl (.c c_impl_RowsOf_107) K_impl_RowsOf_107 (s_impl_RowsOf_107 e) Q
theorem ok_impl_RowsOf_64 (p0 : (List S_Cue)) (p1 : Int) (i17_0 : Int) (i34_0 : Int) (x17_1 : S_Cue) (l17_1 : (List Int)) (l64_0 : (List Bool)) (y : (Int × (List Bool)) ⊕ (((List Bool)))) (hm : m_impl_RowsOf_64 p0 p1 i17_0 i34_0 x17_1 l17_1 l64_0 = some y) (Q : VX → St → Prop)
    (hin : ∀ s, y = .inl s → EvU ext tbl (.c c_impl_RowsOf_34) K_impl_RowsOf_34 (s_impl_RowsOf_34 p0 p1 i17_0 x17_1 l17_1 s.1 s.2) Q) (hout : ∀ e, y = .inr e → O_impl_RowsOf_34 p0 p1 i17_0 x17_1 l17_1 Q e) : EvU ext tbl (.c c_impl_RowsOf_64) K_impl_RowsOf_64 (s_impl_RowsOf_64 p0 p1 i17_0 i34_0 x17_1 l17_1 l64_0) Q := by
  refine go_on (u' := .c c_impl_RowsOf_34) (K' := K_impl_RowsOf_34) (st' := s_impl_RowsOf_34 p0 p1 i17_0 x17_1 l17_1 (w64 (i34_0 + 1)) l64_0) [.num l17_1.length, .num l64_0.length] 1000 (And.intro (lens l17_1.length l17_1.length rfl) (And.intro (lens l64_0.length l64_0.length rfl) True.intro)) ?_ (by kernel_rfl)
  exact hin ((w64 (i34_0 + 1)), l64_0) (Option.some.inj hm).symm

theorem ok_impl_RowsOf_51 (p0 : (List S_Cue)) (p1 : Int) (i34_0 : Int) (i17_0 : Int) (x46_1 : S_Cue) (x17_1 : S_Cue) (l17_1 : (List Int)) (i51_0 : Int) (l51_1 : (List Bool)) (y : (Int × (List Bool)) ⊕ (((List Bool)))) (hm : m_impl_RowsOf_51 p0 p1 i34_0 i17_0 x46_1 x17_1 l17_1 i51_0 l51_1 = some y) (Q : VX → St → Prop)
    (hin : ∀ s, y = .inl s → EvU ext tbl (.c c_impl_RowsOf_51) K_impl_RowsOf_51 (s_impl_RowsOf_51 p0 p1 i34_0 i17_0 x46_1 x17_1 l17_1 s.1 s.2) Q) (hout : ∀ e, y = .inr e → O_impl_RowsOf_51 p0 p1 i17_0 i34_0 x17_1 l17_1 Q e) : EvU ext tbl (.c c_impl_RowsOf_51) K_impl_RowsOf_51 (s_impl_RowsOf_51 p0 p1 i34_0 i17_0 x46_1 x17_1 l17_1 i51_0 l51_1) Q := by
  obtain ⟨h51_0, hm⟩ | ⟨h51_0, hm⟩ := split_ite hm
  · skip
    obtain ⟨x51_1, h51_1, hm⟩ := bind_some hm
    obtain ⟨x51_2, h51_2, hm⟩ := bind_some hm
    refine go_on (u' := .c c_impl_RowsOf_51) (K' := K_impl_RowsOf_51) (st' := s_impl_RowsOf_51 p0 p1 i34_0 i17_0 x46_1 x17_1 l17_1 (w64 (i51_0 + 1)) (l51_1.set (0 + Int.toNat (w64 (x51_1 + i51_0))) true)) [.bit true, .row ((rI .i64) x51_1), .rows (List.map rB (l51_1.set (0 + Int.toNat (w64 (x51_1 + i51_0))) true)), .num l17_1.length, .num ((l51_1.set (0 + Int.toNat (w64 (x51_1 + i51_0))) true).length)] 1000 (And.intro h51_0 (And.intro (rd_in rfl h51_1) (And.intro (at_row (rI .i64) (rd_get0 h51_1)) (And.intro (rd_in rfl h51_2) (And.intro (put_ob rB true 0 (.lit (.bool true)) (rd_get0 h51_2) (by kernel_rfl) (by kernel_rfl)) (And.intro (lens l17_1.length l17_1.length rfl) (And.intro (lens l51_1.length ((l51_1.set (0 + Int.toNat (w64 (x51_1 + i51_0))) true).length) (set_len rfl)) True.intro))))))) ?_ (by kernel_rfl)
    exact hin ((w64 (i51_0 + 1)), (l51_1.set (0 + Int.toNat (w64 (x51_1 + i51_0))) true)) (Option.some.inj hm).symm
  · skip
    refine go_on (u' := .c c_impl_RowsOf_64) (K' := K_impl_RowsOf_64) (st' := s_impl_RowsOf_64 p0 p1 i17_0 i34_0 x17_1 l17_1 l51_1) [.bit false, .num l17_1.length, .num l51_1.length] 1000 (And.intro h51_0 (And.intro (lens l17_1.length l17_1.length rfl) (And.intro (lens l51_1.length l51_1.length rfl) True.intro))) ?_ (by kernel_rfl)
    exact hout l51_1 (Option.some.inj hm).symm

theorem ok_impl_RowsOf_46 (p0 : (List S_Cue)) (p1 : Int) (i34_0 : Int) (i17_0 : Int) (x17_1 : S_Cue) (l17_1 : (List Int)) (l34_1 : (List Bool)) (b46_0 : Bool) (y : (Int × (List Bool)) ⊕ (((List Bool)))) (hm : m_impl_RowsOf_46 p0 p1 i34_0 i17_0 x17_1 l17_1 l34_1 b46_0 = some y) (Q : VX → St → Prop)
    (hin : ∀ s, y = .inl s → EvU ext tbl (.c c_impl_RowsOf_34) K_impl_RowsOf_34 (s_impl_RowsOf_34 p0 p1 i17_0 x17_1 l17_1 s.1 s.2) Q) (hout : ∀ e, y = .inr e → O_impl_RowsOf_34 p0 p1 i17_0 x17_1 l17_1 Q e) : EvU ext tbl (.c c_impl_RowsOf_46) K_impl_RowsOf_46 (s_impl_RowsOf_46 p0 p1 i34_0 i17_0 x17_1 l17_1 l34_1 b46_0) Q := by
  obtain ⟨h46_0, hm⟩ | ⟨h46_0, hm⟩ := split_ite hm
  · skip
    obtain ⟨x46_1, h46_1, hm⟩ := bind_some hm
    refine go_on (u' := .c c_impl_RowsOf_51) (K' := K_impl_RowsOf_51) (st' := s_impl_RowsOf_51 p0 p1 i34_0 i17_0 x46_1 x17_1 l17_1 0 l34_1) [.bit true, .row (rS_Cue x46_1), .num x46_1.lines.length, .num l17_1.length, .num l34_1.length] 1000 (And.intro h46_0 (And.intro (rd_nn h46_1) (And.intro (at_row rS_Cue (rd_get h46_1)) (And.intro (len_map rS (show x46_1.lines.length = x46_1.lines.length from rfl)) (And.intro (lens l17_1.length l17_1.length rfl) (And.intro (lens l34_1.length l34_1.length rfl) True.intro)))))) ?_ (by kernel_rfl)
    obtain ⟨e, he, hm⟩ := bind_some hm
    refine loop_rule (u := .c c_impl_RowsOf_51) (K := K_impl_RowsOf_51) (Q := Q) (b := lp_impl_RowsOf_51 p0 p1 i34_0 i17_0 x46_1 x17_1 l17_1) (We := O_impl_RowsOf_51 p0 p1 i17_0 i34_0 x17_1 l17_1 Q) (stJ := fun s => s_impl_RowsOf_51 p0 p1 i34_0 i17_0 x46_1 x17_1 l17_1 s.1 s.2) (s := (0, l34_1)) (fun s y hb hin hout => ok_impl_RowsOf_51 p0 p1 i34_0 i17_0 x46_1 x17_1 l17_1 s.1 s.2 y hb Q hin hout) he ?_
    show EvU ext tbl (.c c_impl_RowsOf_64) K_impl_RowsOf_64 (s_impl_RowsOf_64 p0 p1 i17_0 i34_0 x17_1 l17_1 e) _
    exact ok_impl_RowsOf_64 p0 p1 i17_0 i34_0 x17_1 l17_1 e y hm Q hin hout
  · skip
    refine go_on (u' := .c c_impl_RowsOf_64) (K' := K_impl_RowsOf_64) (st' := s_impl_RowsOf_64 p0 p1 i17_0 i34_0 x17_1 l17_1 l34_1) [.bit false, .num l17_1.length, .num l34_1.length] 1000 (And.intro h46_0 (And.intro (lens l17_1.length l17_1.length rfl) (And.intro (lens l34_1.length l34_1.length rfl) True.intro))) ?_ (by kernel_rfl)
    exact ok_impl_RowsOf_64 p0 p1 i17_0 i34_0 x17_1 l17_1 l34_1 y hm Q hin hout

theorem ok_impl_RowsOf_99 (p0 : (List S_Cue)) (p1 : Int) (i72_0 : Int) (i72_1 : Int) (i17_0 : Int) (x17_1 : S_Cue) (l17_1 : (List Int)) (l65_0 : (List Bool)) (b99_0 : Bool) (y : (Int × Int) ⊕ ((Int))) (hm : m_impl_RowsOf_99 p0 p1 i72_0 i72_1 i17_0 x17_1 l17_1 l65_0 b99_0 = some y) (Q : VX → St → Prop)
    (hin : ∀ s, y = .inl s → EvU ext tbl (.c c_impl_RowsOf_72) K_impl_RowsOf_72 (s_impl_RowsOf_72 p0 p1 i17_0 x17_1 l17_1 l65_0 s.1 s.2) Q) (hout : ∀ e, y = .inr e → O_impl_RowsOf_72 p0 p1 i17_0 l17_1 Q e) : EvU ext tbl (.c c_impl_RowsOf_99) K_impl_RowsOf_99 (s_impl_RowsOf_99 p0 p1 i72_0 i72_1 i17_0 x17_1 l17_1 l65_0 b99_0) Q := by
  obtain ⟨h99_0, hm⟩ | ⟨h99_0, hm⟩ := split_ite hm
  · skip
    refine go_on (u' := .c c_impl_RowsOf_72) (K' := K_impl_RowsOf_72) (st' := s_impl_RowsOf_72 p0 p1 i17_0 x17_1 l17_1 l65_0 i72_1 (w64 (i72_1 + 1))) [.bit true, .num l17_1.length, .num l65_0.length] 1000 (And.intro h99_0 (And.intro (lens l17_1.length l17_1.length rfl) (And.intro (lens l65_0.length l65_0.length rfl) True.intro))) ?_ (by kernel_rfl)
    exact hin (i72_1, (w64 (i72_1 + 1))) (Option.some.inj hm).symm
  · skip
    refine go_on (u' := .c c_impl_RowsOf_72) (K' := K_impl_RowsOf_72) (st' := s_impl_RowsOf_72 p0 p1 i17_0 x17_1 l17_1 l65_0 i72_0 (w64 (i72_1 + 1))) [.bit false, .num l17_1.length, .num l65_0.length] 1000 (And.intro h99_0 (And.intro (lens l17_1.length l17_1.length rfl) (And.intro (lens l65_0.length l65_0.length rfl) True.intro))) ?_ (by kernel_rfl)
    exact hin (i72_0, (w64 (i72_1 + 1))) (Option.some.inj hm).symm

theorem ok_impl_RowsOf_87 (p0 : (List S_Cue)) (p1 : Int) (i72_0 : Int) (i72_1 : Int) (i17_0 : Int) (x17_1 : S_Cue) (l17_1 : (List Int)) (l65_0 : (List Bool)) (b87_0 : Bool) (i87_1 : Int) (y : (Bool × Int) ⊕ ((Bool))) (hm : m_impl_RowsOf_87 p0 p1 i72_0 i72_1 i17_0 x17_1 l17_1 l65_0 b87_0 i87_1 = some y) (Q : VX → St → Prop)
    (hin : ∀ s, y = .inl s → EvU ext tbl (.c c_impl_RowsOf_87) K_impl_RowsOf_87 (s_impl_RowsOf_87 p0 p1 i72_0 i72_1 i17_0 x17_1 l17_1 l65_0 s.1 s.2) Q) (hout : ∀ e, y = .inr e → O_impl_RowsOf_87 p0 p1 i72_0 i72_1 i17_0 x17_1 l17_1 l65_0 Q e) : EvU ext tbl (.c c_impl_RowsOf_87) K_impl_RowsOf_87 (s_impl_RowsOf_87 p0 p1 i72_0 i72_1 i17_0 x17_1 l17_1 l65_0 b87_0 i87_1) Q := by
  obtain ⟨h87_0, hm⟩ | ⟨h87_0, hm⟩ := split_ite hm
  · skip
    obtain ⟨h87_1, hm⟩ | ⟨h87_1, hm⟩ := split_ite hm
    · skip
      obtain ⟨x87_2, h87_2, hm⟩ := bind_some hm
      refine go_on (u' := .c c_impl_RowsOf_87) (K' := K_impl_RowsOf_87) (st' := s_impl_RowsOf_87 p0 p1 i72_0 i72_1 i17_0 x17_1 l17_1 l65_0 (!x87_2) (w64 (i87_1 + 1))) [.bit true, .bit true, .bit true, .bit true, .bit true, .bit true, .bit true, .row (rB x87_2), .bit true, .bit true, .num l17_1.length, .num l65_0.length] 1000 (And.intro h87_0 (And.intro h87_1 (And.intro h87_1 (And.intro h87_1 (And.intro h87_1 (And.intro h87_1 (And.intro (rd_in rfl h87_2) (And.intro h87_1 (And.intro (at_row rB (rd_get0 h87_2)) (And.intro h87_1 (And.intro h87_1 (And.intro (lens l17_1.length l17_1.length rfl) (And.intro (lens l65_0.length l65_0.length rfl) True.intro))))))))))))) ?_ (by kernel_rfl)
      exact hin ((!x87_2), (w64 (i87_1 + 1))) (Option.some.inj hm).symm
    · skip
      refine go_on (u' := .c c_impl_RowsOf_87) (K' := K_impl_RowsOf_87) (st' := s_impl_RowsOf_87 p0 p1 i72_0 i72_1 i17_0 x17_1 l17_1 l65_0 false (w64 (i87_1 + 1))) [.bit true, .bit false, .bit false, .bit false, .bit false, .bit false, .bit false, .bit false, .bit false, .num l17_1.length, .num l65_0.length] 1000 (And.intro h87_0 (And.intro h87_1 (And.intro h87_1 (And.intro h87_1 (And.intro h87_1 (And.intro h87_1 (And.intro h87_1 (And.intro h87_1 (And.intro h87_1 (And.intro (lens l17_1.length l17_1.length rfl) (And.intro (lens l65_0.length l65_0.length rfl) True.intro))))))))))) ?_ (by kernel_rfl)
      exact hin (false, (w64 (i87_1 + 1))) (Option.some.inj hm).symm
  · skip
    refine go_on (u' := .c c_impl_RowsOf_99) (K' := K_impl_RowsOf_99) (st' := s_impl_RowsOf_99 p0 p1 i72_0 i72_1 i17_0 x17_1 l17_1 l65_0 b87_0) [.bit false, .num l17_1.length, .num l65_0.length] 1000 (And.intro h87_0 (And.intro (lens l17_1.length l17_1.length rfl) (And.intro (lens l65_0.length l65_0.length rfl) True.intro))) ?_ (by kernel_rfl)
    exact hout b87_0 (Option.some.inj hm).symm

theorem ok_impl_RowsOf_105 (p0 : (List S_Cue)) (p1 : Int) (i17_0 : Int) (l17_1 : (List Int)) (i105_0 : Int) (y : (Int × (List Int)) ⊕ (((List Int)))) (hm : m_impl_RowsOf_105 p0 p1 i17_0 l17_1 i105_0 = some y) (Q : VX → St → Prop)
    (hin : ∀ s, y = .inl s → EvU ext tbl (.c c_impl_RowsOf_17) K_impl_RowsOf_17 (s_impl_RowsOf_17 p0 p1 s.1 s.2) Q) (hout : ∀ e, y = .inr e → O_impl_RowsOf_17 Q e) : EvU ext tbl (.c c_impl_RowsOf_105) K_impl_RowsOf_105 (s_impl_RowsOf_105 p0 p1 i17_0 l17_1 i105_0) Q := by
  obtain ⟨x105_0, h105_0, hm⟩ := bind_some hm
  refine go_on (u' := .c c_impl_RowsOf_17) (K' := K_impl_RowsOf_17) (st' := s_impl_RowsOf_17 p0 p1 (w64 (i17_0 + 1)) (l17_1 ++ ([i105_0] : List Int))) [.rows (List.map (rI .i64) ([i105_0] : List Int)), .num 1, .rows (List.map (rI .i64) (l17_1 ++ ([i105_0] : List Int))), .num ((l17_1 ++ ([i105_0] : List Int)).length), .num ((l17_1 ++ ([i105_0] : List Int)).length)] 1000 (And.intro (Eq.refl (List.map (rI .i64) ([i105_0] : List Int))) (And.intro (len_map (rI .i64) (show 1 = ([i105_0] : List Int).length from rfl)) (And.intro (all_le (rI .i64) ([i105_0] : List Int) rfl) (And.intro (app_ck (rI .i64) l17_1 ([i105_0] : List Int) rfl rfl h105_0) (And.intro (app_tell (rI .i64) l17_1 ([i105_0] : List Int) rfl rfl) (And.intro (len_map (rI .i64) (show (l17_1 ++ ([i105_0] : List Int)).length = (l17_1 ++ ([i105_0] : List Int)).length from rfl)) (And.intro (lens ((l17_1 ++ ([i105_0] : List Int)).length) ((l17_1 ++ ([i105_0] : List Int)).length) rfl) True.intro))))))) ?_ (by kernel_rfl)
  exact hin ((w64 (i17_0 + 1)), (l17_1 ++ ([i105_0] : List Int))) (Option.some.inj hm).symm

theorem ok_impl_RowsOf_72 (p0 : (List S_Cue)) (p1 : Int) (i17_0 : Int) (x17_1 : S_Cue) (l17_1 : (List Int)) (l65_0 : (List Bool)) (i72_0 : Int) (i72_1 : Int) (y : (Int × Int) ⊕ ((Int))) (hm : m_impl_RowsOf_72 p0 p1 i17_0 x17_1 l17_1 l65_0 i72_0 i72_1 = some y) (Q : VX → St → Prop)
    (hin : ∀ s, y = .inl s → EvU ext tbl (.c c_impl_RowsOf_72) K_impl_RowsOf_72 (s_impl_RowsOf_72 p0 p1 i17_0 x17_1 l17_1 l65_0 s.1 s.2) Q) (hout : ∀ e, y = .inr e → O_impl_RowsOf_72 p0 p1 i17_0 l17_1 Q e) : EvU ext tbl (.c c_impl_RowsOf_72) K_impl_RowsOf_72 (s_impl_RowsOf_72 p0 p1 i17_0 x17_1 l17_1 l65_0 i72_0 i72_1) Q := by
  obtain ⟨h72_0, hm⟩ | ⟨h72_0, hm⟩ := split_ite hm
  · skip
    obtain ⟨h72_1, hm⟩ | ⟨h72_1, hm⟩ := split_ite hm
    · skip
      refine go_on (u' := .c c_impl_RowsOf_87) (K' := K_impl_RowsOf_87) (st' := s_impl_RowsOf_87 p0 p1 i72_0 i72_1 i17_0 x17_1 l17_1 l65_0 true 0) [.num x17_1.lines.length, .bit true, .bit true, .bit true, .bit true, .num x17_1.lines.length, .num l17_1.length, .num l65_0.length] 1000 (And.intro (len_map rS (show x17_1.lines.length = x17_1.lines.length from rfl)) (And.intro h72_0 (And.intro h72_0 (And.intro h72_0 (And.intro h72_1 (And.intro (len_map rS (show x17_1.lines.length = x17_1.lines.length from rfl)) (And.intro (lens l17_1.length l17_1.length rfl) (And.intro (lens l65_0.length l65_0.length rfl) True.intro)))))))) ?_ (by kernel_rfl)
      obtain ⟨e, he, hm⟩ := bind_some hm
      refine loop_rule (u := .c c_impl_RowsOf_87) (K := K_impl_RowsOf_87) (Q := Q) (b := lp_impl_RowsOf_87 p0 p1 i72_0 i72_1 i17_0 x17_1 l17_1 l65_0) (We := O_impl_RowsOf_87 p0 p1 i72_0 i72_1 i17_0 x17_1 l17_1 l65_0 Q) (stJ := fun s => s_impl_RowsOf_87 p0 p1 i72_0 i72_1 i17_0 x17_1 l17_1 l65_0 s.1 s.2) (s := (true, 0)) (fun s y hb hin hout => ok_impl_RowsOf_87 p0 p1 i72_0 i72_1 i17_0 x17_1 l17_1 l65_0 s.1 s.2 y hb Q hin hout) he ?_
      show EvU ext tbl (.c c_impl_RowsOf_99) K_impl_RowsOf_99 (s_impl_RowsOf_99 p0 p1 i72_0 i72_1 i17_0 x17_1 l17_1 l65_0 e) _
      exact ok_impl_RowsOf_99 p0 p1 i72_0 i72_1 i17_0 x17_1 l17_1 l65_0 e y hm Q hin hout
    · skip
      refine go_on (u' := .c c_impl_RowsOf_105) (K' := K_impl_RowsOf_105) (st' := s_impl_RowsOf_105 p0 p1 i17_0 l17_1 i72_0) [.num x17_1.lines.length, .bit true, .bit true, .bit true, .bit false, .num l17_1.length] 1000 (And.intro (len_map rS (show x17_1.lines.length = x17_1.lines.length from rfl)) (And.intro h72_0 (And.intro h72_0 (And.intro h72_0 (And.intro h72_1 (And.intro (lens l17_1.length l17_1.length rfl) True.intro)))))) ?_ (by kernel_rfl)
      exact hout i72_0 (Option.some.inj hm).symm
  · skip
    refine go_on (u' := .c c_impl_RowsOf_105) (K' := K_impl_RowsOf_105) (st' := s_impl_RowsOf_105 p0 p1 i17_0 l17_1 i72_0) [.num x17_1.lines.length, .bit false, .bit false, .bit false, .bit false, .num l17_1.length] 1000 (And.intro (len_map rS (show x17_1.lines.length = x17_1.lines.length from rfl)) (And.intro h72_0 (And.intro h72_0 (And.intro h72_0 (And.intro (Eq.refl false) (And.intro (lens l17_1.length l17_1.length rfl) True.intro)))))) ?_ (by kernel_rfl)
    exact hout i72_0 (Option.some.inj hm).symm

theorem ok_impl_RowsOf_65 (p0 : (List S_Cue)) (p1 : Int) (i17_0 : Int) (x17_1 : S_Cue) (l17_1 : (List Int)) (l65_0 : (List Bool)) (y : (Int × (List Int)) ⊕ (((List Int)))) (hm : m_impl_RowsOf_65 p0 p1 i17_0 x17_1 l17_1 l65_0 = some y) (Q : VX → St → Prop)
    (hin : ∀ s, y = .inl s → EvU ext tbl (.c c_impl_RowsOf_17) K_impl_RowsOf_17 (s_impl_RowsOf_17 p0 p1 s.1 s.2) Q) (hout : ∀ e, y = .inr e → O_impl_RowsOf_17 Q e) : EvU ext tbl (.c c_impl_RowsOf_65) K_impl_RowsOf_65 (s_impl_RowsOf_65 p0 p1 i17_0 x17_1 l17_1 l65_0) Q := by
  refine go_on (u' := .c c_impl_RowsOf_72) (K' := K_impl_RowsOf_72) (st' := s_impl_RowsOf_72 p0 p1 i17_0 x17_1 l17_1 l65_0 (-1) 0) [.num l17_1.length, .num l65_0.length] 1000 (And.intro (lens l17_1.length l17_1.length rfl) (And.intro (lens l65_0.length l65_0.length rfl) True.intro)) ?_ (by kernel_rfl)
  obtain ⟨e, he, hm⟩ := bind_some hm
  refine loop_rule (u := .c c_impl_RowsOf_72) (K := K_impl_RowsOf_72) (Q := Q) (b := lp_impl_RowsOf_72 p0 p1 i17_0 x17_1 l17_1 l65_0) (We := O_impl_RowsOf_72 p0 p1 i17_0 l17_1 Q) (stJ := fun s => s_impl_RowsOf_72 p0 p1 i17_0 x17_1 l17_1 l65_0 s.1 s.2) (s := ((-1), 0)) (fun s y hb hin hout => ok_impl_RowsOf_72 p0 p1 i17_0 x17_1 l17_1 l65_0 s.1 s.2 y hb Q hin hout) he ?_
  show EvU ext tbl (.c c_impl_RowsOf_105) K_impl_RowsOf_105 (s_impl_RowsOf_105 p0 p1 i17_0 l17_1 e) _
  exact ok_impl_RowsOf_105 p0 p1 i17_0 l17_1 e y hm Q hin hout

theorem ok_impl_RowsOf_34 (p0 : (List S_Cue)) (p1 : Int) (i17_0 : Int) (x17_1 : S_Cue) (l17_1 : (List Int)) (i34_0 : Int) (l34_1 : (List Bool)) (y : (Int × (List Bool)) ⊕ (((List Bool)))) (hm : m_impl_RowsOf_34 p0 p1 i17_0 x17_1 l17_1 i34_0 l34_1 = some y) (Q : VX → St → Prop)
    (hin : ∀ s, y = .inl s → EvU ext tbl (.c c_impl_RowsOf_34) K_impl_RowsOf_34 (s_impl_RowsOf_34 p0 p1 i17_0 x17_1 l17_1 s.1 s.2) Q) (hout : ∀ e, y = .inr e → O_impl_RowsOf_34 p0 p1 i17_0 x17_1 l17_1 Q e) : EvU ext tbl (.c c_impl_RowsOf_34) K_impl_RowsOf_34 (s_impl_RowsOf_34 p0 p1 i17_0 x17_1 l17_1 i34_0 l34_1) Q := by
  obtain ⟨h34_0, hm⟩ | ⟨h34_0, hm⟩ := split_ite hm
  · skip
    obtain ⟨x34_1, h34_1, hm⟩ := bind_some hm
    obtain ⟨h34_2, hm⟩ | ⟨h34_2, hm⟩ := split_ite hm
    · skip
      obtain ⟨x34_3, h34_3, hm⟩ := bind_some hm
      obtain ⟨h34_4, hm⟩ | ⟨h34_4, hm⟩ := split_ite hm
      · skip
        refine go_on (u' := .c c_impl_RowsOf_46) (K' := K_impl_RowsOf_46) (st' := s_impl_RowsOf_46 p0 p1 i34_0 i17_0 x17_1 l17_1 l34_1 (decide (x17_1.from_ < x34_3.to_))) [.bit true, .row ((rI .i64) x34_1), .bit true, .bit true, .bit true, .row (rS_Cue x34_3), .bit true, .bit true, .bit true, .bit true, .bit true, .bit true, .bit true, .bit true, .bit true, .bit true, .bit true, .row (rS_Cue x34_3), .bit true, .bit true, .bit true, .bit true, .num l17_1.length, .num l34_1.length] 1000 (And.intro h34_0 (And.intro (rd_in rfl h34_1) (And.intro (at_row (rI .i64) (rd_get0 h34_1)) (And.intro h34_2 (And.intro h34_2 (And.intro h34_2 (And.intro (rd_nn h34_3) (And.intro (at_row rS_Cue (rd_get h34_3)) (And.intro h34_2 (And.intro h34_2 (And.intro h34_2 (And.intro h34_2 (And.intro h34_2 (And.intro h34_2 (And.intro h34_4 (And.intro h34_4 (And.intro h34_4 (And.intro h34_4 (And.intro h34_4 (And.intro (rd_nn h34_3) (And.intro (at_row rS_Cue (rd_get h34_3)) (And.intro h34_4 (And.intro h34_4 (And.intro h34_4 (And.intro h34_4 (And.intro (lens l17_1.length l17_1.length rfl) (And.intro (lens l34_1.length l34_1.length rfl) True.intro))))))))))))))))))))))))))) ?_ (by kernel_rfl)
        exact ok_impl_RowsOf_46 p0 p1 i34_0 i17_0 x17_1 l17_1 l34_1 (decide (x17_1.from_ < x34_3.to_)) y hm Q hin hout
      · skip
        refine go_on (u' := .c c_impl_RowsOf_46) (K' := K_impl_RowsOf_46) (st' := s_impl_RowsOf_46 p0 p1 i34_0 i17_0 x17_1 l17_1 l34_1 false) [.bit true, .row ((rI .i64) x34_1), .bit true, .bit true, .bit true, .row (rS_Cue x34_3), .bit true, .bit true, .bit true, .bit true, .bit true, .bit true, .bit false, .bit false, .bit false, .bit false, .bit false, .bit false, .bit false, .bit false, .bit false, .num l17_1.length, .num l34_1.length] 1000 (And.intro h34_0 (And.intro (rd_in rfl h34_1) (And.intro (at_row (rI .i64) (rd_get0 h34_1)) (And.intro h34_2 (And.intro h34_2 (And.intro h34_2 (And.intro (rd_nn h34_3) (And.intro (at_row rS_Cue (rd_get h34_3)) (And.intro h34_2 (And.intro h34_2 (And.intro h34_2 (And.intro h34_2 (And.intro h34_2 (And.intro h34_2 (And.intro h34_4 (And.intro h34_4 (And.intro h34_4 (And.intro h34_4 (And.intro h34_4 (And.intro h34_4 (And.intro h34_4 (And.intro h34_4 (And.intro h34_4 (And.intro (lens l17_1.length l17_1.length rfl) (And.intro (lens l34_1.length l34_1.length rfl) True.intro))))))))))))))))))))))))) ?_ (by kernel_rfl)
        exact ok_impl_RowsOf_46 p0 p1 i34_0 i17_0 x17_1 l17_1 l34_1 false y hm Q hin hout
    · skip
      refine go_on (u' := .c c_impl_RowsOf_46) (K' := K_impl_RowsOf_46) (st' := s_impl_RowsOf_46 p0 p1 i34_0 i17_0 x17_1 l17_1 l34_1 false) [.bit true, .row ((rI .i64) x34_1), .bit false, .bit false, .bit false, .bit false, .bit false, .bit false, .bit false, .bit false, .bit false, .bit false, .bit false, .bit false, .bit false, .bit false, .bit false, .bit false, .bit false, .bit false, .num l17_1.length, .num l34_1.length] 1000 (And.intro h34_0 (And.intro (rd_in rfl h34_1) (And.intro (at_row (rI .i64) (rd_get0 h34_1)) (And.intro h34_2 (And.intro h34_2 (And.intro h34_2 (And.intro h34_2 (And.intro h34_2 (And.intro h34_2 (And.intro h34_2 (And.intro h34_2 (And.intro h34_2 (And.intro (Eq.refl false) (And.intro (Eq.refl false) (And.intro (Eq.refl false) (And.intro (Eq.refl false) (And.intro (Eq.refl false) (And.intro (Eq.refl false) (And.intro (Eq.refl false) (And.intro (Eq.refl false) (And.intro (Eq.refl false) (And.intro (lens l17_1.length l17_1.length rfl) (And.intro (lens l34_1.length l34_1.length rfl) True.intro))))))))))))))))))))))) ?_ (by kernel_rfl)
      exact ok_impl_RowsOf_46 p0 p1 i34_0 i17_0 x17_1 l17_1 l34_1 false y hm Q hin hout
  · skip
    refine go_on (u' := .c c_impl_RowsOf_65) (K' := K_impl_RowsOf_65) (st' := s_impl_RowsOf_65 p0 p1 i17_0 x17_1 l17_1 l34_1) [.bit false, .num l17_1.length, .num l34_1.length] 1000 (And.intro h34_0 (And.intro (lens l17_1.length l17_1.length rfl) (And.intro (lens l34_1.length l34_1.length rfl) True.intro))) ?_ (by kernel_rfl)
    exact hout l34_1 (Option.some.inj hm).symm

theorem ok_impl_RowsOf_107 (l107_0 : (List Int)) (r : (List Int)) (hm : m_impl_RowsOf_107 l107_0 = some r) : EvU ext tbl (.c c_impl_RowsOf_107) K_impl_RowsOf_107 (s_impl_RowsOf_107 l107_0) (Post vf_impl_RowsOf (res_impl_RowsOf r)) := by
  exact go_end [.rows (List.map (rI .i64) l107_0)] 1000 (And.intro (all_le0 (rI .i64) l107_0 rfl) (And.intro (all_t (rI .i64) l107_0 rfl) True.intro)) (congrArg res_impl_RowsOf (Option.some.inj hm)) (by kernel_rfl)

theorem ok_impl_RowsOf_17 (p0 : (List S_Cue)) (p1 : Int) (i17_0 : Int) (l17_1 : (List Int)) (y : (Int × (List Int)) ⊕ (((List Int)))) (hm : m_impl_RowsOf_17 p0 p1 i17_0 l17_1 = some y) (Q : VX → St → Prop)
    (hin : ∀ s, y = .inl s → EvU ext tbl (.c c_impl_RowsOf_17) K_impl_RowsOf_17 (s_impl_RowsOf_17 p0 p1 s.1 s.2) Q) (hout : ∀ e, y = .inr e → O_impl_RowsOf_17 Q e) : EvU ext tbl (.c c_impl_RowsOf_17) K_impl_RowsOf_17 (s_impl_RowsOf_17 p0 p1 i17_0 l17_1) Q := by
  obtain ⟨h17_0, hm⟩ | ⟨h17_0, hm⟩ := split_ite hm
  · skip
    obtain ⟨x17_1, h17_1, hm⟩ := bind_some hm
    obtain ⟨x17_2, h17_2, hm⟩ := bind_some hm
    refine go_on (u' := .c c_impl_RowsOf_34) (K' := K_impl_RowsOf_34) (st' := s_impl_RowsOf_34 p0 p1 i17_0 x17_1 l17_1 0 (List.replicate (Int.toNat p1) (false : Bool))) [.bit true, .row (rS_Cue x17_1), .rows (List.map rB (List.replicate (Int.toNat p1) (false : Bool))), .num (Int.toNat p1), .num l17_1.length, .num ((List.replicate (Int.toNat p1) (false : Bool)).length)] 1000 (And.intro h17_0 (And.intro (rd_nn h17_1) (And.intro (at_row rS_Cue (rd_get h17_1)) (And.intro (ck_p h17_2) (And.intro (rep_ob rB (Int.toNat p1) (false : Bool) [.lit (.bool false)] (by kernel_rfl)) (And.intro (len_map rB (show (Int.toNat p1) = (List.replicate (Int.toNat p1) (false : Bool)).length from (rep_len (Int.toNat p1) (false : Bool)))) (And.intro (lens l17_1.length l17_1.length rfl) (And.intro (lens (Int.toNat p1) ((List.replicate (Int.toNat p1) (false : Bool)).length) (rep_len (Int.toNat p1) (false : Bool))) True.intro)))))))) ?_ (by kernel_rfl)
    obtain ⟨e, he, hm⟩ := bind_some hm
    refine loop_rule (u := .c c_impl_RowsOf_34) (K := K_impl_RowsOf_34) (Q := Q) (b := lp_impl_RowsOf_34 p0 p1 i17_0 x17_1 l17_1) (We := O_impl_RowsOf_34 p0 p1 i17_0 x17_1 l17_1 Q) (stJ := fun s => s_impl_RowsOf_34 p0 p1 i17_0 x17_1 l17_1 s.1 s.2) (s := (0, (List.replicate (Int.toNat p1) (false : Bool)))) (fun s y hb hin hout => ok_impl_RowsOf_34 p0 p1 i17_0 x17_1 l17_1 s.1 s.2 y hb Q hin hout) he ?_
    show EvU ext tbl (.c c_impl_RowsOf_65) K_impl_RowsOf_65 (s_impl_RowsOf_65 p0 p1 i17_0 x17_1 l17_1 e) _
    exact ok_impl_RowsOf_65 p0 p1 i17_0 x17_1 l17_1 e y hm Q hin hout
  · skip
    refine go_on (u' := .c c_impl_RowsOf_107) (K' := K_impl_RowsOf_107) (st' := s_impl_RowsOf_107 l17_1) [.bit false, .num l17_1.length] 1000 (And.intro h17_0 (And.intro (lens l17_1.length l17_1.length rfl) True.intro)) ?_ (by kernel_rfl)
    exact hout l17_1 (Option.some.inj hm).symm

theorem ok_impl_RowsOf_0 (p0 : (List S_Cue)) (p1 : Int) (r : (List Int)) (hm : m_impl_RowsOf_0 p0 p1 = some r) : EvU ext tbl (.c c_impl_RowsOf_0) K_impl_RowsOf_0 (s_impl_RowsOf_0 p0 p1) (Post vf_impl_RowsOf (res_impl_RowsOf r)) := by
  obtain ⟨x0_0, h0_0, hm⟩ := bind_some hm
  obtain ⟨h0_1, hm⟩ | ⟨h0_1, hm⟩ := split_ite hm
  · skip
    obtain ⟨h0_2, hm⟩ | ⟨h0_2, hm⟩ := split_ite hm
    · skip
      exact go_end [.res (res_impl_GoodCues x0_0), .bit false, .bit false, .bit false, .bit true, .bit true, .bit true, .bit true, .rows (List.map (rI .i64) ([] : List Int))] 1000 (And.intro (ok_impl_GoodCues p0 x0_0 h0_0) (And.intro (not_f h0_1) (And.intro (not_f h0_1) (And.intro (not_f h0_1) (And.intro h0_2 (And.intro h0_2 (And.intro h0_2 (And.intro (Eq.refl true) (And.intro (all_le0 (rI .i64) ([] : List Int) rfl) (And.intro (all_t (rI .i64) ([] : List Int) rfl) True.intro)))))))))) (congrArg res_impl_RowsOf (Option.some.inj hm)) (by kernel_rfl)
    · skip
      obtain ⟨h0_3, hm⟩ | ⟨h0_3, hm⟩ := split_ite hm
      · skip
        exact go_end [.res (res_impl_GoodCues x0_0), .bit false, .bit false, .bit false, .bit false, .bit false, .bit false, .bit true, .rows (List.map (rI .i64) ([] : List Int))] 1000 (And.intro (ok_impl_GoodCues p0 x0_0 h0_0) (And.intro (not_f h0_1) (And.intro (not_f h0_1) (And.intro (not_f h0_1) (And.intro h0_2 (And.intro h0_2 (And.intro h0_2 (And.intro h0_3 (And.intro (all_le0 (rI .i64) ([] : List Int) rfl) (And.intro (all_t (rI .i64) ([] : List Int) rfl) True.intro)))))))))) (congrArg res_impl_RowsOf (Option.some.inj hm)) (by kernel_rfl)
      · skip
        refine go_on (u' := .c c_impl_RowsOf_17) (K' := K_impl_RowsOf_17) (st' := s_impl_RowsOf_17 p0 p1 0 ([] : List Int)) [.res (res_impl_GoodCues x0_0), .bit false, .bit false, .bit false, .bit false, .bit false, .bit false, .bit false, .num p0.length, .num (([] : List Int).length)] 1000 (And.intro (ok_impl_GoodCues p0 x0_0 h0_0) (And.intro (not_f h0_1) (And.intro (not_f h0_1) (And.intro (not_f h0_1) (And.intro h0_2 (And.intro h0_2 (And.intro h0_2 (And.intro h0_3 (And.intro (len_map rS_Cue (show p0.length = p0.length from rfl)) (And.intro (lens 0 (([] : List Int).length) rfl) True.intro)))))))))) ?_ (by kernel_rfl)
        obtain ⟨e, he, hm⟩ := bind_some hm
        refine loop_rule (u := .c c_impl_RowsOf_17) (K := K_impl_RowsOf_17) (Q := (Post vf_impl_RowsOf (res_impl_RowsOf r))) (b := lp_impl_RowsOf_17 p0 p1) (We := O_impl_RowsOf_17 (Post vf_impl_RowsOf (res_impl_RowsOf r))) (stJ := fun s => s_impl_RowsOf_17 p0 p1 s.1 s.2) (s := (0, ([] : List Int))) (fun s y hb hin hout => ok_impl_RowsOf_17 p0 p1 s.1 s.2 y hb (Post vf_impl_RowsOf (res_impl_RowsOf r)) hin hout) he ?_
        show EvU ext tbl (.c c_impl_RowsOf_107) K_impl_RowsOf_107 (s_impl_RowsOf_107 e) _
        exact ok_impl_RowsOf_107 e r hm
  · skip
    exact go_end [.res (res_impl_GoodCues x0_0), .bit true, .bit true, .bit true, .bit true, .bit true, .bit true, .bit true, .rows (List.map (rI .i64) ([] : List Int))] 1000 (And.intro (ok_impl_GoodCues p0 x0_0 h0_0) (And.intro (not_t h0_1) (And.intro (not_t h0_1) (And.intro (not_t h0_1) (And.intro (Eq.refl true) (And.intro (Eq.refl true) (And.intro (Eq.refl true) (And.intro (Eq.refl true) (And.intro (all_le0 (rI .i64) ([] : List Int) rfl) (And.intro (all_t (rI .i64) ([] : List Int) rfl) True.intro)))))))))) (congrArg res_impl_RowsOf (Option.some.inj hm)) (by kernel_rfl)

theorem ok_impl_RowsOf (p0 : (List S_Cue)) (p1 : Int) (r : (List Int)) (hm : m_impl_RowsOf p0 p1 = some r) : Runs ext tbl 9 (as_impl_RowsOf p0 p1) (res_impl_RowsOf r) :=
  runs_of (vf := vf_impl_RowsOf) (by kernel_rfl) rfl (st := (enter vf_impl_RowsOf (as_impl_RowsOf p0 p1)).getD default) (by kernel_rfl) (go_on [] 1000 True.intro (ok_impl_RowsOf_0 p0 p1 r hm) (by kernel_rfl))
def O_laws_eqIntS_15 (Q : VX → St → Prop) (e : (Bool) ⊕ ((Unit))) : Prop := match e with | .inl e => Q = Post vf_laws_eqIntS (res_laws_eqIntS e) | .inr e => EvU ext tbl (.c c_laws_eqIntS_31) K_laws_eqIntS_31 (s_laws_eqIntS_31) Q
theorem ok_laws_eqIntS_31 (r : Bool) (hm : m_laws_eqIntS_31 = some r) : EvU ext tbl (.c c_laws_eqIntS_31) K_laws_eqIntS_31 (s_laws_eqIntS_31) (Post vf_laws_eqIntS (res_laws_eqIntS r)) := by
  exact go_end [] 1000 True.intro (congrArg res_laws_eqIntS (Option.some.inj hm)) (by kernel_rfl)

theorem ok_laws_eqIntS_15 (p0 : (List Int)) (p1 : (List Int)) (i15_0 : Int) (y : (Int) ⊕ ((Bool) ⊕ ((Unit)))) (hm : m_laws_eqIntS_15 p0 p1 i15_0 = some y) (Q : VX → St → Prop)
    (hin : ∀ s, y = .inl s → EvU ext tbl (.c c_laws_eqIntS_15) K_laws_eqIntS_15 (s_laws_eqIntS_15 p0 p1 s) Q) (hout : ∀ e, y = .inr e → O_laws_eqIntS_15 Q e) : EvU ext tbl (.c c_laws_eqIntS_15) K_laws_eqIntS_15 (s_laws_eqIntS_15 p0 p1 i15_0) Q := by
  obtain ⟨h15_0, hm⟩ | ⟨h15_0, hm⟩ := split_ite hm
  · skip
    obtain ⟨x15_1, h15_1, hm⟩ := bind_some hm
    obtain ⟨x15_2, h15_2, hm⟩ := bind_some hm
    obtain ⟨h15_3, hm⟩ | ⟨h15_3, hm⟩ := split_ite hm
    · skip
      have hQ : Q = Post vf_laws_eqIntS (res_laws_eqIntS false) := hout (.inl false) (Option.some.inj hm).symm
      subst hQ
      exact go_end [.num p0.length, .bit true, .row ((rI .i64) x15_1), .row ((rI .i64) x15_2), .bit true] 1000 (And.intro (len_map (rI .i64) (show p0.length = p0.length from rfl)) (And.intro h15_0 (And.intro (rd_nn h15_1) (And.intro (at_row (rI .i64) (rd_get h15_1)) (And.intro (rd_nn h15_2) (And.intro (at_row (rI .i64) (rd_get h15_2)) (And.intro h15_3 True.intro))))))) (rfl : res_laws_eqIntS false = res_laws_eqIntS false) (by kernel_rfl)
    · skip
      refine go_on (u' := .c c_laws_eqIntS_15) (K' := K_laws_eqIntS_15) (st' := s_laws_eqIntS_15 p0 p1 (w64 (i15_0 + 1))) [.num p0.length, .bit true, .row ((rI .i64) x15_1), .row ((rI .i64) x15_2), .bit false] 1000 (And.intro (len_map (rI .i64) (show p0.length = p0.length from rfl)) (And.intro h15_0 (And.intro (rd_nn h15_1) (And.intro (at_row (rI .i64) (rd_get h15_1)) (And.intro (rd_nn h15_2) (And.intro (at_row (rI .i64) (rd_get h15_2)) (And.intro h15_3 True.intro))))))) ?_ (by kernel_rfl)
      exact hin (w64 (i15_0 + 1)) (Option.some.inj hm).symm
  · skip
    refine go_on (u' := .c c_laws_eqIntS_31) (K' := K_laws_eqIntS_31) (st' := s_laws_eqIntS_31) [.num p0.length, .bit false] 1000 (And.intro (len_map (rI .i64) (show p0.length = p0.length from rfl)) (And.intro h15_0 True.intro)) ?_ (by kernel_rfl)
    exact hout (.inr ()) (Option.some.inj hm).symm

theorem ok_laws_eqIntS_0 (p0 : (List Int)) (p1 : (List Int)) (r : Bool) (hm : m_laws_eqIntS_0 p0 p1 = some r) : EvU ext tbl (.c c_laws_eqIntS_0) K_laws_eqIntS_0 (s_laws_eqIntS_0 p0 p1) (Post vf_laws_eqIntS (res_laws_eqIntS r)) := by
  obtain ⟨h0_0, hm⟩ | ⟨h0_0, hm⟩ := split_ite hm
  · skip
    exact go_end [.num p0.length, .num p1.length, .bit true] 1000 (And.intro (len_map (rI .i64) (show p0.length = p0.length from rfl)) (And.intro (len_map (rI .i64) (show p1.length = p1.length from rfl)) (And.intro h0_0 True.intro))) (congrArg res_laws_eqIntS (Option.some.inj hm)) (by kernel_rfl)
  · skip
    refine go_on (u' := .c c_laws_eqIntS_15) (K' := K_laws_eqIntS_15) (st' := s_laws_eqIntS_15 p0 p1 0) [.num p0.length, .num p1.length, .bit false] 1000 (And.intro (len_map (rI .i64) (show p0.length = p0.length from rfl)) (And.intro (len_map (rI .i64) (show p1.length = p1.length from rfl)) (And.intro h0_0 True.intro))) ?_ (by kernel_rfl)
    obtain ⟨e, he, hm⟩ := bind_some hm
    refine loop_rule (u := .c c_laws_eqIntS_15) (K := K_laws_eqIntS_15) (Q := (Post vf_laws_eqIntS (res_laws_eqIntS r))) (b := lp_laws_eqIntS_15 p0 p1) (We := O_laws_eqIntS_15 (Post vf_laws_eqIntS (res_laws_eqIntS r))) (stJ := fun s => s_laws_eqIntS_15 p0 p1 s) (s := 0) (fun s y hb hin hout => ok_laws_eqIntS_15 p0 p1 s y hb (Post vf_laws_eqIntS (res_laws_eqIntS r)) hin hout) he ?_
    rcases e with e | e
    · skip
      exact congrArg (fun r => Post vf_laws_eqIntS (res_laws_eqIntS r)) (Option.some.inj hm).symm
    · skip
      show EvU ext tbl (.c c_laws_eqIntS_31) K_laws_eqIntS_31 (s_laws_eqIntS_31) _
      exact ok_laws_eqIntS_31 r hm

theorem ok_laws_eqIntS (p0 : (List Int)) (p1 : (List Int)) (r : Bool) (hm : m_laws_eqIntS p0 p1 = some r) : Runs ext tbl 16 (as_laws_eqIntS p0 p1) (res_laws_eqIntS r) :=
  runs_of (vf := vf_laws_eqIntS) (by kernel_rfl) rfl (st := (enter vf_laws_eqIntS (as_laws_eqIntS p0 p1)).getD default) (by kernel_rfl) (go_on [] 1000 True.intro (ok_laws_eqIntS_0 p0 p1 r hm) (by kernel_rfl))
def O_laws_eqStringS_15 (Q : VX → St → Prop) (e : (Bool) ⊕ ((Unit))) : Prop := match e with | .inl e => Q = Post vf_laws_eqStringS (res_laws_eqStringS e) | .inr e => EvU ext tbl (.c c_laws_eqStringS_31) K_laws_eqStringS_31 (s_laws_eqStringS_31) Q
theorem ok_laws_eqStringS_31 (r : Bool) (hm : m_laws_eqStringS_31 = some r) : EvU ext tbl (.c c_laws_eqStringS_31) K_laws_eqStringS_31 (s_laws_eqStringS_31) (Post vf_laws_eqStringS (res_laws_eqStringS r)) := by
  exact go_end [] 1000 True.intro (congrArg res_laws_eqStringS (Option.some.inj hm)) (by kernel_rfl)

theorem ok_laws_eqStringS_15 (p0 : (List ByteArray)) (p1 : (List ByteArray)) (i15_0 : Int) (y : (Int) ⊕ ((Bool) ⊕ ((Unit)))) (hm : m_laws_eqStringS_15 p0 p1 i15_0 = some y) (Q : VX → St → Prop)
    (hin : ∀ s, y = .inl s → EvU ext tbl (.c c_laws_eqStringS_15) K_laws_eqStringS_15 (s_laws_eqStringS_15 p0 p1 s) Q) (hout : ∀ e, y = .inr e → O_laws_eqStringS_15 Q e) : EvU ext tbl (.c c_laws_eqStringS_15) K_laws_eqStringS_15 (s_laws_eqStringS_15 p0 p1 i15_0) Q := by
  obtain ⟨h15_0, hm⟩ | ⟨h15_0, hm⟩ := split_ite hm
  · skip
    obtain ⟨x15_1, h15_1, hm⟩ := bind_some hm
    obtain ⟨x15_2, h15_2, hm⟩ := bind_some hm
    obtain ⟨h15_3, hm⟩ | ⟨h15_3, hm⟩ := split_ite hm
    · skip
      refine go_on (u' := .c c_laws_eqStringS_15) (K' := K_laws_eqStringS_15) (st' := s_laws_eqStringS_15 p0 p1 (w64 (i15_0 + 1))) [.num p0.length, .bit true, .row (rS x15_1), .row (rS x15_2), .bit false] 1000 (And.intro (len_map rS (show p0.length = p0.length from rfl)) (And.intro h15_0 (And.intro (rd_nn h15_1) (And.intro (at_row rS (rd_get h15_1)) (And.intro (rd_nn h15_2) (And.intro (at_row rS (rd_get h15_2)) (And.intro (not_f h15_3) True.intro))))))) ?_ (by kernel_rfl)
      exact hin (w64 (i15_0 + 1)) (Option.some.inj hm).symm
    · skip
      have hQ : Q = Post vf_laws_eqStringS (res_laws_eqStringS false) := hout (.inl false) (Option.some.inj hm).symm
      subst hQ
      exact go_end [.num p0.length, .bit true, .row (rS x15_1), .row (rS x15_2), .bit true] 1000 (And.intro (len_map rS (show p0.length = p0.length from rfl)) (And.intro h15_0 (And.intro (rd_nn h15_1) (And.intro (at_row rS (rd_get h15_1)) (And.intro (rd_nn h15_2) (And.intro (at_row rS (rd_get h15_2)) (And.intro (not_t h15_3) True.intro))))))) (rfl : res_laws_eqStringS false = res_laws_eqStringS false) (by kernel_rfl)
  · skip
    refine go_on (u' := .c c_laws_eqStringS_31) (K' := K_laws_eqStringS_31) (st' := s_laws_eqStringS_31) [.num p0.length, .bit false] 1000 (And.intro (len_map rS (show p0.length = p0.length from rfl)) (And.intro h15_0 True.intro)) ?_ (by kernel_rfl)
    exact hout (.inr ()) (Option.some.inj hm).symm

theorem ok_laws_eqStringS_0 (p0 : (List ByteArray)) (p1 : (List ByteArray)) (r : Bool) (hm : m_laws_eqStringS_0 p0 p1 = some r) : EvU ext tbl (.c c_laws_eqStringS_0) K_laws_eqStringS_0 (s_laws_eqStringS_0 p0 p1) (Post vf_laws_eqStringS (res_laws_eqStringS r)) := by
  obtain ⟨h0_0, hm⟩ | ⟨h0_0, hm⟩ := split_ite hm
  · skip
    exact go_end [.num p0.length, .num p1.length, .bit true] 1000 (And.intro (len_map rS (show p0.length = p0.length from rfl)) (And.intro (len_map rS (show p1.length = p1.length from rfl)) (And.intro h0_0 True.intro))) (congrArg res_laws_eqStringS (Option.some.inj hm)) (by kernel_rfl)
  · skip
    refine go_on (u' := .c c_laws_eqStringS_15) (K' := K_laws_eqStringS_15) (st' := s_laws_eqStringS_15 p0 p1 0) [.num p0.length, .num p1.length, .bit false] 1000 (And.intro (len_map rS (show p0.length = p0.length from rfl)) (And.intro (len_map rS (show p1.length = p1.length from rfl)) (And.intro h0_0 True.intro))) ?_ (by kernel_rfl)
    obtain ⟨e, he, hm⟩ := bind_some hm
    refine loop_rule (u := .c c_laws_eqStringS_15) (K := K_laws_eqStringS_15) (Q := (Post vf_laws_eqStringS (res_laws_eqStringS r))) (b := lp_laws_eqStringS_15 p0 p1) (We := O_laws_eqStringS_15 (Post vf_laws_eqStringS (res_laws_eqStringS r))) (stJ := fun s => s_laws_eqStringS_15 p0 p1 s) (s := 0) (fun s y hb hin hout => ok_laws_eqStringS_15 p0 p1 s y hb (Post vf_laws_eqStringS (res_laws_eqStringS r)) hin hout) he ?_
    rcases e with e | e
    · skip
      exact congrArg (fun r => Post vf_laws_eqStringS (res_laws_eqStringS r)) (Option.some.inj hm).symm
    · skip
      show EvU ext tbl (.c c_laws_eqStringS_31) K_laws_eqStringS_31 (s_laws_eqStringS_31) _
      exact ok_laws_eqStringS_31 r hm

theorem ok_laws_eqStringS (p0 : (List ByteArray)) (p1 : (List ByteArray)) (r : Bool) (hm : m_laws_eqStringS p0 p1 = some r) : Runs ext tbl 47 (as_laws_eqStringS p0 p1) (res_laws_eqStringS r) :=
  runs_of (vf := vf_laws_eqStringS) (by kernel_rfl) rfl (st := (enter vf_laws_eqStringS (as_laws_eqStringS p0 p1)).getD default) (by kernel_rfl) (go_on [] 1000 True.intro (ok_laws_eqStringS_0 p0 p1 r hm) (by kernel_rfl))
theorem ok_laws_eqCue_0 (p0 : S_Cue) (p1 : S_Cue) (r : Bool) (hm : m_laws_eqCue_0 p0 p1 = some r) : EvU ext tbl (.c c_laws_eqCue_0) K_laws_eqCue_0 (s_laws_eqCue_0 p0 p1) (Post vf_laws_eqCue (res_laws_eqCue r)) := by
  obtain ⟨h0_0, hm⟩ | ⟨h0_0, hm⟩ := split_ite hm
  · skip
    exact go_end [.bit true] 1000 (And.intro h0_0 True.intro) (congrArg res_laws_eqCue (Option.some.inj hm)) (by kernel_rfl)
  · skip
    obtain ⟨h0_1, hm⟩ | ⟨h0_1, hm⟩ := split_ite hm
    · skip
      exact go_end [.bit false, .bit true] 1000 (And.intro h0_0 (And.intro h0_1 True.intro)) (congrArg res_laws_eqCue (Option.some.inj hm)) (by kernel_rfl)
    · skip
      obtain ⟨x0_2, h0_2, hm⟩ := bind_some hm
      obtain ⟨h0_3, hm⟩ | ⟨h0_3, hm⟩ := split_ite hm
      · skip
        exact go_end [.bit false, .bit false, .res (res_laws_eqStringS x0_2), .bit false] 1000 (And.intro h0_0 (And.intro h0_1 (And.intro (ok_laws_eqStringS p0.lines p1.lines x0_2 h0_2) (And.intro (not_f h0_3) True.intro)))) (congrArg res_laws_eqCue (Option.some.inj hm)) (by kernel_rfl)
      · skip
        exact go_end [.bit false, .bit false, .res (res_laws_eqStringS x0_2), .bit true] 1000 (And.intro h0_0 (And.intro h0_1 (And.intro (ok_laws_eqStringS p0.lines p1.lines x0_2 h0_2) (And.intro (not_t h0_3) True.intro)))) (congrArg res_laws_eqCue (Option.some.inj hm)) (by kernel_rfl)

theorem ok_laws_eqCue (p0 : S_Cue) (p1 : S_Cue) (r : Bool) (hm : m_laws_eqCue p0 p1 = some r) : Runs ext tbl 36 (as_laws_eqCue p0 p1) (res_laws_eqCue r) :=
  runs_of (vf := vf_laws_eqCue) (by kernel_rfl) rfl (st := (enter vf_laws_eqCue (as_laws_eqCue p0 p1)).getD default) (by kernel_rfl) (go_on [] 1000 True.intro (ok_laws_eqCue_0 p0 p1 r hm) (by kernel_rfl))
def O_laws_eqCueS_15 (Q : VX → St → Prop) (e : (Bool) ⊕ ((Unit))) : Prop := match e with | .inl e => Q = Post vf_laws_eqCueS (res_laws_eqCueS e) | .inr e => EvU ext tbl (.c c_laws_eqCueS_31) K_laws_eqCueS_31 (s_laws_eqCueS_31) Q
theorem ok_laws_eqCueS_31 (r : Bool) (hm : m_laws_eqCueS_31 = some r) : EvU ext tbl (.c c_laws_eqCueS_31) K_laws_eqCueS_31 (s_laws_eqCueS_31) (Post vf_laws_eqCueS (res_laws_eqCueS r)) := by
  exact go_end [] 1000 True.intro (congrArg res_laws_eqCueS (Option.some.inj hm)) (by kernel_rfl)

theorem ok_laws_eqCueS_15 (p0 : (List S_Cue)) (p1 : (List S_Cue)) (i15_0 : Int) (y : (Int) ⊕ ((Bool) ⊕ ((Unit)))) (hm : m_laws_eqCueS_15 p0 p1 i15_0 = some y) (Q : VX → St → Prop)
    (hin : ∀ s, y = .inl s → EvU ext tbl (.c c_laws_eqCueS_15) K_laws_eqCueS_15 (s_laws_eqCueS_15 p0 p1 s) Q) (hout : ∀ e, y = .inr e → O_laws_eqCueS_15 Q e) : EvU ext tbl (.c c_laws_eqCueS_15) K_laws_eqCueS_15 (s_laws_eqCueS_15 p0 p1 i15_0) Q := by
  obtain ⟨h15_0, hm⟩ | ⟨h15_0, hm⟩ := split_ite hm
  · skip
    obtain ⟨x15_1, h15_1, hm⟩ := bind_some hm
    obtain ⟨x15_2, h15_2, hm⟩ := bind_some hm
    obtain ⟨x15_3, h15_3, hm⟩ := bind_some hm
    obtain ⟨h15_4, hm⟩ | ⟨h15_4, hm⟩ := split_ite hm
    · skip
      refine go_on (u' := .c c_laws_eqCueS_15) (K' := K_laws_eqCueS_15) (st' := s_laws_eqCueS_15 p0 p1 (w64 (i15_0 + 1))) [.num p0.length, .bit true, .row (rS_Cue x15_1), .row (rS_Cue x15_2), .res (res_laws_eqCue x15_3), .bit false] 1000 (And.intro (len_map rS_Cue (show p0.length = p0.length from rfl)) (And.intro h15_0 (And.intro (rd_nn h15_1) (And.intro (at_row rS_Cue (rd_get h15_1)) (And.intro (rd_nn h15_2) (And.intro (at_row rS_Cue (rd_get h15_2)) (And.intro (ok_laws_eqCue x15_1 x15_2 x15_3 h15_3) (And.intro (not_f h15_4) True.intro)))))))) ?_ (by kernel_rfl)
      exact hin (w64 (i15_0 + 1)) (Option.some.inj hm).symm
    · skip
      have hQ : Q = Post vf_laws_eqCueS (res_laws_eqCueS false) := hout (.inl false) (Option.some.inj hm).symm
      subst hQ
      exact go_end [.num p0.length, .bit true, .row (rS_Cue x15_1), .row (rS_Cue x15_2), .res (res_laws_eqCue x15_3), .bit true] 1000 (And.intro (len_map rS_Cue (show p0.length = p0.length from rfl)) (And.intro h15_0 (And.intro (rd_nn h15_1) (And.intro (at_row rS_Cue (rd_get h15_1)) (And.intro (rd_nn h15_2) (And.intro (at_row rS_Cue (rd_get h15_2)) (And.intro (ok_laws_eqCue x15_1 x15_2 x15_3 h15_3) (And.intro (not_t h15_4) True.intro)))))))) (rfl : res_laws_eqCueS false = res_laws_eqCueS false) (by kernel_rfl)
  · skip
    refine go_on (u' := .c c_laws_eqCueS_31) (K' := K_laws_eqCueS_31) (st' := s_laws_eqCueS_31) [.num p0.length, .bit false] 1000 (And.intro (len_map rS_Cue (show p0.length = p0.length from rfl)) (And.intro h15_0 True.intro)) ?_ (by kernel_rfl)
    exact hout (.inr ()) (Option.some.inj hm).symm

end Go.Proofs.V

/- printed by a program: the plain functions, the code and the proofs of one law -/
set_option linter.unusedVariables false
set_option maxRecDepth 100000
namespace Go.Proofs.V
open Go
theorem ok_laws_eqCueS_0 (p0 : (List S_Cue)) (p1 : (List S_Cue)) (r : Bool) (hm : m_laws_eqCueS_0 p0 p1 = some r) : EvU ext tbl (.c c_laws_eqCueS_0) K_laws_eqCueS_0 (s_laws_eqCueS_0 p0 p1) (Post vf_laws_eqCueS (res_laws_eqCueS r)) := by
  obtain ⟨h0_0, hm⟩ | ⟨h0_0, hm⟩ := split_ite hm
  · skip
    exact go_end [.num p0.length, .num p1.length, .bit true] 1000 (And.intro (len_map rS_Cue (show p0.length = p0.length from rfl)) (And.intro (len_map rS_Cue (show p1.length = p1.length from rfl)) (And.intro h0_0 True.intro))) (congrArg res_laws_eqCueS (Option.some.inj hm)) (by kernel_rfl)
  · skip
    refine go_on (u' := .c c_laws_eqCueS_15) (K' := K_laws_eqCueS_15) (st' := s_laws_eqCueS_15 p0 p1 0) [.num p0.length, .num p1.length, .bit false] 1000 (And.intro (len_map rS_Cue (show p0.length = p0.length from rfl)) (And.intro (len_map rS_Cue (show p1.length = p1.length from rfl)) (And.intro h0_0 True.intro))) ?_ (by kernel_rfl)
    obtain ⟨e, he, hm⟩ := bind_some hm
    refine loop_rule (u := .c c_laws_eqCueS_15) (K := K_laws_eqCueS_15) (Q := (Post vf_laws_eqCueS (res_laws_eqCueS r))) (b := lp_laws_eqCueS_15 p0 p1) (We := O_laws_eqCueS_15 (Post vf_laws_eqCueS (res_laws_eqCueS r))) (stJ := fun s => s_laws_eqCueS_15 p0 p1 s) (s := 0) (fun s y hb hin hout => ok_laws_eqCueS_15 p0 p1 s y hb (Post vf_laws_eqCueS (res_laws_eqCueS r)) hin hout) he ?_
    rcases e with e | e
    · skip
      exact congrArg (fun r => Post vf_laws_eqCueS (res_laws_eqCueS r)) (Option.some.inj hm).symm
    · skip
      show EvU ext tbl (.c c_laws_eqCueS_31) K_laws_eqCueS_31 (s_laws_eqCueS_31) _
      exact ok_laws_eqCueS_31 r hm

theorem ok_laws_eqCueS (p0 : (List S_Cue)) (p1 : (List S_Cue)) (r : Bool) (hm : m_laws_eqCueS p0 p1 = some r) : Runs ext tbl 17 (as_laws_eqCueS p0 p1) (res_laws_eqCueS r) :=
  runs_of (vf := vf_laws_eqCueS) (by kernel_rfl) rfl (st := (enter vf_laws_eqCueS (as_laws_eqCueS p0 p1)).getD default) (by kernel_rfl) (go_on [] 1000 True.intro (ok_laws_eqCueS_0 p0 p1 r hm) (by kernel_rfl))
def O_laws_markText_15 (Q : VX → St → Prop) (e : (ByteArray)) : Prop := EvU ext tbl (.c c_laws_markText_25) K_laws_markText_25 (s_laws_markText_25 e) Q
theorem ok_laws_markText_25 (l25_0 : ByteArray) (r : ByteArray) (hm : m_laws_markText_25 l25_0 = some r) : EvU ext tbl (.c c_laws_markText_25) K_laws_markText_25 (s_laws_markText_25 l25_0) (Post vf_laws_markText (res_laws_markText r)) := by
  obtain ⟨x25_0, h25_0, hm⟩ := bind_some hm
  exact go_end [] 1000 (And.intro (ck_p h25_0) True.intro) (congrArg res_laws_markText (Option.some.inj hm)) (by kernel_rfl)

theorem ok_laws_markText_15 (i15_0 : Int) (l15_1 : ByteArray) (y : (Int × ByteArray) ⊕ ((ByteArray))) (hm : m_laws_markText_15 i15_0 l15_1 = some y) (Q : VX → St → Prop)
    (hin : ∀ s, y = .inl s → EvU ext tbl (.c c_laws_markText_15) K_laws_markText_15 (s_laws_markText_15 s.1 s.2) Q) (hout : ∀ e, y = .inr e → O_laws_markText_15 Q e) : EvU ext tbl (.c c_laws_markText_15) K_laws_markText_15 (s_laws_markText_15 i15_0 l15_1) Q := by
  obtain ⟨h15_0, hm⟩ | ⟨h15_0, hm⟩ := split_ite hm
  · skip
    obtain ⟨x15_1, h15_1, hm⟩ := bind_some hm
    obtain ⟨x15_2, h15_2, hm⟩ := bind_some hm
    refine go_on (u' := .c c_laws_markText_15) (K' := K_laws_markText_15) (st' := s_laws_markText_15 (w64 (Int.tdiv i15_0 10)) (x15_1 ++ l15_1)) [.bit true, .rows (List.map (rI .u8) ([(wr .u8 (w64 (48 + (Int.tmod i15_0 10))))] : List Int)), .num 1, .rows (List.map (rI .u8) ([(wr .u8 (w64 (48 + (Int.tmod i15_0 10))))] : List Int)), .str x15_1] 1000 (And.intro h15_0 (And.intro (by decide : (10 : Int) ≠ 0) (And.intro (Eq.refl (List.map (rI .u8) ([(wr .u8 (w64 (48 + (Int.tmod i15_0 10))))] : List Int))) (And.intro (len_map (rI .u8) (show 1 = ([(wr .u8 (w64 (48 + (Int.tmod i15_0 10))))] : List Int).length from rfl)) (And.intro (all_le (rI .u8) ([(wr .u8 (w64 (48 + (Int.tmod i15_0 10))))] : List Int) rfl) (And.intro (all_dt (rI .u8) ([(wr .u8 (w64 (48 + (Int.tmod i15_0 10))))] : List Int) rfl) (And.intro (bstr_t h15_1) (And.intro (ck_p h15_2) (And.intro (by decide : (10 : Int) ≠ 0) True.intro))))))))) ?_ (by kernel_rfl)
    exact hin ((w64 (Int.tdiv i15_0 10)), (x15_1 ++ l15_1)) (Option.some.inj hm).symm
  · skip
    refine go_on (u' := .c c_laws_markText_25) (K' := K_laws_markText_25) (st' := s_laws_markText_25 l15_1) [.bit false] 1000 (And.intro h15_0 True.intro) ?_ (by kernel_rfl)
    exact hout l15_1 (Option.some.inj hm).symm

theorem ok_laws_markText_0 (p0 : Int) (r : ByteArray) (hm : m_laws_markText_0 p0 = some r) : EvU ext tbl (.c c_laws_markText_0) K_laws_markText_0 (s_laws_markText_0 p0) (Post vf_laws_markText (res_laws_markText r)) := by
  obtain ⟨h0_0, hm⟩ | ⟨h0_0, hm⟩ := split_ite hm
  · skip
    exact go_end [.bit true] 1000 (And.intro h0_0 True.intro) (congrArg res_laws_markText (Option.some.inj hm)) (by kernel_rfl)
  · skip
    refine go_on (u' := .c c_laws_markText_15) (K' := K_laws_markText_15) (st' := s_laws_markText_15 p0 (ByteArray.mk #[])) [.bit false] 1000 (And.intro h0_0 True.intro) ?_ (by kernel_rfl)
    obtain ⟨e, he, hm⟩ := bind_some hm
    refine loop_rule (u := .c c_laws_markText_15) (K := K_laws_markText_15) (Q := (Post vf_laws_markText (res_laws_markText r))) (b := lp_laws_markText_15) (We := O_laws_markText_15 (Post vf_laws_markText (res_laws_markText r))) (stJ := fun s => s_laws_markText_15 s.1 s.2) (s := (p0, (ByteArray.mk #[]))) (fun s y hb hin hout => ok_laws_markText_15 s.1 s.2 y hb (Post vf_laws_markText (res_laws_markText r)) hin hout) he ?_
    show EvU ext tbl (.c c_laws_markText_25) K_laws_markText_25 (s_laws_markText_25 e) _
    exact ok_laws_markText_25 e r hm

theorem ok_laws_markText (p0 : Int) (r : ByteArray) (hm : m_laws_markText p0 = some r) : Runs ext tbl 48 (as_laws_markText p0) (res_laws_markText r) :=
  runs_of (vf := vf_laws_markText) (by kernel_rfl) rfl (st := (enter vf_laws_markText (as_laws_markText p0)).getD default) (by kernel_rfl) (go_on [] 1000 True.intro (ok_laws_markText_0 p0 r hm) (by kernel_rfl))
def O_laws_markStringS_7 (Q : VX → St → Prop) (e : (Int × (List ByteArray))) : Prop := EvU ext tbl (.c c_laws_markStringS_19) K_laws_markStringS_19 (s_laws_markStringS_19 e.1 e.2) Q
theorem ok_laws_markStringS_19 (i19_0 : Int) (l19_1 : (List ByteArray)) (r : Int × (List ByteArray)) (hm : m_laws_markStringS_19 i19_0 l19_1 = some r) : EvU ext tbl (.c c_laws_markStringS_19) K_laws_markStringS_19 (s_laws_markStringS_19 i19_0 l19_1) (Post vf_laws_markStringS (res_laws_markStringS r)) := by
  exact go_end [] 1000 True.intro (congrArg res_laws_markStringS (Option.some.inj hm)) (by kernel_rfl)

theorem ok_laws_markStringS_7 (i7_0 : Int) (i7_1 : Int) (l7_2 : (List ByteArray)) (y : (Int × Int × (List ByteArray)) ⊕ ((Int × (List ByteArray)))) (hm : m_laws_markStringS_7 i7_0 i7_1 l7_2 = some y) (Q : VX → St → Prop)
    (hin : ∀ s, y = .inl s → EvU ext tbl (.c c_laws_markStringS_7) K_laws_markStringS_7 (s_laws_markStringS_7 s.1 s.2.1 s.2.2) Q) (hout : ∀ e, y = .inr e → O_laws_markStringS_7 Q e) : EvU ext tbl (.c c_laws_markStringS_7) K_laws_markStringS_7 (s_laws_markStringS_7 i7_0 i7_1 l7_2) Q := by
  obtain ⟨h7_0, hm⟩ | ⟨h7_0, hm⟩ := split_ite hm
  · skip
    obtain ⟨x7_1, h7_1, hm⟩ := bind_some hm
    obtain ⟨x7_2, h7_2, hm⟩ := bind_some hm
    refine go_on (u' := .c c_laws_markStringS_7) (K' := K_laws_markStringS_7) (st' := s_laws_markStringS_7 (w64 (i7_0 + 1)) (w64 (i7_1 + 1)) (l7_2.set (0 + Int.toNat i7_1) x7_1)) [.bit true, .res (res_laws_markText x7_1), .rows (List.map rS (l7_2.set (0 + Int.toNat i7_1) x7_1)), .num ((l7_2.set (0 + Int.toNat i7_1) x7_1).length)] 1000 (And.intro h7_0 (And.intro (ok_laws_markText i7_0 x7_1 h7_1) (And.intro (rd_in rfl h7_2) (And.intro (put_ob rS x7_1 0 (.lit (.string x7_1)) (rd_get0 h7_2) (by kernel_rfl) (by kernel_rfl)) (And.intro (lens l7_2.length ((l7_2.set (0 + Int.toNat i7_1) x7_1).length) (set_len rfl)) True.intro))))) ?_ (by kernel_rfl)
    exact hin ((w64 (i7_0 + 1)), (w64 (i7_1 + 1)), (l7_2.set (0 + Int.toNat i7_1) x7_1)) (Option.some.inj hm).symm
  · skip
    refine go_on (u' := .c c_laws_markStringS_19) (K' := K_laws_markStringS_19) (st' := s_laws_markStringS_19 i7_0 l7_2) [.bit false, .num l7_2.length] 1000 (And.intro h7_0 (And.intro (lens l7_2.length l7_2.length rfl) True.intro)) ?_ (by kernel_rfl)
    exact hout (i7_0, l7_2) (Option.some.inj hm).symm

theorem ok_laws_markStringS_0 (p1 : Int) (p0 : (List ByteArray)) (r : Int × (List ByteArray)) (hm : m_laws_markStringS_0 p1 p0 = some r) : EvU ext tbl (.c c_laws_markStringS_0) K_laws_markStringS_0 (s_laws_markStringS_0 p1 p0) (Post vf_laws_markStringS (res_laws_markStringS r)) := by
  refine go_on (u' := .c c_laws_markStringS_7) (K' := K_laws_markStringS_7) (st' := s_laws_markStringS_7 p1 0 p0) [.num p0.length] 1000 (And.intro (lens p0.length p0.length rfl) True.intro) ?_ (by kernel_rfl)
  obtain ⟨e, he, hm⟩ := bind_some hm
  refine loop_rule (u := .c c_laws_markStringS_7) (K := K_laws_markStringS_7) (Q := (Post vf_laws_markStringS (res_laws_markStringS r))) (b := lp_laws_markStringS_7) (We := O_laws_markStringS_7 (Post vf_laws_markStringS (res_laws_markStringS r))) (stJ := fun s => s_laws_markStringS_7 s.1 s.2.1 s.2.2) (s := (p1, 0, p0)) (fun s y hb hin hout => ok_laws_markStringS_7 s.1 s.2.1 s.2.2 y hb (Post vf_laws_markStringS (res_laws_markStringS r)) hin hout) he ?_
  show EvU ext tbl (.c c_laws_markStringS_19) K_laws_markStringS_19 (s_laws_markStringS_19 e.1 e.2) _
  exact ok_laws_markStringS_19 e.1 e.2 r hm

theorem ok_laws_markStringS (p0 : (List ByteArray)) (p1 : Int) (r : Int × (List ByteArray)) (hm : m_laws_markStringS p0 p1 = some r) : Runs ext tbl 37 (as_laws_markStringS p0 p1) (res_laws_markStringS r) :=
  runs_of (vf := vf_laws_markStringS) (by kernel_rfl) rfl (st := (enter vf_laws_markStringS (as_laws_markStringS p0 p1)).getD default) (by kernel_rfl) (go_on [.num p0.length] 1000 (And.intro (len_map rS (rfl : p0.length = p0.length)) True.intro) (ok_laws_markStringS_0 p1 p0 r hm) (by kernel_rfl))
def O_laws_markCueS_7 (Q : VX → St → Prop) (e : (Int × (List S_Cue))) : Prop := EvU ext tbl (.c c_laws_markCueS_25) K_laws_markCueS_25 (s_laws_markCueS_25 e.1 e.2) Q
theorem ok_laws_markCueS_25 (i25_0 : Int) (l25_1 : (List S_Cue)) (r : Int × (List S_Cue)) (hm : m_laws_markCueS_25 i25_0 l25_1 = some r) : EvU ext tbl (.c c_laws_markCueS_25) K_laws_markCueS_25 (s_laws_markCueS_25 i25_0 l25_1) (Post vf_laws_markCueS (res_laws_markCueS r)) := by
  exact go_end [] 1000 True.intro (congrArg res_laws_markCueS (Option.some.inj hm)) (by kernel_rfl)

theorem ok_laws_markCueS_7 (i7_0 : Int) (i7_1 : Int) (l7_2 : (List S_Cue)) (y : (Int × Int × (List S_Cue)) ⊕ ((Int × (List S_Cue)))) (hm : m_laws_markCueS_7 i7_0 i7_1 l7_2 = some y) (Q : VX → St → Prop)
    (hin : ∀ s, y = .inl s → EvU ext tbl (.c c_laws_markCueS_7) K_laws_markCueS_7 (s_laws_markCueS_7 s.1 s.2.1 s.2.2) Q) (hout : ∀ e, y = .inr e → O_laws_markCueS_7 Q e) : EvU ext tbl (.c c_laws_markCueS_7) K_laws_markCueS_7 (s_laws_markCueS_7 i7_0 i7_1 l7_2) Q := by
  obtain ⟨h7_0, hm⟩ | ⟨h7_0, hm⟩ := split_ite hm
  · skip
    obtain ⟨x7_1, h7_1, hm⟩ := bind_some hm
    obtain ⟨x7_2, h7_2, hm⟩ := bind_some hm
    obtain ⟨x7_3, h7_3, hm⟩ := bind_some hm
    refine go_on (u' := .c c_laws_markCueS_7) (K' := K_laws_markCueS_7) (st' := s_laws_markCueS_7 x7_2.1 (w64 (i7_1 + 1)) (l7_2.set (0 + Int.toNat i7_1) (S_Cue.mk i7_0 (w64 (i7_0 + 1)) x7_2.2))) [.bit true, .rows (List.map rS_Cue (l7_2.set (0 + Int.toNat i7_1) (S_Cue.mk i7_0 x7_1.to_ x7_1.lines))), .rows (List.map rS_Cue (l7_2.set (0 + Int.toNat i7_1) (S_Cue.mk i7_0 (w64 (i7_0 + 1)) x7_1.lines))), .row (rS_Cue (S_Cue.mk i7_0 (w64 (i7_0 + 1)) x7_1.lines)), .num x7_1.lines.length, .row (rS_Cue (S_Cue.mk i7_0 (w64 (i7_0 + 1)) x7_1.lines)), .res (res_laws_markStringS x7_2), .row (rS_Cue (S_Cue.mk i7_0 (w64 (i7_0 + 1)) x7_1.lines)), .row (rS_Cue (S_Cue.mk i7_0 (w64 (i7_0 + 1)) x7_1.lines)), .rows (List.map rS_Cue (l7_2.set (0 + Int.toNat i7_1) (S_Cue.mk i7_0 (w64 (i7_0 + 1)) x7_2.2))), .num ((l7_2.set (0 + Int.toNat i7_1) (S_Cue.mk i7_0 (w64 (i7_0 + 1)) x7_2.2)).length)] 1000 (And.intro h7_0 (And.intro (rd_in rfl h7_1) (And.intro (put_ob rS_Cue (S_Cue.mk i7_0 x7_1.to_ x7_1.lines) 0 (.lit (.int .i64 i7_0)) (rd_get0 h7_1) (by kernel_rfl) (by kernel_rfl)) (And.intro (rd_in rfl h7_1) (And.intro (put_ob2 rS_Cue (S_Cue.mk i7_0 (w64 (i7_0 + 1)) x7_1.lines) 1 (.lit (.int .i64 (w64 (i7_0 + 1)))) (set_at (S_Cue.mk i7_0 x7_1.to_ x7_1.lines) (rd_get0 h7_1)) (by kernel_rfl) (by kernel_rfl)) (And.intro (rd_in rfl h7_1) (And.intro (at_row rS_Cue (set_at2 (S_Cue.mk i7_0 (w64 (i7_0 + 1)) x7_1.lines) (set_at (S_Cue.mk i7_0 x7_1.to_ x7_1.lines) (rd_get0 h7_1)))) (And.intro (len_map rS (show x7_1.lines.length = x7_1.lines.length from rfl)) (And.intro (at_row rS_Cue (set_at2 (S_Cue.mk i7_0 (w64 (i7_0 + 1)) x7_1.lines) (set_at (S_Cue.mk i7_0 x7_1.to_ x7_1.lines) (rd_get0 h7_1)))) (And.intro (all_eq rS x7_1.lines rfl) (And.intro (ok_laws_markStringS x7_1.lines (w64 ((w64 (i7_0 + 1)) + 1)) x7_2 h7_2) (And.intro (at_row rS_Cue (set_at2 (S_Cue.mk i7_0 (w64 (i7_0 + 1)) x7_1.lines) (set_at (S_Cue.mk i7_0 x7_1.to_ x7_1.lines) (rd_get0 h7_1)))) (And.intro (len2 rS x7_2.2 x7_1.lines (ck_p h7_3)) (And.intro (at_row rS_Cue (set_at2 (S_Cue.mk i7_0 (w64 (i7_0 + 1)) x7_1.lines) (set_at (S_Cue.mk i7_0 x7_1.to_ x7_1.lines) (rd_get0 h7_1)))) (And.intro (upd_ob2 rS_Cue l7_2 (0 + Int.toNat i7_1) (S_Cue.mk i7_0 (w64 (i7_0 + 1)) x7_1.lines) (S_Cue.mk i7_0 (w64 (i7_0 + 1)) x7_1.lines) (S_Cue.mk i7_0 (w64 (i7_0 + 1)) x7_2.2) 2 (.sl (x7_2.2.map rS)) (by kernel_rfl)) (And.intro (lens l7_2.length ((l7_2.set (0 + Int.toNat i7_1) (S_Cue.mk i7_0 (w64 (i7_0 + 1)) x7_2.2)).length) (set_len rfl)) True.intro)))))))))))))))) ?_ (by kernel_rfl)
    exact hin (x7_2.1, (w64 (i7_1 + 1)), (l7_2.set (0 + Int.toNat i7_1) (S_Cue.mk i7_0 (w64 (i7_0 + 1)) x7_2.2))) (Option.some.inj hm).symm
  · skip
    refine go_on (u' := .c c_laws_markCueS_25) (K' := K_laws_markCueS_25) (st' := s_laws_markCueS_25 i7_0 l7_2) [.bit false, .num l7_2.length] 1000 (And.intro h7_0 (And.intro (lens l7_2.length l7_2.length rfl) True.intro)) ?_ (by kernel_rfl)
    exact hout (i7_0, l7_2) (Option.some.inj hm).symm

theorem ok_laws_markCueS_0 (p1 : Int) (p0 : (List S_Cue)) (r : Int × (List S_Cue)) (hm : m_laws_markCueS_0 p1 p0 = some r) : EvU ext tbl (.c c_laws_markCueS_0) K_laws_markCueS_0 (s_laws_markCueS_0 p1 p0) (Post vf_laws_markCueS (res_laws_markCueS r)) := by
  refine go_on (u' := .c c_laws_markCueS_7) (K' := K_laws_markCueS_7) (st' := s_laws_markCueS_7 p1 0 p0) [.num p0.length] 1000 (And.intro (lens p0.length p0.length rfl) True.intro) ?_ (by kernel_rfl)
  obtain ⟨e, he, hm⟩ := bind_some hm
  refine loop_rule (u := .c c_laws_markCueS_7) (K := K_laws_markCueS_7) (Q := (Post vf_laws_markCueS (res_laws_markCueS r))) (b := lp_laws_markCueS_7) (We := O_laws_markCueS_7 (Post vf_laws_markCueS (res_laws_markCueS r))) (stJ := fun s => s_laws_markCueS_7 s.1 s.2.1 s.2.2) (s := (p1, 0, p0)) (fun s y hb hin hout => ok_laws_markCueS_7 s.1 s.2.1 s.2.2 y hb (Post vf_laws_markCueS (res_laws_markCueS r)) hin hout) he ?_
  show EvU ext tbl (.c c_laws_markCueS_25) K_laws_markCueS_25 (s_laws_markCueS_25 e.1 e.2) _
  exact ok_laws_markCueS_25 e.1 e.2 r hm

theorem ok_laws_markCueS (p0 : (List S_Cue)) (p1 : Int) (r : Int × (List S_Cue)) (hm : m_laws_markCueS p0 p1 = some r) : Runs ext tbl 18 (as_laws_markCueS p0 p1) (res_laws_markCueS r) :=
  runs_of (vf := vf_laws_markCueS) (by kernel_rfl) rfl (st := (enter vf_laws_markCueS (as_laws_markCueS p0 p1)).getD default) (by kernel_rfl) (go_on [.num p0.length] 1000 (And.intro (len_map rS_Cue (rfl : p0.length = p0.length)) True.intro) (ok_laws_markCueS_0 p1 p0 r hm) (by kernel_rfl))
def O_laws_markIntS_7 (Q : VX → St → Prop) (e : (Int × (List Int))) : Prop := EvU ext tbl (.c c_laws_markIntS_19) K_laws_markIntS_19 (s_laws_markIntS_19 e.1 e.2) Q
theorem ok_laws_markIntS_19 (i19_0 : Int) (l19_1 : (List Int)) (r : Int × (List Int)) (hm : m_laws_markIntS_19 i19_0 l19_1 = some r) : EvU ext tbl (.c c_laws_markIntS_19) K_laws_markIntS_19 (s_laws_markIntS_19 i19_0 l19_1) (Post vf_laws_markIntS (res_laws_markIntS r)) := by
  exact go_end [] 1000 True.intro (congrArg res_laws_markIntS (Option.some.inj hm)) (by kernel_rfl)

theorem ok_laws_markIntS_7 (i7_0 : Int) (i7_1 : Int) (l7_2 : (List Int)) (y : (Int × Int × (List Int)) ⊕ ((Int × (List Int)))) (hm : m_laws_markIntS_7 i7_0 i7_1 l7_2 = some y) (Q : VX → St → Prop)
    (hin : ∀ s, y = .inl s → EvU ext tbl (.c c_laws_markIntS_7) K_laws_markIntS_7 (s_laws_markIntS_7 s.1 s.2.1 s.2.2) Q) (hout : ∀ e, y = .inr e → O_laws_markIntS_7 Q e) : EvU ext tbl (.c c_laws_markIntS_7) K_laws_markIntS_7 (s_laws_markIntS_7 i7_0 i7_1 l7_2) Q := by
  obtain ⟨h7_0, hm⟩ | ⟨h7_0, hm⟩ := split_ite hm
  · skip
    obtain ⟨x7_1, h7_1, hm⟩ := bind_some hm
    refine go_on (u' := .c c_laws_markIntS_7) (K' := K_laws_markIntS_7) (st' := s_laws_markIntS_7 (w64 (i7_0 + 1)) (w64 (i7_1 + 1)) (l7_2.set (0 + Int.toNat i7_1) i7_0)) [.bit true, .rows (List.map (rI .i64) (l7_2.set (0 + Int.toNat i7_1) i7_0)), .num ((l7_2.set (0 + Int.toNat i7_1) i7_0).length)] 1000 (And.intro h7_0 (And.intro (rd_in rfl h7_1) (And.intro (put_ob (rI .i64) i7_0 0 (.lit (.int .i64 i7_0)) (rd_get0 h7_1) (by kernel_rfl) (by kernel_rfl)) (And.intro (lens l7_2.length ((l7_2.set (0 + Int.toNat i7_1) i7_0).length) (set_len rfl)) True.intro)))) ?_ (by kernel_rfl)
    exact hin ((w64 (i7_0 + 1)), (w64 (i7_1 + 1)), (l7_2.set (0 + Int.toNat i7_1) i7_0)) (Option.some.inj hm).symm
  · skip
    refine go_on (u' := .c c_laws_markIntS_19) (K' := K_laws_markIntS_19) (st' := s_laws_markIntS_19 i7_0 l7_2) [.bit false, .num l7_2.length] 1000 (And.intro h7_0 (And.intro (lens l7_2.length l7_2.length rfl) True.intro)) ?_ (by kernel_rfl)
    exact hout (i7_0, l7_2) (Option.some.inj hm).symm

theorem ok_laws_markIntS_0 (p1 : Int) (p0 : (List Int)) (r : Int × (List Int)) (hm : m_laws_markIntS_0 p1 p0 = some r) : EvU ext tbl (.c c_laws_markIntS_0) K_laws_markIntS_0 (s_laws_markIntS_0 p1 p0) (Post vf_laws_markIntS (res_laws_markIntS r)) := by
  refine go_on (u' := .c c_laws_markIntS_7) (K' := K_laws_markIntS_7) (st' := s_laws_markIntS_7 p1 0 p0) [.num p0.length] 1000 (And.intro (lens p0.length p0.length rfl) True.intro) ?_ (by kernel_rfl)
  obtain ⟨e, he, hm⟩ := bind_some hm
  refine loop_rule (u := .c c_laws_markIntS_7) (K := K_laws_markIntS_7) (Q := (Post vf_laws_markIntS (res_laws_markIntS r))) (b := lp_laws_markIntS_7) (We := O_laws_markIntS_7 (Post vf_laws_markIntS (res_laws_markIntS r))) (stJ := fun s => s_laws_markIntS_7 s.1 s.2.1 s.2.2) (s := (p1, 0, p0)) (fun s y hb hin hout => ok_laws_markIntS_7 s.1 s.2.1 s.2.2 y hb (Post vf_laws_markIntS (res_laws_markIntS r)) hin hout) he ?_
  show EvU ext tbl (.c c_laws_markIntS_19) K_laws_markIntS_19 (s_laws_markIntS_19 e.1 e.2) _
  exact ok_laws_markIntS_19 e.1 e.2 r hm

theorem ok_laws_markIntS (p0 : (List Int)) (p1 : Int) (r : Int × (List Int)) (hm : m_laws_markIntS p0 p1 = some r) : Runs ext tbl 19 (as_laws_markIntS p0 p1) (res_laws_markIntS r) :=
  runs_of (vf := vf_laws_markIntS) (by kernel_rfl) rfl (st := (enter vf_laws_markIntS (as_laws_markIntS p0 p1)).getD default) (by kernel_rfl) (go_on [.num p0.length] 1000 (And.intro (len_map (rI .i64) (rfl : p0.length = p0.length)) True.intro) (ok_laws_markIntS_0 p1 p0 r hm) (by kernel_rfl))
def O_laws_heldIntS_7 (Q : VX → St → Prop) (e : (Int) ⊕ ((Int))) : Prop := match e with | .inl e => Q = Post vf_laws_heldIntS (res_laws_heldIntS e) | .inr e => EvU ext tbl (.c c_laws_heldIntS_25) K_laws_heldIntS_25 (s_laws_heldIntS_25 e) Q
theorem ok_laws_heldIntS_25 (i25_0 : Int) (r : Int) (hm : m_laws_heldIntS_25 i25_0 = some r) : EvU ext tbl (.c c_laws_heldIntS_25) K_laws_heldIntS_25 (s_laws_heldIntS_25 i25_0) (Post vf_laws_heldIntS (res_laws_heldIntS r)) := by
  exact go_end [] 1000 True.intro (congrArg res_laws_heldIntS (Option.some.inj hm)) (by kernel_rfl)

theorem ok_laws_heldIntS_7 (p0 : (List Int)) (i7_0 : Int) (i7_1 : Int) (y : (Int × Int) ⊕ ((Int) ⊕ ((Int)))) (hm : m_laws_heldIntS_7 p0 i7_0 i7_1 = some y) (Q : VX → St → Prop)
    (hin : ∀ s, y = .inl s → EvU ext tbl (.c c_laws_heldIntS_7) K_laws_heldIntS_7 (s_laws_heldIntS_7 p0 s.1 s.2) Q) (hout : ∀ e, y = .inr e → O_laws_heldIntS_7 Q e) : EvU ext tbl (.c c_laws_heldIntS_7) K_laws_heldIntS_7 (s_laws_heldIntS_7 p0 i7_0 i7_1) Q := by
  obtain ⟨h7_0, hm⟩ | ⟨h7_0, hm⟩ := split_ite hm
  · skip
    obtain ⟨x7_1, h7_1, hm⟩ := bind_some hm
    obtain ⟨h7_2, hm⟩ | ⟨h7_2, hm⟩ := split_ite hm
    · skip
      have hQ : Q = Post vf_laws_heldIntS (res_laws_heldIntS (-1)) := hout (.inl (-1)) (Option.some.inj hm).symm
      subst hQ
      exact go_end [.num p0.length, .bit true, .row ((rI .i64) x7_1), .bit true] 1000 (And.intro (len_map (rI .i64) (show p0.length = p0.length from rfl)) (And.intro h7_0 (And.intro (rd_nn h7_1) (And.intro (at_row (rI .i64) (rd_get h7_1)) (And.intro h7_2 True.intro))))) (rfl : res_laws_heldIntS (-1) = res_laws_heldIntS (-1)) (by kernel_rfl)
    · skip
      refine go_on (u' := .c c_laws_heldIntS_7) (K' := K_laws_heldIntS_7) (st' := s_laws_heldIntS_7 p0 (w64 (i7_0 + 1)) (w64 (i7_1 + 1))) [.num p0.length, .bit true, .row ((rI .i64) x7_1), .bit false] 1000 (And.intro (len_map (rI .i64) (show p0.length = p0.length from rfl)) (And.intro h7_0 (And.intro (rd_nn h7_1) (And.intro (at_row (rI .i64) (rd_get h7_1)) (And.intro h7_2 True.intro))))) ?_ (by kernel_rfl)
      exact hin ((w64 (i7_0 + 1)), (w64 (i7_1 + 1))) (Option.some.inj hm).symm
  · skip
    refine go_on (u' := .c c_laws_heldIntS_25) (K' := K_laws_heldIntS_25) (st' := s_laws_heldIntS_25 i7_0) [.num p0.length, .bit false] 1000 (And.intro (len_map (rI .i64) (show p0.length = p0.length from rfl)) (And.intro h7_0 True.intro)) ?_ (by kernel_rfl)
    exact hout (.inr i7_0) (Option.some.inj hm).symm

theorem ok_laws_heldIntS_0 (p0 : (List Int)) (p1 : Int) (r : Int) (hm : m_laws_heldIntS_0 p0 p1 = some r) : EvU ext tbl (.c c_laws_heldIntS_0) K_laws_heldIntS_0 (s_laws_heldIntS_0 p0 p1) (Post vf_laws_heldIntS (res_laws_heldIntS r)) := by
  refine go_on (u' := .c c_laws_heldIntS_7) (K' := K_laws_heldIntS_7) (st' := s_laws_heldIntS_7 p0 p1 0) [] 1000 True.intro ?_ (by kernel_rfl)
  obtain ⟨e, he, hm⟩ := bind_some hm
  refine loop_rule (u := .c c_laws_heldIntS_7) (K := K_laws_heldIntS_7) (Q := (Post vf_laws_heldIntS (res_laws_heldIntS r))) (b := lp_laws_heldIntS_7 p0) (We := O_laws_heldIntS_7 (Post vf_laws_heldIntS (res_laws_heldIntS r))) (stJ := fun s => s_laws_heldIntS_7 p0 s.1 s.2) (s := (p1, 0)) (fun s y hb hin hout => ok_laws_heldIntS_7 p0 s.1 s.2 y hb (Post vf_laws_heldIntS (res_laws_heldIntS r)) hin hout) he ?_
  rcases e with e | e
  · skip
    exact congrArg (fun r => Post vf_laws_heldIntS (res_laws_heldIntS r)) (Option.some.inj hm).symm
  · skip
    show EvU ext tbl (.c c_laws_heldIntS_25) K_laws_heldIntS_25 (s_laws_heldIntS_25 e) _
    exact ok_laws_heldIntS_25 e r hm

theorem ok_laws_heldIntS (p0 : (List Int)) (p1 : Int) (r : Int) (hm : m_laws_heldIntS p0 p1 = some r) : Runs ext tbl 20 (as_laws_heldIntS p0 p1) (res_laws_heldIntS r) :=
  runs_of (vf := vf_laws_heldIntS) (by kernel_rfl) rfl (st := (enter vf_laws_heldIntS (as_laws_heldIntS p0 p1)).getD default) (by kernel_rfl) (go_on [] 1000 True.intro (ok_laws_heldIntS_0 p0 p1 r hm) (by kernel_rfl))
theorem ok_laws_FnExactRowsOf_0 (p0 : (List S_Cue)) (p1 : Int) (r : Bool) (hm : m_laws_FnExactRowsOf_0 p0 p1 = some r) : EvU ext tbl (.c c_laws_FnExactRowsOf_0) K_laws_FnExactRowsOf_0 (s_laws_FnExactRowsOf_0 p0 p1) (Post vf_laws_FnExactRowsOf (res_laws_FnExactRowsOf r)) := by
  obtain ⟨x0_0, h0_0, hm⟩ := bind_some hm
  obtain ⟨h0_1, hm⟩ | ⟨h0_1, hm⟩ := split_ite hm
  · skip
    exact go_end [.res (res_laws_szCueS x0_0), .bit true] 1000 (And.intro (ok_laws_szCueS p0 1048576 x0_0 h0_0) (And.intro h0_1 True.intro)) (congrArg res_laws_FnExactRowsOf (Option.some.inj hm)) (by kernel_rfl)
  · skip
    obtain ⟨x0_2, h0_2, hm⟩ := bind_some hm
    obtain ⟨x0_3, h0_3, hm⟩ := bind_some hm
    obtain ⟨x0_4, h0_4, hm⟩ := bind_some hm
    obtain ⟨x0_5, h0_5, hm⟩ := bind_some hm
    obtain ⟨h0_6, hm⟩ | ⟨h0_6, hm⟩ := split_ite hm
    · skip
      obtain ⟨x0_7, h0_7, hm⟩ := bind_some hm
      obtain ⟨h0_8, hm⟩ | ⟨h0_8, hm⟩ := split_ite hm
      · skip
        obtain ⟨x0_9, h0_9, hm⟩ := bind_some hm
        obtain ⟨x0_10, h0_10, hm⟩ := bind_some hm
        obtain ⟨h0_11, hm⟩ | ⟨h0_11, hm⟩ := split_ite hm
        · skip
          exact go_end [.res (res_laws_szCueS x0_0), .bit false, .res (res_laws_toCueS x0_2), .num x0_2.length, .rows (List.map rS_Cue x0_2), .res (res_spec_RowsOf x0_3), .num x0_3.length, .res (res_laws_toCueS x0_2), .num x0_2.length, .rows (List.map rS_Cue x0_2), .res (res_impl_RowsOf x0_4), .num x0_4.length, .rows (List.map (rI .i64) x0_4), .rows (List.map (rI .i64) x0_3), .res (res_laws_eqIntS x0_5), .bit false, .res (res_laws_toCueS x0_2), .num x0_2.length, .rows (List.map rS_Cue x0_2), .rows (List.map rS_Cue x0_2), .res (res_laws_eqCueS x0_7), .bit false, .res (res_laws_markCueS x0_9), .bit true, .bit true, .bit true, .bit true, .bit true, .bit true] 1000 (And.intro (ok_laws_szCueS p0 1048576 x0_0 h0_0) (And.intro h0_1 (And.intro (ok_laws_toCueS p0 x0_2 h0_2) (And.intro (len_map rS_Cue (show x0_2.length = x0_2.length from rfl)) (And.intro (all_le rS_Cue x0_2 rfl) (And.intro (all_dt rS_Cue x0_2 rfl) (And.intro (ok_spec_RowsOf x0_2 p1 x0_3 h0_3) (And.intro (len_map (rI .i64) (show x0_3.length = x0_3.length from rfl)) (And.intro (ok_laws_toCueS p0 x0_2 h0_2) (And.intro (len_map rS_Cue (show x0_2.length = x0_2.length from rfl)) (And.intro (all_le rS_Cue x0_2 rfl) (And.intro (all_dt rS_Cue x0_2 rfl) (And.intro (ok_impl_RowsOf x0_2 p1 x0_4 h0_4) (And.intro (len_map (rI .i64) (show x0_4.length = x0_4.length from rfl)) (And.intro (all_le (rI .i64) x0_4 rfl) (And.intro (all_dt (rI .i64) x0_4 rfl) (And.intro (all_le (rI .i64) x0_3 rfl) (And.intro (all_dt (rI .i64) x0_3 rfl) (And.intro (ok_laws_eqIntS x0_4 x0_3 x0_5 h0_5) (And.intro (not_f h0_6) (And.intro (ok_laws_toCueS p0 x0_2 h0_2) (And.intro (len_map rS_Cue (show x0_2.length = x0_2.length from rfl)) (And.intro (all_le rS_Cue x0_2 rfl) (And.intro (all_dt rS_Cue x0_2 rfl) (And.intro (all_le rS_Cue x0_2 rfl) (And.intro (all_dt rS_Cue x0_2 rfl) (And.intro (ok_laws_eqCueS x0_2 x0_2 x0_7 h0_7) (And.intro (not_f h0_8) (And.intro (all_eq rS_Cue x0_2 rfl) (And.intro (ok_laws_markCueS x0_2 1 x0_9 h0_9) (And.intro (len2 rS_Cue x0_9.2 x0_2 (ck_p h0_10)) (And.intro h0_11 (And.intro h0_11 (And.intro h0_11 (And.intro h0_11 (And.intro h0_11 (And.intro (Eq.refl true) True.intro))))))))))))))))))))))))))))))))))))) (congrArg res_laws_FnExactRowsOf (Option.some.inj hm)) (by kernel_rfl)
        · skip
          obtain ⟨x0_12, h0_12, hm⟩ := bind_some hm
          obtain ⟨x0_13, h0_13, hm⟩ := bind_some hm
          obtain ⟨x0_14, h0_14, hm⟩ := bind_some hm
          obtain ⟨h0_15, hm⟩ | ⟨h0_15, hm⟩ := split_ite hm
          · skip
            exact go_end [.res (res_laws_szCueS x0_0), .bit false, .res (res_laws_toCueS x0_2), .num x0_2.length, .rows (List.map rS_Cue x0_2), .res (res_spec_RowsOf x0_3), .num x0_3.length, .res (res_laws_toCueS x0_2), .num x0_2.length, .rows (List.map rS_Cue x0_2), .res (res_impl_RowsOf x0_4), .num x0_4.length, .rows (List.map (rI .i64) x0_4), .rows (List.map (rI .i64) x0_3), .res (res_laws_eqIntS x0_5), .bit false, .res (res_laws_toCueS x0_2), .num x0_2.length, .rows (List.map rS_Cue x0_2), .rows (List.map rS_Cue x0_2), .res (res_laws_eqCueS x0_7), .bit false, .res (res_laws_markCueS x0_9), .bit false, .bit false, .bit false, .rows (List.map (rI .i64) x0_4), .rows (List.map (rI .i64) x0_3), .res (res_laws_eqIntS x0_5), .bit false, .bit false, .bit false, .res (res_laws_markIntS x0_12), .rows (List.map (rI .i64) x0_12.2), .res (res_laws_heldIntS x0_14), .bit true] 1000 (And.intro (ok_laws_szCueS p0 1048576 x0_0 h0_0) (And.intro h0_1 (And.intro (ok_laws_toCueS p0 x0_2 h0_2) (And.intro (len_map rS_Cue (show x0_2.length = x0_2.length from rfl)) (And.intro (all_le rS_Cue x0_2 rfl) (And.intro (all_dt rS_Cue x0_2 rfl) (And.intro (ok_spec_RowsOf x0_2 p1 x0_3 h0_3) (And.intro (len_map (rI .i64) (show x0_3.length = x0_3.length from rfl)) (And.intro (ok_laws_toCueS p0 x0_2 h0_2) (And.intro (len_map rS_Cue (show x0_2.length = x0_2.length from rfl)) (And.intro (all_le rS_Cue x0_2 rfl) (And.intro (all_dt rS_Cue x0_2 rfl) (And.intro (ok_impl_RowsOf x0_2 p1 x0_4 h0_4) (And.intro (len_map (rI .i64) (show x0_4.length = x0_4.length from rfl)) (And.intro (all_le (rI .i64) x0_4 rfl) (And.intro (all_dt (rI .i64) x0_4 rfl) (And.intro (all_le (rI .i64) x0_3 rfl) (And.intro (all_dt (rI .i64) x0_3 rfl) (And.intro (ok_laws_eqIntS x0_4 x0_3 x0_5 h0_5) (And.intro (not_f h0_6) (And.intro (ok_laws_toCueS p0 x0_2 h0_2) (And.intro (len_map rS_Cue (show x0_2.length = x0_2.length from rfl)) (And.intro (all_le rS_Cue x0_2 rfl) (And.intro (all_dt rS_Cue x0_2 rfl) (And.intro (all_le rS_Cue x0_2 rfl) (And.intro (all_dt rS_Cue x0_2 rfl) (And.intro (ok_laws_eqCueS x0_2 x0_2 x0_7 h0_7) (And.intro (not_f h0_8) (And.intro (all_eq rS_Cue x0_2 rfl) (And.intro (ok_laws_markCueS x0_2 1 x0_9 h0_9) (And.intro (len2 rS_Cue x0_9.2 x0_2 (ck_p h0_10)) (And.intro h0_11 (And.intro h0_11 (And.intro h0_11 (And.intro (all_le (rI .i64) x0_4 rfl) (And.intro (all_dt (rI .i64) x0_4 rfl) (And.intro (all_le (rI .i64) x0_3 rfl) (And.intro (all_dt (rI .i64) x0_3 rfl) (And.intro (ok_laws_eqIntS x0_4 x0_3 x0_5 h0_5) (And.intro h0_11 (And.intro h0_11 (And.intro (not_f h0_6) (And.intro (all_eq (rI .i64) x0_4 rfl) (And.intro (ok_laws_markIntS x0_4 1 x0_12 h0_12) (And.intro (len2 (rI .i64) x0_12.2 x0_4 (ck_p h0_13)) (And.intro (all_le (rI .i64) x0_12.2 (Eq.trans rfl (Eq.symm (ck_p h0_13)))) (And.intro (all_dt (rI .i64) x0_12.2 (Eq.trans rfl (Eq.symm (ck_p h0_13)))) (And.intro (ok_laws_heldIntS x0_12.2 1 x0_14 h0_14) (And.intro h0_15 True.intro))))))))))))))))))))))))))))))))))))))))))))))))) (congrArg res_laws_FnExactRowsOf (Option.some.inj hm)) (by kernel_rfl)
          · skip
            obtain ⟨h0_16, hm⟩ | ⟨h0_16, hm⟩ := split_ite hm
            · skip
              exact go_end [.res (res_laws_szCueS x0_0), .bit false, .res (res_laws_toCueS x0_2), .num x0_2.length, .rows (List.map rS_Cue x0_2), .res (res_spec_RowsOf x0_3), .num x0_3.length, .res (res_laws_toCueS x0_2), .num x0_2.length, .rows (List.map rS_Cue x0_2), .res (res_impl_RowsOf x0_4), .num x0_4.length, .rows (List.map (rI .i64) x0_4), .rows (List.map (rI .i64) x0_3), .res (res_laws_eqIntS x0_5), .bit false, .res (res_laws_toCueS x0_2), .num x0_2.length, .rows (List.map rS_Cue x0_2), .rows (List.map rS_Cue x0_2), .res (res_laws_eqCueS x0_7), .bit false, .res (res_laws_markCueS x0_9), .bit false, .bit false, .bit false, .rows (List.map (rI .i64) x0_4), .rows (List.map (rI .i64) x0_3), .res (res_laws_eqIntS x0_5), .bit false, .bit false, .bit false, .res (res_laws_markIntS x0_12), .rows (List.map (rI .i64) x0_12.2), .res (res_laws_heldIntS x0_14), .bit false, .bit true] 1000 (And.intro (ok_laws_szCueS p0 1048576 x0_0 h0_0) (And.intro h0_1 (And.intro (ok_laws_toCueS p0 x0_2 h0_2) (And.intro (len_map rS_Cue (show x0_2.length = x0_2.length from rfl)) (And.intro (all_le rS_Cue x0_2 rfl) (And.intro (all_dt rS_Cue x0_2 rfl) (And.intro (ok_spec_RowsOf x0_2 p1 x0_3 h0_3) (And.intro (len_map (rI .i64) (show x0_3.length = x0_3.length from rfl)) (And.intro (ok_laws_toCueS p0 x0_2 h0_2) (And.intro (len_map rS_Cue (show x0_2.length = x0_2.length from rfl)) (And.intro (all_le rS_Cue x0_2 rfl) (And.intro (all_dt rS_Cue x0_2 rfl) (And.intro (ok_impl_RowsOf x0_2 p1 x0_4 h0_4) (And.intro (len_map (rI .i64) (show x0_4.length = x0_4.length from rfl)) (And.intro (all_le (rI .i64) x0_4 rfl) (And.intro (all_dt (rI .i64) x0_4 rfl) (And.intro (all_le (rI .i64) x0_3 rfl) (And.intro (all_dt (rI .i64) x0_3 rfl) (And.intro (ok_laws_eqIntS x0_4 x0_3 x0_5 h0_5) (And.intro (not_f h0_6) (And.intro (ok_laws_toCueS p0 x0_2 h0_2) (And.intro (len_map rS_Cue (show x0_2.length = x0_2.length from rfl)) (And.intro (all_le rS_Cue x0_2 rfl) (And.intro (all_dt rS_Cue x0_2 rfl) (And.intro (all_le rS_Cue x0_2 rfl) (And.intro (all_dt rS_Cue x0_2 rfl) (And.intro (ok_laws_eqCueS x0_2 x0_2 x0_7 h0_7) (And.intro (not_f h0_8) (And.intro (all_eq rS_Cue x0_2 rfl) (And.intro (ok_laws_markCueS x0_2 1 x0_9 h0_9) (And.intro (len2 rS_Cue x0_9.2 x0_2 (ck_p h0_10)) (And.intro h0_11 (And.intro h0_11 (And.intro h0_11 (And.intro (all_le (rI .i64) x0_4 rfl) (And.intro (all_dt (rI .i64) x0_4 rfl) (And.intro (all_le (rI .i64) x0_3 rfl) (And.intro (all_dt (rI .i64) x0_3 rfl) (And.intro (ok_laws_eqIntS x0_4 x0_3 x0_5 h0_5) (And.intro h0_11 (And.intro h0_11 (And.intro (not_f h0_6) (And.intro (all_eq (rI .i64) x0_4 rfl) (And.intro (ok_laws_markIntS x0_4 1 x0_12 h0_12) (And.intro (len2 (rI .i64) x0_12.2 x0_4 (ck_p h0_13)) (And.intro (all_le (rI .i64) x0_12.2 (Eq.trans rfl (Eq.symm (ck_p h0_13)))) (And.intro (all_dt (rI .i64) x0_12.2 (Eq.trans rfl (Eq.symm (ck_p h0_13)))) (And.intro (ok_laws_heldIntS x0_12.2 1 x0_14 h0_14) (And.intro h0_15 (And.intro h0_16 True.intro)))))))))))))))))))))))))))))))))))))))))))))))))) (congrArg res_laws_FnExactRowsOf (Option.some.inj hm)) (by kernel_rfl)
            · skip
              exact go_end [.res (res_laws_szCueS x0_0), .bit false, .res (res_laws_toCueS x0_2), .num x0_2.length, .rows (List.map rS_Cue x0_2), .res (res_spec_RowsOf x0_3), .num x0_3.length, .res (res_laws_toCueS x0_2), .num x0_2.length, .rows (List.map rS_Cue x0_2), .res (res_impl_RowsOf x0_4), .num x0_4.length, .rows (List.map (rI .i64) x0_4), .rows (List.map (rI .i64) x0_3), .res (res_laws_eqIntS x0_5), .bit false, .res (res_laws_toCueS x0_2), .num x0_2.length, .rows (List.map rS_Cue x0_2), .rows (List.map rS_Cue x0_2), .res (res_laws_eqCueS x0_7), .bit false, .res (res_laws_markCueS x0_9), .bit false, .bit false, .bit false, .rows (List.map (rI .i64) x0_4), .rows (List.map (rI .i64) x0_3), .res (res_laws_eqIntS x0_5), .bit false, .bit false, .bit false, .res (res_laws_markIntS x0_12), .rows (List.map (rI .i64) x0_12.2), .res (res_laws_heldIntS x0_14), .bit false, .bit false, .res (res_laws_toCueS x0_2), .num x0_2.length, .rows (List.map rS_Cue x0_2), .res (res_impl_RowsOf x0_4), .num x0_4.length, .rows (List.map (rI .i64) x0_4), .rows (List.map (rI .i64) x0_3), .res (res_laws_eqIntS x0_5), .bit false, .rows (List.map (rI .i64) x0_12.2), .res (res_laws_heldIntS x0_14), .bit false, .bit false] 1000 (And.intro (ok_laws_szCueS p0 1048576 x0_0 h0_0) (And.intro h0_1 (And.intro (ok_laws_toCueS p0 x0_2 h0_2) (And.intro (len_map rS_Cue (show x0_2.length = x0_2.length from rfl)) (And.intro (all_le rS_Cue x0_2 rfl) (And.intro (all_dt rS_Cue x0_2 rfl) (And.intro (ok_spec_RowsOf x0_2 p1 x0_3 h0_3) (And.intro (len_map (rI .i64) (show x0_3.length = x0_3.length from rfl)) (And.intro (ok_laws_toCueS p0 x0_2 h0_2) (And.intro (len_map rS_Cue (show x0_2.length = x0_2.length from rfl)) (And.intro (all_le rS_Cue x0_2 rfl) (And.intro (all_dt rS_Cue x0_2 rfl) (And.intro (ok_impl_RowsOf x0_2 p1 x0_4 h0_4) (And.intro (len_map (rI .i64) (show x0_4.length = x0_4.length from rfl)) (And.intro (all_le (rI .i64) x0_4 rfl) (And.intro (all_dt (rI .i64) x0_4 rfl) (And.intro (all_le (rI .i64) x0_3 rfl) (And.intro (all_dt (rI .i64) x0_3 rfl) (And.intro (ok_laws_eqIntS x0_4 x0_3 x0_5 h0_5) (And.intro (not_f h0_6) (And.intro (ok_laws_toCueS p0 x0_2 h0_2) (And.intro (len_map rS_Cue (show x0_2.length = x0_2.length from rfl)) (And.intro (all_le rS_Cue x0_2 rfl) (And.intro (all_dt rS_Cue x0_2 rfl) (And.intro (all_le rS_Cue x0_2 rfl) (And.intro (all_dt rS_Cue x0_2 rfl) (And.intro (ok_laws_eqCueS x0_2 x0_2 x0_7 h0_7) (And.intro (not_f h0_8) (And.intro (all_eq rS_Cue x0_2 rfl) (And.intro (ok_laws_markCueS x0_2 1 x0_9 h0_9) (And.intro (len2 rS_Cue x0_9.2 x0_2 (ck_p h0_10)) (And.intro h0_11 (And.intro h0_11 (And.intro h0_11 (And.intro (all_le (rI .i64) x0_4 rfl) (And.intro (all_dt (rI .i64) x0_4 rfl) (And.intro (all_le (rI .i64) x0_3 rfl) (And.intro (all_dt (rI .i64) x0_3 rfl) (And.intro (ok_laws_eqIntS x0_4 x0_3 x0_5 h0_5) (And.intro h0_11 (And.intro h0_11 (And.intro (not_f h0_6) (And.intro (all_eq (rI .i64) x0_4 rfl) (And.intro (ok_laws_markIntS x0_4 1 x0_12 h0_12) (And.intro (len2 (rI .i64) x0_12.2 x0_4 (ck_p h0_13)) (And.intro (all_le (rI .i64) x0_12.2 (Eq.trans rfl (Eq.symm (ck_p h0_13)))) (And.intro (all_dt (rI .i64) x0_12.2 (Eq.trans rfl (Eq.symm (ck_p h0_13)))) (And.intro (ok_laws_heldIntS x0_12.2 1 x0_14 h0_14) (And.intro h0_15 (And.intro h0_16 (And.intro (ok_laws_toCueS p0 x0_2 h0_2) (And.intro (len_map rS_Cue (show x0_2.length = x0_2.length from rfl)) (And.intro (all_le rS_Cue x0_2 rfl) (And.intro (all_dt rS_Cue x0_2 rfl) (And.intro (ok_impl_RowsOf x0_2 p1 x0_4 h0_4) (And.intro (len_map (rI .i64) (show x0_4.length = x0_4.length from rfl)) (And.intro (all_le (rI .i64) x0_4 rfl) (And.intro (all_dt (rI .i64) x0_4 rfl) (And.intro (all_le (rI .i64) x0_3 rfl) (And.intro (all_dt (rI .i64) x0_3 rfl) (And.intro (ok_laws_eqIntS x0_4 x0_3 x0_5 h0_5) (And.intro (not_f h0_6) (And.intro (all_le (rI .i64) x0_12.2 (Eq.trans rfl (Eq.symm (ck_p h0_13)))) (And.intro (all_dt (rI .i64) x0_12.2 (Eq.trans rfl (Eq.symm (ck_p h0_13)))) (And.intro (ok_laws_heldIntS x0_12.2 1 x0_14 h0_14) (And.intro h0_15 (And.intro h0_16 True.intro))))))))))))))))))))))))))))))))))))))))))))))))))))))))))))))))))) (congrArg res_laws_FnExactRowsOf (Option.some.inj hm)) (by kernel_rfl)
      · skip
        exact go_end [.res (res_laws_szCueS x0_0), .bit false, .res (res_laws_toCueS x0_2), .num x0_2.length, .rows (List.map rS_Cue x0_2), .res (res_spec_RowsOf x0_3), .num x0_3.length, .res (res_laws_toCueS x0_2), .num x0_2.length, .rows (List.map rS_Cue x0_2), .res (res_impl_RowsOf x0_4), .num x0_4.length, .rows (List.map (rI .i64) x0_4), .rows (List.map (rI .i64) x0_3), .res (res_laws_eqIntS x0_5), .bit false, .res (res_laws_toCueS x0_2), .num x0_2.length, .rows (List.map rS_Cue x0_2), .rows (List.map rS_Cue x0_2), .res (res_laws_eqCueS x0_7), .bit true] 1000 (And.intro (ok_laws_szCueS p0 1048576 x0_0 h0_0) (And.intro h0_1 (And.intro (ok_laws_toCueS p0 x0_2 h0_2) (And.intro (len_map rS_Cue (show x0_2.length = x0_2.length from rfl)) (And.intro (all_le rS_Cue x0_2 rfl) (And.intro (all_dt rS_Cue x0_2 rfl) (And.intro (ok_spec_RowsOf x0_2 p1 x0_3 h0_3) (And.intro (len_map (rI .i64) (show x0_3.length = x0_3.length from rfl)) (And.intro (ok_laws_toCueS p0 x0_2 h0_2) (And.intro (len_map rS_Cue (show x0_2.length = x0_2.length from rfl)) (And.intro (all_le rS_Cue x0_2 rfl) (And.intro (all_dt rS_Cue x0_2 rfl) (And.intro (ok_impl_RowsOf x0_2 p1 x0_4 h0_4) (And.intro (len_map (rI .i64) (show x0_4.length = x0_4.length from rfl)) (And.intro (all_le (rI .i64) x0_4 rfl) (And.intro (all_dt (rI .i64) x0_4 rfl) (And.intro (all_le (rI .i64) x0_3 rfl) (And.intro (all_dt (rI .i64) x0_3 rfl) (And.intro (ok_laws_eqIntS x0_4 x0_3 x0_5 h0_5) (And.intro (not_f h0_6) (And.intro (ok_laws_toCueS p0 x0_2 h0_2) (And.intro (len_map rS_Cue (show x0_2.length = x0_2.length from rfl)) (And.intro (all_le rS_Cue x0_2 rfl) (And.intro (all_dt rS_Cue x0_2 rfl) (And.intro (all_le rS_Cue x0_2 rfl) (And.intro (all_dt rS_Cue x0_2 rfl) (And.intro (ok_laws_eqCueS x0_2 x0_2 x0_7 h0_7) (And.intro (not_t h0_8) True.intro)))))))))))))))))))))))))))) (congrArg res_laws_FnExactRowsOf (Option.some.inj hm)) (by kernel_rfl)
    · skip
      exact go_end [.res (res_laws_szCueS x0_0), .bit false, .res (res_laws_toCueS x0_2), .num x0_2.length, .rows (List.map rS_Cue x0_2), .res (res_spec_RowsOf x0_3), .num x0_3.length, .res (res_laws_toCueS x0_2), .num x0_2.length, .rows (List.map rS_Cue x0_2), .res (res_impl_RowsOf x0_4), .num x0_4.length, .rows (List.map (rI .i64) x0_4), .rows (List.map (rI .i64) x0_3), .res (res_laws_eqIntS x0_5), .bit true] 1000 (And.intro (ok_laws_szCueS p0 1048576 x0_0 h0_0) (And.intro h0_1 (And.intro (ok_laws_toCueS p0 x0_2 h0_2) (And.intro (len_map rS_Cue (show x0_2.length = x0_2.length from rfl)) (And.intro (all_le rS_Cue x0_2 rfl) (And.intro (all_dt rS_Cue x0_2 rfl) (And.intro (ok_spec_RowsOf x0_2 p1 x0_3 h0_3) (And.intro (len_map (rI .i64) (show x0_3.length = x0_3.length from rfl)) (And.intro (ok_laws_toCueS p0 x0_2 h0_2) (And.intro (len_map rS_Cue (show x0_2.length = x0_2.length from rfl)) (And.intro (all_le rS_Cue x0_2 rfl) (And.intro (all_dt rS_Cue x0_2 rfl) (And.intro (ok_impl_RowsOf x0_2 p1 x0_4 h0_4) (And.intro (len_map (rI .i64) (show x0_4.length = x0_4.length from rfl)) (And.intro (all_le (rI .i64) x0_4 rfl) (And.intro (all_dt (rI .i64) x0_4 rfl) (And.intro (all_le (rI .i64) x0_3 rfl) (And.intro (all_dt (rI .i64) x0_3 rfl) (And.intro (ok_laws_eqIntS x0_4 x0_3 x0_5 h0_5) (And.intro (not_t h0_6) True.intro)))))))))))))))))))) (congrArg res_laws_FnExactRowsOf (Option.some.inj hm)) (by kernel_rfl)

theorem ok_laws_FnExactRowsOf (p0 : (List S_Cue)) (p1 : Int) (r : Bool) (hm : m_laws_FnExactRowsOf p0 p1 = some r) : Runs ext tbl 7 (as_laws_FnExactRowsOf p0 p1) (res_laws_FnExactRowsOf r) :=
  runs_of (vf := vf_laws_FnExactRowsOf) (by kernel_rfl) rfl (st := (enter vf_laws_FnExactRowsOf (as_laws_FnExactRowsOf p0 p1)).getD default) (by kernel_rfl) (go_on [] 1000 True.intro (ok_laws_FnExactRowsOf_0 p0 p1 r hm) (by kernel_rfl))
end Go.Proofs.V

set_option linter.unusedVariables false
set_option maxRecDepth 100000
namespace Go.Proofs.V
open Go
theorem dec_S_Cue : Dec [.int .i64, .int .i64, .sl [.str]] rS_Cue wfS_Cue := by
  intro ts h
  obtain ⟨⟨a0, a1, a2, _⟩, rfl, w0, w1, w2, _⟩ := (dec_app (dec_int .i64) (dec_app (dec_int .i64) (dec_app (dec_sl dec_str) dec_nil))) ts h
  exact ⟨⟨a0, a1, a2⟩, rfl, w0, w1, w2, trivial⟩
theorem all_fi : ∀ x ∈ tblL, x.2.given = false → funcIs Go.Proofs.Try.prog tbl x.1 x.2 = true := by
  simp only [tblL, List.forall_mem_cons]
  exact ⟨(fun _ => fi_laws_szStringS), (fun _ => fi_laws_szCue), (fun _ => fi_laws_szCueS), (fun _ => fi_laws_toStringS), (fun _ => fi_laws_toCue), (fun _ => fi_laws_toCueS), (fun _ => fi_spec_l15Time), (fun _ => fi_spec_l15Bytes), (fun _ => fi_spec_l15Has), (fun _ => fi_spec_l15Lines), (fun _ => fi_spec_GoodCues), (fun _ => fi_spec_RowsOf), (fun _ => fi_impl_ztime), (fun h => by cases h), (fun _ => fi_impl_zcueLine), (fun _ => fi_impl_zcue), (fun _ => fi_impl_GoodCues), (fun _ => fi_impl_RowsOf), (fun _ => fi_laws_eqIntS), (fun _ => fi_laws_eqStringS), (fun _ => fi_laws_eqCue), (fun _ => fi_laws_eqCueS), (fun _ => fi_laws_markText), (fun _ => fi_laws_markStringS), (fun _ => fi_laws_markCueS), (fun _ => fi_laws_markIntS), (fun _ => fi_laws_heldIntS), (fun _ => fi_laws_FnExactRowsOf), fun _ h => by cases h⟩
theorem all_given : ∀ x ∈ tblL, x.2.given = true → ∀ ars res st0, enter x.2 ars = some st0 → ext x.1 ars = some res → callable Go.Proofs.Try.prog x.1 = true ∧ Does gI Go.Proofs.Try.prog x.1 x.2 st0 res := by
  simp only [tblL, List.forall_mem_cons]
  exact ⟨(fun h => by cases h), (fun h => by cases h), (fun h => by cases h), (fun h => by cases h), (fun h => by cases h), (fun h => by cases h), (fun h => by cases h), (fun h => by cases h), (fun h => by cases h), (fun h => by cases h), (fun h => by cases h), (fun h => by cases h), (fun h => by cases h), (fun _ => gv_strings_Contains), (fun h => by cases h), (fun h => by cases h), (fun h => by cases h), (fun h => by cases h), (fun h => by cases h), (fun h => by cases h), (fun h => by cases h), (fun h => by cases h), (fun h => by cases h), (fun h => by cases h), (fun h => by cases h), (fun h => by cases h), (fun h => by cases h), (fun h => by cases h), fun _ h => by cases h⟩
theorem sound : ∀ n, FSound gI Go.Proofs.Try.prog tbl (vrun ext tbl n) := table_sound (fun _ => rfl) ext all_given all_fi
def lawPs : List (Bool × List Ty) := [(false, [.sl [.int .i64, .int .i64, .sl [.str]]]), (false, [.int .i64])]
theorem pure_law : LawPure ext tbl 7 lawPs := by
  intro tss hl hw
  match tss, hl with
  | [t0, t1], _ =>
    obtain ⟨x0, rfl, w0⟩ := (dec_sl dec_S_Cue) t0 (hw 0 _ t0 rfl rfl)
    obtain ⟨x1, rfl, w1⟩ := (dec_int .i64) t1 (hw 1 _ t1 rfl rfl)
    exact ok_laws_FnExactRowsOf x0 x1 true (final_FnExactRowsOf x0 w0 x1 w1)
end Go.Proofs.V
