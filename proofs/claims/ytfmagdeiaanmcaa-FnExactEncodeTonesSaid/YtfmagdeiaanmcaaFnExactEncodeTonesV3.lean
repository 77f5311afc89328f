/- printed by a program: the plain functions, the code and the proofs of one law -/
import Derived.Test.YtfmagdeiaanmcaaFnExactEncodeTonesV2
import Derived.KernelRfl
import Derived.IntWalk
set_option linter.unusedVariables false
set_option maxRecDepth 100000
namespace Go.Proofs.V
open Go
def as_laws_szIntS (p0 : (List Int)) (p1 : Int) : List Arg := [.v false [.sl (p0.map (rI .i64))], .v false [.lit (.int .i64 p1)]]
def res_laws_szIntS (r : Int) : FRes := ⟨[.v false [.lit (.int .i64 r)]], []⟩
def as_laws_szIntSS (p0 : (List (List Int))) (p1 : Int) : List Arg := [.v false [.sl (p0.map (rL (rI .i64)))], .v false [.lit (.int .i64 p1)]]
def res_laws_szIntSS (r : Int) : FRes := ⟨[.v false [.lit (.int .i64 r)]], []⟩
def as_laws_szTones (p0 : S_Tones) (p1 : Int) : List Arg := [.v true [.lit (.int .i64 p0.rate), .lit (.int .i64 p0.quality), .lit (.int .i64 p0.length), .sl (p0.slots.map (rL (rI .i64))), .sl (p0.grades.map (rL (rI .i64)))], .v false [.lit (.int .i64 p1)]]
def res_laws_szTones (r : Int) : FRes := ⟨[.v false [.lit (.int .i64 r)]], []⟩
def as_laws_toIntS (p0 : (List Int)) : List Arg := [.v false [.sl (p0.map (rI .i64))]]
def res_laws_toIntS (r : (List Int)) : FRes := ⟨[.v false [.sl (r.map (rI .i64))]], []⟩
def as_laws_toIntSS (p0 : (List (List Int))) : List Arg := [.v false [.sl (p0.map (rL (rI .i64)))]]
def res_laws_toIntSS (r : (List (List Int))) : FRes := ⟨[.v false [.sl (r.map (rL (rI .i64)))]], []⟩
def as_laws_toTones (p0 : S_Tones) : List Arg := [.v true [.lit (.int .i64 p0.rate), .lit (.int .i64 p0.quality), .lit (.int .i64 p0.length), .sl (p0.slots.map (rL (rI .i64))), .sl (p0.grades.map (rL (rI .i64)))]]
def res_laws_toTones (r : S_Tones) : FRes := ⟨[.v true [.lit (.int .i64 r.rate), .lit (.int .i64 r.quality), .lit (.int .i64 r.length), .sl (r.slots.map (rL (rI .i64))), .sl (r.grades.map (rL (rI .i64)))]], []⟩
def as_spec_l11Head (p0 : Int) (p1 : Int) (p2 : Int) : List Arg := [.v false [.lit (.int .i64 p0)], .v false [.lit (.int .i64 p1)], .v false [.lit (.int .i64 p2)]]
def res_spec_l11Head (r : Bool) : FRes := ⟨[.v false [.lit (.bool r)]], []⟩
def as_spec_l11Slots (p0 : Int) : List Arg := [.v false [.lit (.int .i64 p0)]]
def res_spec_l11Slots (r : Int) : FRes := ⟨[.v false [.lit (.int .i64 r)]], []⟩
def as_spec_l11All (p0 : (List Int)) (p1 : Int) (p2 : Int) (p3 : Int) : List Arg := [.v false [.sl (p0.map (rI .i64))], .v false [.lit (.int .i64 p1)], .v false [.lit (.int .i64 p2)], .v false [.lit (.int .i64 p3)]]
def res_spec_l11All (r : Bool) : FRes := ⟨[.v false [.lit (.bool r)]], []⟩
def as_spec_GoodTones (p0 : S_Tones) : List Arg := [.v true [.lit (.int .i64 p0.rate), .lit (.int .i64 p0.quality), .lit (.int .i64 p0.length), .sl (p0.slots.map (rL (rI .i64))), .sl (p0.grades.map (rL (rI .i64)))]]
def res_spec_GoodTones (r : Bool) : FRes := ⟨[.v false [.lit (.bool r)]], []⟩
def as_spec_l1Sink_bit (p0 : S_l1Sink) (p1 : Int) : List Arg := [.m (.pt [.lit (.bool p0.high), .sl (p0.out.map (rI .u8)), .lit (.int .i64 p0.n)]), .v false [.lit (.int .u64 p1)]]
def res_spec_l1Sink_bit (r : S_l1Sink) : FRes := ⟨[], [.pt [.lit (.bool r.high), .sl (r.out.map (rI .u8)), .lit (.int .i64 r.n)]]⟩
def as_spec_l1Sink_put (p0 : S_l1Sink) (p1 : Int) (p2 : Int) : List Arg := [.m (.pt [.lit (.bool p0.high), .sl (p0.out.map (rI .u8)), .lit (.int .i64 p0.n)]), .v false [.lit (.int .i64 p1)], .v false [.lit (.int .u64 p2)]]
def res_spec_l1Sink_put (r : S_l1Sink) : FRes := ⟨[], [.pt [.lit (.bool r.high), .sl (r.out.map (rI .u8)), .lit (.int .i64 r.n)]]⟩
def as_spec_Fold (p0 : Int) : List Arg := [.v false [.lit (.int .i64 p0)]]
def res_spec_Fold (r : Int) : FRes := ⟨[.v false [.lit (.int .u64 r)]], []⟩
def as_spec_l11KeyCost (p0 : Int) (p1 : (List Int)) : List Arg := [.v false [.lit (.int .i64 p0)], .v false [.sl (p1.map (rI .i64))]]
def res_spec_l11KeyCost (r : Int) : FRes := ⟨[.v false [.lit (.int .i64 r)]], []⟩
def as_spec_l1Sink_rice (p0 : S_l1Sink) (p1 : Int) (p2 : Int) : List Arg := [.m (.pt [.lit (.bool p0.high), .sl (p0.out.map (rI .u8)), .lit (.int .i64 p0.n)]), .v false [.lit (.int .i64 p1)], .v false [.lit (.int .i64 p2)]]
def res_spec_l1Sink_rice (r : S_l1Sink) : FRes := ⟨[], [.pt [.lit (.bool r.high), .sl (r.out.map (rI .u8)), .lit (.int .i64 r.n)]]⟩
def as_spec_EncodeTones (p0 : S_Tones) : List Arg := [.v true [.lit (.int .i64 p0.rate), .lit (.int .i64 p0.quality), .lit (.int .i64 p0.length), .sl (p0.slots.map (rL (rI .i64))), .sl (p0.grades.map (rL (rI .i64)))]]
def res_spec_EncodeTones (r : (List Int)) : FRes := ⟨[.v false [.sl (r.map (rI .u8))]], []⟩
def as_impl_zrange (p0 : (List Int)) (p1 : Int) (p2 : Int) (p3 : Int) : List Arg := [.v false [.sl (p0.map (rI .i64))], .v false [.lit (.int .i64 p1)], .v false [.lit (.int .i64 p2)], .v false [.lit (.int .i64 p3)]]
def res_impl_zrange (r : Bool) : FRes := ⟨[.v false [.lit (.bool r)]], []⟩
def as_impl_GoodTones (p0 : S_Tones) : List Arg := [.v true [.lit (.int .i64 p0.rate), .lit (.int .i64 p0.quality), .lit (.int .i64 p0.length), .sl (p0.slots.map (rL (rI .i64))), .sl (p0.grades.map (rL (rI .i64)))]]
def res_impl_GoodTones (r : Bool) : FRes := ⟨[.v false [.lit (.bool r)]], []⟩
def as_impl_zbits_bit (p0 : S_zbits) (p1 : Int) : List Arg := [.m (.pt [.sl (p0.b.map (rI .u8)), .lit (.int .i64 p0.n)]), .v false [.lit (.int .i64 p1)]]
def res_impl_zbits_bit (r : S_zbits) : FRes := ⟨[], [.pt [.sl (r.b.map (rI .u8)), .lit (.int .i64 r.n)]]⟩
def as_impl_zbits_put (p0 : S_zbits) (p1 : Int) (p2 : Int) : List Arg := [.m (.pt [.sl (p0.b.map (rI .u8)), .lit (.int .i64 p0.n)]), .v false [.lit (.int .i64 p1)], .v false [.lit (.int .u64 p2)]]
def res_impl_zbits_put (r : S_zbits) : FRes := ⟨[], [.pt [.sl (r.b.map (rI .u8)), .lit (.int .i64 r.n)]]⟩
def as_impl_Fold (p0 : Int) : List Arg := [.v false [.lit (.int .i64 p0)]]
def res_impl_Fold (r : Int) : FRes := ⟨[.v false [.lit (.int .u64 r)]], []⟩
def as_impl_zkeyCost (p0 : Int) (p1 : (List Int)) : List Arg := [.v false [.lit (.int .i64 p0)], .v false [.sl (p1.map (rI .i64))]]
def res_impl_zkeyCost (r : Int) : FRes := ⟨[.v false [.lit (.int .i64 r)]], []⟩
def as_impl_zbits_rice (p0 : S_zbits) (p1 : Int) (p2 : Int) : List Arg := [.m (.pt [.sl (p0.b.map (rI .u8)), .lit (.int .i64 p0.n)]), .v false [.lit (.int .i64 p1)], .v false [.lit (.int .i64 p2)]]
def res_impl_zbits_rice (r : S_zbits) : FRes := ⟨[], [.pt [.sl (r.b.map (rI .u8)), .lit (.int .i64 r.n)]]⟩
def as_impl_EncodeTones (p0 : S_Tones) : List Arg := [.v true [.lit (.int .i64 p0.rate), .lit (.int .i64 p0.quality), .lit (.int .i64 p0.length), .sl (p0.slots.map (rL (rI .i64))), .sl (p0.grades.map (rL (rI .i64)))]]
def res_impl_EncodeTones (r : (List Int)) : FRes := ⟨[.v false [.sl (r.map (rI .u8))]], []⟩
def as_laws_eqByteS (p0 : (List Int)) (p1 : (List Int)) : List Arg := [.v false [.sl (p0.map (rI .u8))], .v false [.sl (p1.map (rI .u8))]]
def res_laws_eqByteS (r : Bool) : FRes := ⟨[.v false [.lit (.bool r)]], []⟩
def as_laws_eqIntS (p0 : (List Int)) (p1 : (List Int)) : List Arg := [.v false [.sl (p0.map (rI .i64))], .v false [.sl (p1.map (rI .i64))]]
def res_laws_eqIntS (r : Bool) : FRes := ⟨[.v false [.lit (.bool r)]], []⟩
def as_laws_eqIntSS (p0 : (List (List Int))) (p1 : (List (List Int))) : List Arg := [.v false [.sl (p0.map (rL (rI .i64)))], .v false [.sl (p1.map (rL (rI .i64)))]]
def res_laws_eqIntSS (r : Bool) : FRes := ⟨[.v false [.lit (.bool r)]], []⟩
def as_laws_eqTones (p0 : S_Tones) (p1 : S_Tones) : List Arg := [.v true [.lit (.int .i64 p0.rate), .lit (.int .i64 p0.quality), .lit (.int .i64 p0.length), .sl (p0.slots.map (rL (rI .i64))), .sl (p0.grades.map (rL (rI .i64)))], .v true [.lit (.int .i64 p1.rate), .lit (.int .i64 p1.quality), .lit (.int .i64 p1.length), .sl (p1.slots.map (rL (rI .i64))), .sl (p1.grades.map (rL (rI .i64)))]]
def res_laws_eqTones (r : Bool) : FRes := ⟨[.v false [.lit (.bool r)]], []⟩
def as_laws_markIntS (p0 : (List Int)) (p1 : Int) : List Arg := [.m (.sl (p0.map (rI .i64))), .v false [.lit (.int .i64 p1)]]
def res_laws_markIntS (r : Int × (List Int)) : FRes := ⟨[.v false [.lit (.int .i64 r.1)]], [.sl (r.2.map (rI .i64))]⟩
def as_laws_markIntSS (p0 : (List (List Int))) (p1 : Int) : List Arg := [.m (.sl (p0.map (rL (rI .i64)))), .v false [.lit (.int .i64 p1)]]
def res_laws_markIntSS (r : Int × (List (List Int))) : FRes := ⟨[.v false [.lit (.int .i64 r.1)]], [.sl (r.2.map (rL (rI .i64)))]⟩
def as_laws_markTones (p0 : S_Tones) (p1 : Int) : List Arg := [.v true [.lit (.int .i64 p0.rate), .lit (.int .i64 p0.quality), .lit (.int .i64 p0.length), .sl (p0.slots.map (rL (rI .i64))), .sl (p0.grades.map (rL (rI .i64)))], .v false [.lit (.int .i64 p1)]]
def res_laws_markTones (r : Int) : FRes := ⟨[.v false [.lit (.int .i64 r)]], []⟩
def as_laws_markByteS (p0 : (List Int)) (p1 : Int) : List Arg := [.m (.sl (p0.map (rI .u8))), .v false [.lit (.int .i64 p1)]]
def res_laws_markByteS (r : Int × (List Int)) : FRes := ⟨[.v false [.lit (.int .i64 r.1)]], [.sl (r.2.map (rI .u8))]⟩
def as_laws_heldByteS (p0 : (List Int)) (p1 : Int) : List Arg := [.v false [.sl (p0.map (rI .u8))], .v false [.lit (.int .i64 p1)]]
def res_laws_heldByteS (r : Int) : FRes := ⟨[.v false [.lit (.int .i64 r)]], []⟩
def as_laws_FnExactEncodeTones (p0 : S_Tones) : List Arg := [.v true [.lit (.int .i64 p0.rate), .lit (.int .i64 p0.quality), .lit (.int .i64 p0.length), .sl (p0.slots.map (rL (rI .i64))), .sl (p0.grades.map (rL (rI .i64)))]]
def res_laws_FnExactEncodeTones (r : Bool) : FRes := ⟨[.v false [.lit (.bool r)]], []⟩
def K_laws_szIntS_0 : List Fr := []
def s_laws_szIntS_0 (p0 : (List Int)) (p1 : Int) : St :=
  ⟨mkSl 12 [(0, .v false [.ro [.sc] (p0.map (rI .i64))]), (1, .v false [.lit (.int .i64 p1)])], [], []⟩
def K_laws_szIntSS_35 : List Fr := []
def s_laws_szIntSS_35 (i35_0 : Int) : St :=
  ⟨mkSl 27 [(1, .v false [.lit (.int .i64 i35_0)])], [], []⟩
def K_laws_szIntSS_17 : List Fr := [.lp [0, 1, 5] c_laws_szIntSS_17, .bk 0, .sq (.kp [1] c_laws_szIntSS_35)]
def s_laws_szIntSS_17 (p0 : (List (List Int))) (i17_0 : Int) (i17_1 : Int) : St :=
  ⟨mkSl 27 [(0, .v false [.ro [.ro [.sc]] (p0.map (rL (rI .i64)))]), (1, .v false [.lit (.int .i64 i17_0)]), (5, .v false [.lit (.int .i64 i17_1)])], [], []⟩
def K_laws_szIntSS_0 : List Fr := []
def s_laws_szIntSS_0 (p0 : (List (List Int))) (p1 : Int) : St :=
  ⟨mkSl 27 [(0, .v false [.ro [.ro [.sc]] (p0.map (rL (rI .i64)))]), (1, .v false [.lit (.int .i64 p1)])], [], []⟩
def K_laws_szTones_0 : List Fr := []
def s_laws_szTones_0 (p0 : S_Tones) (p1 : Int) : St :=
  ⟨mkSl 18 [(0, .v true [.lit (.int .i64 p0.rate), .lit (.int .i64 p0.quality), .lit (.int .i64 p0.length), .ro [.ro [.sc]] (p0.slots.map (rL (rI .i64))), .ro [.ro [.sc]] (p0.grades.map (rL (rI .i64)))]), (1, .v false [.lit (.int .i64 p1)])], [], []⟩
def K_laws_toIntS_19 : List Fr := []
def s_laws_toIntS_19 (l19_0 : (List Int)) : St :=
  ⟨mkSl 22 [(3, .v false [.ref 0 [] 0 l19_0.length])], [some ⟨[.sc], (List.map (rI .i64) l19_0)⟩], []⟩
def K_laws_toIntS_9 : List Fr := [.lp [0, 3, 4] c_laws_toIntS_9, .bk 0, .sq (.kp [3] c_laws_toIntS_19)]
def s_laws_toIntS_9 (p0 : (List Int)) (i9_0 : Int) (l9_1 : (List Int)) : St :=
  ⟨mkSl 22 [(0, .v false [.ro [.sc] (p0.map (rI .i64))]), (3, .v false [.ref 0 [] 0 l9_1.length]), (4, .v false [.lit (.int .i64 i9_0)])], [some ⟨[.sc], (List.map (rI .i64) l9_1)⟩], []⟩
def K_laws_toIntS_0 : List Fr := []
def s_laws_toIntS_0 (p0 : (List Int)) : St :=
  ⟨mkSl 22 [(0, .v false [.ro [.sc] (p0.map (rI .i64))])], [], []⟩
def K_laws_toIntSS_19 : List Fr := []
def s_laws_toIntSS_19 (l19_0 : (List (List Int))) : St :=
  ⟨mkSl 23 [(3, .v false [.ref 0 [] 0 l19_0.length])], [some ⟨[.own [.sc]], (List.map (rL (rI .i64)) l19_0)⟩], []⟩
def K_laws_toIntSS_9 : List Fr := [.lp [0, 3, 4] c_laws_toIntSS_9, .bk 0, .sq (.kp [3] c_laws_toIntSS_19)]
def s_laws_toIntSS_9 (p0 : (List (List Int))) (i9_0 : Int) (l9_1 : (List (List Int))) : St :=
  ⟨mkSl 23 [(0, .v false [.ro [.ro [.sc]] (p0.map (rL (rI .i64)))]), (3, .v false [.ref 0 [] 0 l9_1.length]), (4, .v false [.lit (.int .i64 i9_0)])], [some ⟨[.own [.sc]], (List.map (rL (rI .i64)) l9_1)⟩], []⟩
def K_laws_toIntSS_0 : List Fr := []
def s_laws_toIntSS_0 (p0 : (List (List Int))) : St :=
  ⟨mkSl 23 [(0, .v false [.ro [.ro [.sc]] (p0.map (rL (rI .i64)))])], [], []⟩
def K_laws_toTones_0 : List Fr := []
def s_laws_toTones_0 (p0 : S_Tones) : St :=
  ⟨mkSl 22 [(0, .v true [.lit (.int .i64 p0.rate), .lit (.int .i64 p0.quality), .lit (.int .i64 p0.length), .ro [.ro [.sc]] (p0.slots.map (rL (rI .i64))), .ro [.ro [.sc]] (p0.grades.map (rL (rI .i64)))])], [], []⟩
def K_spec_l11Head_0 : List Fr := []
def s_spec_l11Head_0 (p0 : Int) (p1 : Int) (p2 : Int) : St :=
  ⟨mkSl 29 [(0, .v false [.lit (.int .i64 p0)]), (1, .v false [.lit (.int .i64 p1)]), (2, .v false [.lit (.int .i64 p2)])], [], []⟩
def K_spec_l11Slots_0 : List Fr := []
def s_spec_l11Slots_0 (p0 : Int) : St :=
  ⟨mkSl 7 [(0, .v false [.lit (.int .i64 p0)])], [], []⟩
def K_spec_l11All_25 : List Fr := []
def s_spec_l11All_25 (p0 : (List Int)) (p1 : Int) : St :=
  ⟨mkSl 30 [(0, .v false [.ro [.sc] (p0.map (rI .i64))]), (1, .v false [.lit (.int .i64 p1)])], [], []⟩
def K_spec_l11All_7 : List Fr := [.lp [0, 1, 2, 3, 11, 12, 13] c_spec_l11All_7, .bk 0, .sq (.kp [0, 1] c_spec_l11All_25)]
def s_spec_l11All_7 (p0 : (List Int)) (p1 : Int) (p2 : Int) (p3 : Int) (i7_0 : Int) : St :=
  ⟨mkSl 30 [(0, .v false [.ro [.sc] (p0.map (rI .i64))]), (1, .v false [.lit (.int .i64 p1)]), (2, .v false [.lit (.int .i64 p2)]), (3, .v false [.lit (.int .i64 p3)]), (11, .v false [.ro [.sc] (p0.map (rI .i64))]), (12, .v false [.lit (.int .i64 (p0.length : Int))]), (13, .v false [.lit (.int .i64 i7_0)])], [], []⟩
def K_spec_l11All_0 : List Fr := []
def s_spec_l11All_0 (p0 : (List Int)) (p1 : Int) (p2 : Int) (p3 : Int) : St :=
  ⟨mkSl 30 [(0, .v false [.ro [.sc] (p0.map (rI .i64))]), (1, .v false [.lit (.int .i64 p1)]), (2, .v false [.lit (.int .i64 p2)]), (3, .v false [.lit (.int .i64 p3)])], [], []⟩
def K_spec_GoodTones_33 : List Fr := []
def s_spec_GoodTones_33 : St :=
  ⟨mkSl 53 [], [], []⟩
def K_spec_GoodTones_15 : List Fr := [.lp [1, 32, 33] c_spec_GoodTones_15, .bk 0, .sq (.kp [] c_spec_GoodTones_33)]
def s_spec_GoodTones_15 (p0 : S_Tones) (i15_0 : Int) : St :=
  ⟨mkSl 53 [(1, .v false [.vptr 0 0]), (32, .v false [.lit (.int .i64 (p0.slots.length : Int))]), (33, .v false [.lit (.int .i64 i15_0)])], [], [some [.lit (.int .i64 p0.rate), .lit (.int .i64 p0.quality), .lit (.int .i64 p0.length), .ro [.ro [.sc]] (p0.slots.map (rL (rI .i64))), .ro [.ro [.sc]] (p0.grades.map (rL (rI .i64)))]]⟩
def K_spec_GoodTones_0 : List Fr := []
def s_spec_GoodTones_0 (p0 : S_Tones) : St :=
  ⟨mkSl 53 [(0, .v true [.lit (.int .i64 p0.rate), .lit (.int .i64 p0.quality), .lit (.int .i64 p0.length), .ro [.ro [.sc]] (p0.slots.map (rL (rI .i64))), .ro [.ro [.sc]] (p0.grades.map (rL (rI .i64)))])], [], []⟩
def K_spec_l1Sink_bit_18 : List Fr := [.sq c_spec_l1Sink_bit_20]
def s_spec_l1Sink_bit_18 (p0 : S_l1Sink) (l6_0 : (List Int)) (i18_0 : Int) : St :=
  ⟨mkSl 56 [(0, .v false [.vptr 0 0]), (4, .v false [.lit (.int .u64 i18_0)])], [some ⟨[.sc], (List.map (rI .u8) l6_0)⟩], [some [.lit (.bool p0.high), .ref 0 [] 0 l6_0.length, .lit (.int .i64 p0.n)]]⟩
def K_spec_l1Sink_bit_6 : List Fr := []
def s_spec_l1Sink_bit_6 (p1 : Int) (p0 : S_l1Sink) (l6_0 : (List Int)) : St :=
  ⟨mkSl 56 [(0, .v false [.vptr 0 0]), (1, .v false [.lit (.int .u64 p1)])], [some ⟨[.sc], (List.map (rI .u8) l6_0)⟩], [some [.lit (.bool p0.high), .ref 0 [] 0 l6_0.length, .lit (.int .i64 p0.n)]]⟩
def K_spec_l1Sink_bit_0 : List Fr := []
def s_spec_l1Sink_bit_0 (p1 : Int) (p0 : S_l1Sink) : St :=
  ⟨mkSl 56 [(0, .v false [.vptr 0 0]), (1, .v false [.lit (.int .u64 p1)])], [some ⟨[.sc], (List.map (rI .u8) p0.out)⟩], [some [.lit (.bool p0.high), .ref 0 [] 0 p0.out.length, .lit (.int .i64 p0.n)]]⟩
def K_spec_l1Sink_put_20 : List Fr := [.bk 1, .sq c_spec_l1Sink_put_21, .lp [0, 1, 2, 6] c_spec_l1Sink_put_4, .bk 0]
def s_spec_l1Sink_put_20 (p1 : Int) (p2 : Int) (i4_0 : Int) (b4_1 : Bool) (i4_2 : Int) (l4_3 : (List Int)) (i20_0 : Int) : St :=
  ⟨mkSl 30 [(0, .v false [.vptr 0 0]), (1, .v false [.lit (.int .i64 p1)]), (2, .v false [.lit (.int .u64 p2)]), (6, .v false [.lit (.int .i64 i4_0)]), (7, .v false [.lit (.int .u64 i20_0)])], [some ⟨[.sc], (List.map (rI .u8) l4_3)⟩], [some [.lit (.bool b4_1), .ref 0 [] 0 l4_3.length, .lit (.int .i64 i4_2)]]⟩
def K_spec_l1Sink_put_4 : List Fr := [.lp [0, 1, 2, 6] c_spec_l1Sink_put_4, .bk 0]
def s_spec_l1Sink_put_4 (p1 : Int) (p2 : Int) (i4_0 : Int) (b4_1 : Bool) (i4_2 : Int) (l4_3 : (List Int)) : St :=
  ⟨mkSl 30 [(0, .v false [.vptr 0 0]), (1, .v false [.lit (.int .i64 p1)]), (2, .v false [.lit (.int .u64 p2)]), (6, .v false [.lit (.int .i64 i4_0)])], [some ⟨[.sc], (List.map (rI .u8) l4_3)⟩], [some [.lit (.bool b4_1), .ref 0 [] 0 l4_3.length, .lit (.int .i64 i4_2)]]⟩
def K_spec_l1Sink_put_0 : List Fr := []
def s_spec_l1Sink_put_0 (p1 : Int) (p2 : Int) (p0 : S_l1Sink) : St :=
  ⟨mkSl 30 [(0, .v false [.vptr 0 0]), (1, .v false [.lit (.int .i64 p1)]), (2, .v false [.lit (.int .u64 p2)])], [some ⟨[.sc], (List.map (rI .u8) p0.out)⟩], [some [.lit (.bool p0.high), .ref 0 [] 0 p0.out.length, .lit (.int .i64 p0.n)]]⟩
def K_spec_Fold_0 : List Fr := []
def s_spec_Fold_0 (p0 : Int) : St :=
  ⟨mkSl 14 [(0, .v false [.lit (.int .i64 p0)])], [], []⟩
def K_spec_l11KeyCost_21 : List Fr := []
def s_spec_l11KeyCost_21 (i21_0 : Int) : St :=
  ⟨mkSl 27 [(5, .v false [.lit (.int .i64 i21_0)])], [], []⟩
def K_spec_l11KeyCost_9 : List Fr := [.lp [0, 5, 8, 9, 10] c_spec_l11KeyCost_9, .bk 0, .sq (.kp [5] c_spec_l11KeyCost_21)]
def s_spec_l11KeyCost_9 (p0 : Int) (p1 : (List Int)) (i9_0 : Int) (i9_1 : Int) : St :=
  ⟨mkSl 27 [(0, .v false [.lit (.int .i64 p0)]), (5, .v false [.lit (.int .i64 i9_0)]), (8, .v false [.ro [.sc] (p1.map (rI .i64))]), (9, .v false [.lit (.int .i64 (p1.length : Int))]), (10, .v false [.lit (.int .i64 i9_1)])], [], []⟩
def K_spec_l11KeyCost_0 : List Fr := []
def s_spec_l11KeyCost_0 (p0 : Int) (p1 : (List Int)) : St :=
  ⟨mkSl 27 [(0, .v false [.lit (.int .i64 p0)]), (1, .v false [.ro [.sc] (p1.map (rI .i64))])], [], []⟩
def K_spec_l1Sink_rice_25 : List Fr := []
def s_spec_l1Sink_rice_25 (p1 : Int) (x0_1 : Int) (b25_0 : Bool) (i25_1 : Int) (l25_2 : (List Int)) : St :=
  ⟨mkSl 32 [(0, .v false [.vptr 0 0]), (1, .v false [.lit (.int .i64 p1)]), (6, .v false [.lit (.int .u64 x0_1)])], [some ⟨[.sc], (List.map (rI .u8) l25_2)⟩], [some [.lit (.bool b25_0), .ref 0 [] 0 l25_2.length, .lit (.int .i64 i25_1)]]⟩
def K_spec_l1Sink_rice_15 : List Fr := [.lp [0, 1, 6, 7] c_spec_l1Sink_rice_15, .bk 0, .sq (.kp [0, 1, 6] c_spec_l1Sink_rice_25)]
def s_spec_l1Sink_rice_15 (p1 : Int) (x0_1 : Int) (i15_0 : Int) (b15_1 : Bool) (i15_2 : Int) (l15_3 : (List Int)) : St :=
  ⟨mkSl 32 [(0, .v false [.vptr 0 0]), (1, .v false [.lit (.int .i64 p1)]), (6, .v false [.lit (.int .u64 x0_1)]), (7, .v false [.lit (.int .u64 i15_0)])], [some ⟨[.sc], (List.map (rI .u8) l15_3)⟩], [some [.lit (.bool b15_1), .ref 0 [] 0 l15_3.length, .lit (.int .i64 i15_2)]]⟩
def K_spec_l1Sink_rice_0 : List Fr := []
def s_spec_l1Sink_rice_0 (p1 : Int) (p2 : Int) (p0 : S_l1Sink) : St :=
  ⟨mkSl 32 [(0, .v false [.vptr 0 0]), (1, .v false [.lit (.int .i64 p1)]), (2, .v false [.lit (.int .i64 p2)])], [some ⟨[.sc], (List.map (rI .u8) p0.out)⟩], [some [.lit (.bool p0.high), .ref 0 [] 0 p0.out.length, .lit (.int .i64 p0.n)]]⟩
def K_spec_EncodeTones_91 : List Fr := [.lp [1, 3, 36, 37] c_spec_EncodeTones_25, .bk 0, .sq (.kp [3] c_spec_EncodeTones_92)]
def s_spec_EncodeTones_91 (p0 : S_Tones) (i25_0 : Int) (b91_0 : Bool) (i91_1 : Int) (l91_2 : (List Int)) : St :=
  ⟨mkSl 105 [(1, .v false [.vptr 0 0]), (3, .v false [.vptr 1 0]), (36, .v false [.lit (.int .i64 (p0.slots.length : Int))]), (37, .v false [.lit (.int .i64 i25_0)])], [some ⟨[.sc], (List.map (rI .u8) l91_2)⟩], [some [.lit (.int .i64 p0.rate), .lit (.int .i64 p0.quality), .lit (.int .i64 p0.length), .ro [.ro [.sc]] (p0.slots.map (rL (rI .i64))), .ro [.ro [.sc]] (p0.grades.map (rL (rI .i64)))], some [.lit (.bool b91_0), .ref 0 [] 0 l91_2.length, .lit (.int .i64 i91_1)]]⟩
def K_spec_EncodeTones_79 : List Fr := [.lp [1, 3, 7, 36, 37, 83, 84, 85] c_spec_EncodeTones_79, .bk 6, .bk 1, .sq (.kp [1, 3, 36, 37] c_spec_EncodeTones_91), .lp [1, 3, 36, 37] c_spec_EncodeTones_25, .bk 0, .sq (.kp [3] c_spec_EncodeTones_92)]
def s_spec_EncodeTones_79 (i73_0 : Int) (p0 : S_Tones) (i25_0 : Int) (x73_1 : (List Int)) (i79_0 : Int) (b79_1 : Bool) (i79_2 : Int) (l79_3 : (List Int)) : St :=
  ⟨mkSl 105 [(1, .v false [.vptr 0 0]), (3, .v false [.vptr 1 0]), (7, .v false [.lit (.int .i64 i73_0)]), (36, .v false [.lit (.int .i64 (p0.slots.length : Int))]), (37, .v false [.lit (.int .i64 i25_0)]), (83, .v false [.ro [.sc] (x73_1.map (rI .i64))]), (84, .v false [.lit (.int .i64 (x73_1.length : Int))]), (85, .v false [.lit (.int .i64 i79_0)])], [some ⟨[.sc], (List.map (rI .u8) l79_3)⟩], [some [.lit (.int .i64 p0.rate), .lit (.int .i64 p0.quality), .lit (.int .i64 p0.length), .ro [.ro [.sc]] (p0.slots.map (rL (rI .i64))), .ro [.ro [.sc]] (p0.grades.map (rL (rI .i64)))], some [.lit (.bool b79_1), .ref 0 [] 0 l79_3.length, .lit (.int .i64 i79_2)]]⟩
def K_spec_EncodeTones_73 : List Fr := [.bk 1, .sq (.kp [1, 3, 36, 37] c_spec_EncodeTones_91), .lp [1, 3, 36, 37] c_spec_EncodeTones_25, .bk 0, .sq (.kp [3] c_spec_EncodeTones_92)]
def s_spec_EncodeTones_73 (i25_0 : Int) (p0 : S_Tones) (b52_0 : Bool) (i52_1 : Int) (l52_2 : (List Int)) (i73_0 : Int) : St :=
  ⟨mkSl 105 [(1, .v false [.vptr 0 0]), (3, .v false [.vptr 1 0]), (4, .v false [.lit (.int .i64 i25_0)]), (7, .v false [.lit (.int .i64 i73_0)]), (36, .v false [.lit (.int .i64 (p0.slots.length : Int))]), (37, .v false [.lit (.int .i64 i25_0)])], [some ⟨[.sc], (List.map (rI .u8) l52_2)⟩], [some [.lit (.int .i64 p0.rate), .lit (.int .i64 p0.quality), .lit (.int .i64 p0.length), .ro [.ro [.sc]] (p0.slots.map (rL (rI .i64))), .ro [.ro [.sc]] (p0.grades.map (rL (rI .i64)))], some [.lit (.bool b52_0), .ref 0 [] 0 l52_2.length, .lit (.int .i64 i52_1)]]⟩
def K_spec_EncodeTones_59 : List Fr := [.lp [1, 3, 4, 7, 8, 36, 37] c_spec_EncodeTones_59, .bk 4, .sq (.kp [1, 3, 4, 7, 36, 37] c_spec_EncodeTones_73), .bk 1, .sq (.kp [1, 3, 36, 37] c_spec_EncodeTones_91), .lp [1, 3, 36, 37] c_spec_EncodeTones_25, .bk 0, .sq (.kp [3] c_spec_EncodeTones_92)]
def s_spec_EncodeTones_59 (i25_0 : Int) (p0 : S_Tones) (b52_0 : Bool) (i52_1 : Int) (l52_2 : (List Int)) (i59_0 : Int) (i59_1 : Int) : St :=
  ⟨mkSl 105 [(1, .v false [.vptr 0 0]), (3, .v false [.vptr 1 0]), (4, .v false [.lit (.int .i64 i25_0)]), (7, .v false [.lit (.int .i64 i59_0)]), (8, .v false [.lit (.int .i64 i59_1)]), (36, .v false [.lit (.int .i64 (p0.slots.length : Int))]), (37, .v false [.lit (.int .i64 i25_0)])], [some ⟨[.sc], (List.map (rI .u8) l52_2)⟩], [some [.lit (.int .i64 p0.rate), .lit (.int .i64 p0.quality), .lit (.int .i64 p0.length), .ro [.ro [.sc]] (p0.slots.map (rL (rI .i64))), .ro [.ro [.sc]] (p0.grades.map (rL (rI .i64)))], some [.lit (.bool b52_0), .ref 0 [] 0 l52_2.length, .lit (.int .i64 i52_1)]]⟩
def K_spec_EncodeTones_52 : List Fr := [.bk 1, .sq (.kp [1, 3, 36, 37] c_spec_EncodeTones_91), .lp [1, 3, 36, 37] c_spec_EncodeTones_25, .bk 0, .sq (.kp [3] c_spec_EncodeTones_92)]
def s_spec_EncodeTones_52 (i25_0 : Int) (p0 : S_Tones) (b52_0 : Bool) (i52_1 : Int) (l52_2 : (List Int)) : St :=
  ⟨mkSl 105 [(1, .v false [.vptr 0 0]), (3, .v false [.vptr 1 0]), (4, .v false [.lit (.int .i64 i25_0)]), (36, .v false [.lit (.int .i64 (p0.slots.length : Int))]), (37, .v false [.lit (.int .i64 i25_0)])], [some ⟨[.sc], (List.map (rI .u8) l52_2)⟩], [some [.lit (.int .i64 p0.rate), .lit (.int .i64 p0.quality), .lit (.int .i64 p0.length), .ro [.ro [.sc]] (p0.slots.map (rL (rI .i64))), .ro [.ro [.sc]] (p0.grades.map (rL (rI .i64)))], some [.lit (.bool b52_0), .ref 0 [] 0 l52_2.length, .lit (.int .i64 i52_1)]]⟩
def K_spec_EncodeTones_40 : List Fr := [.lp [1, 3, 4, 36, 37, 44, 45, 46] c_spec_EncodeTones_40, .bk 2, .sq (.kp [1, 3, 4, 36, 37] c_spec_EncodeTones_52), .bk 1, .sq (.kp [1, 3, 36, 37] c_spec_EncodeTones_91), .lp [1, 3, 36, 37] c_spec_EncodeTones_25, .bk 0, .sq (.kp [3] c_spec_EncodeTones_92)]
def s_spec_EncodeTones_40 (i25_0 : Int) (p0 : S_Tones) (x25_1 : (List Int)) (i40_0 : Int) (b40_1 : Bool) (i40_2 : Int) (l40_3 : (List Int)) : St :=
  ⟨mkSl 105 [(1, .v false [.vptr 0 0]), (3, .v false [.vptr 1 0]), (4, .v false [.lit (.int .i64 i25_0)]), (36, .v false [.lit (.int .i64 (p0.slots.length : Int))]), (37, .v false [.lit (.int .i64 i25_0)]), (44, .v false [.ro [.sc] (x25_1.map (rI .i64))]), (45, .v false [.lit (.int .i64 (x25_1.length : Int))]), (46, .v false [.lit (.int .i64 i40_0)])], [some ⟨[.sc], (List.map (rI .u8) l40_3)⟩], [some [.lit (.int .i64 p0.rate), .lit (.int .i64 p0.quality), .lit (.int .i64 p0.length), .ro [.ro [.sc]] (p0.slots.map (rL (rI .i64))), .ro [.ro [.sc]] (p0.grades.map (rL (rI .i64)))], some [.lit (.bool b40_1), .ref 0 [] 0 l40_3.length, .lit (.int .i64 i40_2)]]⟩
def K_spec_EncodeTones_92 : List Fr := []
def s_spec_EncodeTones_92 (b92_0 : Bool) (i92_1 : Int) (l92_2 : (List Int)) : St :=
  ⟨mkSl 105 [(3, .v false [.vptr 0 0])], [some ⟨[.sc], (List.map (rI .u8) l92_2)⟩], [some [.lit (.bool b92_0), .ref 0 [] 0 l92_2.length, .lit (.int .i64 i92_1)]]⟩
def K_spec_EncodeTones_25 : List Fr := [.lp [1, 3, 36, 37] c_spec_EncodeTones_25, .bk 0, .sq (.kp [3] c_spec_EncodeTones_92)]
def s_spec_EncodeTones_25 (p0 : S_Tones) (i25_0 : Int) (b25_1 : Bool) (i25_2 : Int) (l25_3 : (List Int)) : St :=
  ⟨mkSl 105 [(1, .v false [.vptr 0 0]), (3, .v false [.vptr 1 0]), (36, .v false [.lit (.int .i64 (p0.slots.length : Int))]), (37, .v false [.lit (.int .i64 i25_0)])], [some ⟨[.sc], (List.map (rI .u8) l25_3)⟩], [some [.lit (.int .i64 p0.rate), .lit (.int .i64 p0.quality), .lit (.int .i64 p0.length), .ro [.ro [.sc]] (p0.slots.map (rL (rI .i64))), .ro [.ro [.sc]] (p0.grades.map (rL (rI .i64)))], some [.lit (.bool b25_1), .ref 0 [] 0 l25_3.length, .lit (.int .i64 i25_2)]]⟩
def K_spec_EncodeTones_0 : List Fr := []
def s_spec_EncodeTones_0 (p0 : S_Tones) : St :=
  ⟨mkSl 105 [(0, .v true [.lit (.int .i64 p0.rate), .lit (.int .i64 p0.quality), .lit (.int .i64 p0.length), .ro [.ro [.sc]] (p0.slots.map (rL (rI .i64))), .ro [.ro [.sc]] (p0.grades.map (rL (rI .i64)))])], [], []⟩
def K_impl_zrange_33 : List Fr := []
def s_impl_zrange_33 : St :=
  ⟨mkSl 30 [], [], []⟩
def K_impl_zrange_15 : List Fr := [.lp [1, 2, 15, 16, 17] c_impl_zrange_15, .bk 0, .sq (.kp [] c_impl_zrange_33)]
def s_impl_zrange_15 (p1 : Int) (p2 : Int) (p0 : (List Int)) (i15_0 : Int) : St :=
  ⟨mkSl 30 [(1, .v false [.lit (.int .i64 p1)]), (2, .v false [.lit (.int .i64 p2)]), (15, .v false [.ro [.sc] (p0.map (rI .i64))]), (16, .v false [.lit (.int .i64 (p0.length : Int))]), (17, .v false [.lit (.int .i64 i15_0)])], [], []⟩
def K_impl_zrange_0 : List Fr := []
def s_impl_zrange_0 (p0 : (List Int)) (p1 : Int) (p2 : Int) (p3 : Int) : St :=
  ⟨mkSl 30 [(0, .v false [.ro [.sc] (p0.map (rI .i64))]), (1, .v false [.lit (.int .i64 p1)]), (2, .v false [.lit (.int .i64 p2)]), (3, .v false [.lit (.int .i64 p3)])], [], []⟩
def K_impl_GoodTones_35 : List Fr := []
def s_impl_GoodTones_35 : St :=
  ⟨mkSl 93 [], [], []⟩
def K_impl_GoodTones_17 : List Fr := [.lp [1, 54, 55] c_impl_GoodTones_17, .bk 0, .sq (.kp [] c_impl_GoodTones_35)]
def s_impl_GoodTones_17 (p0 : S_Tones) (i17_0 : Int) : St :=
  ⟨mkSl 93 [(1, .v false [.vptr 0 0]), (54, .v false [.lit (.int .i64 (p0.slots.length : Int))]), (55, .v false [.lit (.int .i64 i17_0)])], [], [some [.lit (.int .i64 p0.rate), .lit (.int .i64 p0.quality), .lit (.int .i64 p0.length), .ro [.ro [.sc]] (p0.slots.map (rL (rI .i64))), .ro [.ro [.sc]] (p0.grades.map (rL (rI .i64)))]]⟩
def K_impl_GoodTones_0 : List Fr := []
def s_impl_GoodTones_0 (p0 : S_Tones) : St :=
  ⟨mkSl 93 [(0, .v true [.lit (.int .i64 p0.rate), .lit (.int .i64 p0.quality), .lit (.int .i64 p0.length), .ro [.ro [.sc]] (p0.slots.map (rL (rI .i64))), .ro [.ro [.sc]] (p0.grades.map (rL (rI .i64)))])], [], []⟩
def K_impl_zbits_bit_6 : List Fr := []
def s_impl_zbits_bit_6 (p1 : Int) (p0 : S_zbits) (l6_0 : (List Int)) : St :=
  ⟨mkSl 48 [(0, .v false [.vptr 0 0]), (1, .v false [.lit (.int .i64 p1)])], [some ⟨[.sc], (List.map (rI .u8) l6_0)⟩], [some [.ref 0 [] 0 l6_0.length, .lit (.int .i64 p0.n)]]⟩
def K_impl_zbits_bit_0 : List Fr := []
def s_impl_zbits_bit_0 (p1 : Int) (p0 : S_zbits) : St :=
  ⟨mkSl 48 [(0, .v false [.vptr 0 0]), (1, .v false [.lit (.int .i64 p1)])], [some ⟨[.sc], (List.map (rI .u8) p0.b)⟩], [some [.ref 0 [] 0 p0.b.length, .lit (.int .i64 p0.n)]]⟩
def K_impl_zbits_put_4 : List Fr := [.lp [0, 2, 6] c_impl_zbits_put_4, .bk 0]
def s_impl_zbits_put_4 (p2 : Int) (i4_0 : Int) (i4_1 : Int) (l4_2 : (List Int)) : St :=
  ⟨mkSl 20 [(0, .v false [.vptr 0 0]), (2, .v false [.lit (.int .u64 p2)]), (6, .v false [.lit (.int .i64 i4_0)])], [some ⟨[.sc], (List.map (rI .u8) l4_2)⟩], [some [.ref 0 [] 0 l4_2.length, .lit (.int .i64 i4_1)]]⟩
def K_impl_zbits_put_0 : List Fr := []
def s_impl_zbits_put_0 (p1 : Int) (p2 : Int) (p0 : S_zbits) : St :=
  ⟨mkSl 20 [(0, .v false [.vptr 0 0]), (1, .v false [.lit (.int .i64 p1)]), (2, .v false [.lit (.int .u64 p2)])], [some ⟨[.sc], (List.map (rI .u8) p0.b)⟩], [some [.ref 0 [] 0 p0.b.length, .lit (.int .i64 p0.n)]]⟩
def K_impl_Fold_0 : List Fr := []
def s_impl_Fold_0 (p0 : Int) : St :=
  ⟨mkSl 10 [(0, .v false [.lit (.int .i64 p0)])], [], []⟩
def K_impl_zkeyCost_29 : List Fr := []
def s_impl_zkeyCost_29 (i29_0 : Int) : St :=
  ⟨mkSl 32 [(5, .v false [.lit (.int .i64 i29_0)])], [], []⟩
def K_impl_zkeyCost_17 : List Fr := [.lp [0, 5, 14, 15, 16] c_impl_zkeyCost_17, .bk 0, .sq (.kp [5] c_impl_zkeyCost_29)]
def s_impl_zkeyCost_17 (p0 : Int) (p1 : (List Int)) (i17_0 : Int) (i17_1 : Int) : St :=
  ⟨mkSl 32 [(0, .v false [.lit (.int .i64 p0)]), (5, .v false [.lit (.int .i64 i17_0)]), (14, .v false [.ro [.sc] (p1.map (rI .i64))]), (15, .v false [.lit (.int .i64 (p1.length : Int))]), (16, .v false [.lit (.int .i64 i17_1)])], [], []⟩
def K_impl_zkeyCost_0 : List Fr := []
def s_impl_zkeyCost_0 (p0 : Int) (p1 : (List Int)) : St :=
  ⟨mkSl 32 [(0, .v false [.lit (.int .i64 p0)]), (1, .v false [.ro [.sc] (p1.map (rI .i64))])], [], []⟩
def K_impl_zbits_rice_17 : List Fr := []
def s_impl_zbits_rice_17 (p2 : Int) (x0_0 : Int) (i17_0 : Int) (l17_1 : (List Int)) : St :=
  ⟨mkSl 23 [(0, .v false [.vptr 0 0]), (2, .v false [.lit (.int .i64 p2)]), (6, .v false [.lit (.int .u64 x0_0)])], [some ⟨[.sc], (List.map (rI .u8) l17_1)⟩], [some [.ref 0 [] 0 l17_1.length, .lit (.int .i64 i17_0)]]⟩
def K_impl_zbits_rice_7 : List Fr := [.lp [0, 2, 6, 11, 12] c_impl_zbits_rice_7, .bk 0, .sq (.kp [0, 2, 6] c_impl_zbits_rice_17)]
def s_impl_zbits_rice_7 (p2 : Int) (x0_0 : Int) (i7_0 : Int) (i7_1 : Int) (i7_2 : Int) (l7_3 : (List Int)) : St :=
  ⟨mkSl 23 [(0, .v false [.vptr 0 0]), (2, .v false [.lit (.int .i64 p2)]), (6, .v false [.lit (.int .u64 x0_0)]), (11, .v false [.lit (.int .u64 i7_0)]), (12, .v false [.lit (.int .u64 i7_1)])], [some ⟨[.sc], (List.map (rI .u8) l7_3)⟩], [some [.ref 0 [] 0 l7_3.length, .lit (.int .i64 i7_2)]]⟩
def K_impl_zbits_rice_0 : List Fr := []
def s_impl_zbits_rice_0 (p1 : Int) (p2 : Int) (p0 : S_zbits) : St :=
  ⟨mkSl 23 [(0, .v false [.vptr 0 0]), (1, .v false [.lit (.int .i64 p1)]), (2, .v false [.lit (.int .i64 p2)])], [some ⟨[.sc], (List.map (rI .u8) p0.b)⟩], [some [.ref 0 [] 0 p0.b.length, .lit (.int .i64 p0.n)]]⟩
def K_impl_EncodeTones_88 : List Fr := [.bk 7, .sq c_impl_EncodeTones_91, .lp [1, 3, 7, 10, 11, 12, 50, 51, 52] c_impl_EncodeTones_76, .bk 6, .sq (.kp [1, 3, 7, 10, 50, 51, 52] c_impl_EncodeTones_92), .bk 3, .sq (.kp [1, 3, 50, 51, 52] c_impl_EncodeTones_110), .lp [1, 3, 50, 51, 52] c_impl_EncodeTones_42, .bk 2, .sq (.kp [3] c_impl_EncodeTones_111)]
def s_impl_EncodeTones_88 (x42_1 : (List Int)) (i76_0 : Int) (i76_1 : Int) (i76_2 : Int) (x76_1 : Int) (p0 : S_Tones) (i42_0 : Int) (i69_0 : Int) (l69_1 : (List Int)) (b88_0 : Bool) : St :=
  ⟨mkSl 114 [(1, .v false [.vptr 0 0]), (3, .v false [.vptr 1 0]), (7, .v false [.ro [.sc] (x42_1.map (rI .i64))]), (10, .v false [.lit (.int .i64 i76_0)]), (11, .v false [.lit (.int .i64 i76_1)]), (12, .v false [.lit (.int .i64 i76_2)]), (13, .v false [.lit (.int .i64 x76_1)]), (50, .v false [.ro [.ro [.sc]] (p0.slots.map (rL (rI .i64)))]), (51, .v false [.lit (.int .i64 (p0.slots.length : Int))]), (52, .v false [.lit (.int .i64 i42_0)]), (85, .v false [.lit (.bool b88_0)])], [some ⟨[.sc], (List.map (rI .u8) l69_1)⟩], [some [.lit (.int .i64 p0.rate), .lit (.int .i64 p0.quality), .lit (.int .i64 p0.length), .ro [.ro [.sc]] (p0.slots.map (rL (rI .i64))), .ro [.ro [.sc]] (p0.grades.map (rL (rI .i64)))], some [.ref 0 [] 0 l69_1.length, .lit (.int .i64 i69_0)]]⟩
def K_impl_EncodeTones_110 : List Fr := [.lp [1, 3, 50, 51, 52] c_impl_EncodeTones_42, .bk 2, .sq (.kp [3] c_impl_EncodeTones_111)]
def s_impl_EncodeTones_110 (p0 : S_Tones) (i42_0 : Int) (i110_0 : Int) (l110_1 : (List Int)) : St :=
  ⟨mkSl 114 [(1, .v false [.vptr 0 0]), (3, .v false [.vptr 1 0]), (50, .v false [.ro [.ro [.sc]] (p0.slots.map (rL (rI .i64)))]), (51, .v false [.lit (.int .i64 (p0.slots.length : Int))]), (52, .v false [.lit (.int .i64 i42_0)])], [some ⟨[.sc], (List.map (rI .u8) l110_1)⟩], [some [.lit (.int .i64 p0.rate), .lit (.int .i64 p0.quality), .lit (.int .i64 p0.length), .ro [.ro [.sc]] (p0.slots.map (rL (rI .i64))), .ro [.ro [.sc]] (p0.grades.map (rL (rI .i64)))], some [.ref 0 [] 0 l110_1.length, .lit (.int .i64 i110_0)]]⟩
def K_impl_EncodeTones_98 : List Fr := [.lp [1, 3, 10, 50, 51, 52, 92, 93, 94] c_impl_EncodeTones_98, .bk 8, .bk 3, .sq (.kp [1, 3, 50, 51, 52] c_impl_EncodeTones_110), .lp [1, 3, 50, 51, 52] c_impl_EncodeTones_42, .bk 2, .sq (.kp [3] c_impl_EncodeTones_111)]
def s_impl_EncodeTones_98 (i92_0 : Int) (p0 : S_Tones) (i42_0 : Int) (x42_1 : (List Int)) (i98_0 : Int) (i98_1 : Int) (l98_2 : (List Int)) : St :=
  ⟨mkSl 114 [(1, .v false [.vptr 0 0]), (3, .v false [.vptr 1 0]), (10, .v false [.lit (.int .i64 i92_0)]), (50, .v false [.ro [.ro [.sc]] (p0.slots.map (rL (rI .i64)))]), (51, .v false [.lit (.int .i64 (p0.slots.length : Int))]), (52, .v false [.lit (.int .i64 i42_0)]), (92, .v false [.ro [.sc] (x42_1.map (rI .i64))]), (93, .v false [.lit (.int .i64 (x42_1.length : Int))]), (94, .v false [.lit (.int .i64 i98_0)])], [some ⟨[.sc], (List.map (rI .u8) l98_2)⟩], [some [.lit (.int .i64 p0.rate), .lit (.int .i64 p0.quality), .lit (.int .i64 p0.length), .ro [.ro [.sc]] (p0.slots.map (rL (rI .i64))), .ro [.ro [.sc]] (p0.grades.map (rL (rI .i64)))], some [.ref 0 [] 0 l98_2.length, .lit (.int .i64 i98_1)]]⟩
def K_impl_EncodeTones_92 : List Fr := [.bk 3, .sq (.kp [1, 3, 50, 51, 52] c_impl_EncodeTones_110), .lp [1, 3, 50, 51, 52] c_impl_EncodeTones_42, .bk 2, .sq (.kp [3] c_impl_EncodeTones_111)]
def s_impl_EncodeTones_92 (x42_1 : (List Int)) (p0 : S_Tones) (i42_0 : Int) (i69_0 : Int) (l69_1 : (List Int)) (i92_0 : Int) : St :=
  ⟨mkSl 114 [(1, .v false [.vptr 0 0]), (3, .v false [.vptr 1 0]), (7, .v false [.ro [.sc] (x42_1.map (rI .i64))]), (10, .v false [.lit (.int .i64 i92_0)]), (50, .v false [.ro [.ro [.sc]] (p0.slots.map (rL (rI .i64)))]), (51, .v false [.lit (.int .i64 (p0.slots.length : Int))]), (52, .v false [.lit (.int .i64 i42_0)])], [some ⟨[.sc], (List.map (rI .u8) l69_1)⟩], [some [.lit (.int .i64 p0.rate), .lit (.int .i64 p0.quality), .lit (.int .i64 p0.length), .ro [.ro [.sc]] (p0.slots.map (rL (rI .i64))), .ro [.ro [.sc]] (p0.grades.map (rL (rI .i64)))], some [.ref 0 [] 0 l69_1.length, .lit (.int .i64 i69_0)]]⟩
def K_impl_EncodeTones_76 : List Fr := [.lp [1, 3, 7, 10, 11, 12, 50, 51, 52] c_impl_EncodeTones_76, .bk 6, .sq (.kp [1, 3, 7, 10, 50, 51, 52] c_impl_EncodeTones_92), .bk 3, .sq (.kp [1, 3, 50, 51, 52] c_impl_EncodeTones_110), .lp [1, 3, 50, 51, 52] c_impl_EncodeTones_42, .bk 2, .sq (.kp [3] c_impl_EncodeTones_111)]
def s_impl_EncodeTones_76 (x42_1 : (List Int)) (p0 : S_Tones) (i42_0 : Int) (i69_0 : Int) (l69_1 : (List Int)) (i76_0 : Int) (i76_1 : Int) (i76_2 : Int) : St :=
  ⟨mkSl 114 [(1, .v false [.vptr 0 0]), (3, .v false [.vptr 1 0]), (7, .v false [.ro [.sc] (x42_1.map (rI .i64))]), (10, .v false [.lit (.int .i64 i76_0)]), (11, .v false [.lit (.int .i64 i76_1)]), (12, .v false [.lit (.int .i64 i76_2)]), (50, .v false [.ro [.ro [.sc]] (p0.slots.map (rL (rI .i64)))]), (51, .v false [.lit (.int .i64 (p0.slots.length : Int))]), (52, .v false [.lit (.int .i64 i42_0)])], [some ⟨[.sc], (List.map (rI .u8) l69_1)⟩], [some [.lit (.int .i64 p0.rate), .lit (.int .i64 p0.quality), .lit (.int .i64 p0.length), .ro [.ro [.sc]] (p0.slots.map (rL (rI .i64))), .ro [.ro [.sc]] (p0.grades.map (rL (rI .i64)))], some [.ref 0 [] 0 l69_1.length, .lit (.int .i64 i69_0)]]⟩
def K_impl_EncodeTones_69 : List Fr := [.bk 3, .sq (.kp [1, 3, 50, 51, 52] c_impl_EncodeTones_110), .lp [1, 3, 50, 51, 52] c_impl_EncodeTones_42, .bk 2, .sq (.kp [3] c_impl_EncodeTones_111)]
def s_impl_EncodeTones_69 (x42_1 : (List Int)) (p0 : S_Tones) (i42_0 : Int) (i69_0 : Int) (l69_1 : (List Int)) : St :=
  ⟨mkSl 114 [(1, .v false [.vptr 0 0]), (3, .v false [.vptr 1 0]), (7, .v false [.ro [.sc] (x42_1.map (rI .i64))]), (50, .v false [.ro [.ro [.sc]] (p0.slots.map (rL (rI .i64)))]), (51, .v false [.lit (.int .i64 (p0.slots.length : Int))]), (52, .v false [.lit (.int .i64 i42_0)])], [some ⟨[.sc], (List.map (rI .u8) l69_1)⟩], [some [.lit (.int .i64 p0.rate), .lit (.int .i64 p0.quality), .lit (.int .i64 p0.length), .ro [.ro [.sc]] (p0.slots.map (rL (rI .i64))), .ro [.ro [.sc]] (p0.grades.map (rL (rI .i64)))], some [.ref 0 [] 0 l69_1.length, .lit (.int .i64 i69_0)]]⟩
def K_impl_EncodeTones_57 : List Fr := [.lp [1, 3, 7, 50, 51, 52, 61, 62, 63] c_impl_EncodeTones_57, .bk 4, .sq (.kp [1, 3, 7, 50, 51, 52] c_impl_EncodeTones_69), .bk 3, .sq (.kp [1, 3, 50, 51, 52] c_impl_EncodeTones_110), .lp [1, 3, 50, 51, 52] c_impl_EncodeTones_42, .bk 2, .sq (.kp [3] c_impl_EncodeTones_111)]
def s_impl_EncodeTones_57 (x42_1 : (List Int)) (p0 : S_Tones) (i42_0 : Int) (x42_2 : (List Int)) (i57_0 : Int) (i57_1 : Int) (l57_2 : (List Int)) : St :=
  ⟨mkSl 114 [(1, .v false [.vptr 0 0]), (3, .v false [.vptr 1 0]), (7, .v false [.ro [.sc] (x42_1.map (rI .i64))]), (50, .v false [.ro [.ro [.sc]] (p0.slots.map (rL (rI .i64)))]), (51, .v false [.lit (.int .i64 (p0.slots.length : Int))]), (52, .v false [.lit (.int .i64 i42_0)]), (61, .v false [.ro [.sc] (x42_2.map (rI .i64))]), (62, .v false [.lit (.int .i64 (x42_2.length : Int))]), (63, .v false [.lit (.int .i64 i57_0)])], [some ⟨[.sc], (List.map (rI .u8) l57_2)⟩], [some [.lit (.int .i64 p0.rate), .lit (.int .i64 p0.quality), .lit (.int .i64 p0.length), .ro [.ro [.sc]] (p0.slots.map (rL (rI .i64))), .ro [.ro [.sc]] (p0.grades.map (rL (rI .i64)))], some [.ref 0 [] 0 l57_2.length, .lit (.int .i64 i57_1)]]⟩
def K_impl_EncodeTones_111 : List Fr := []
def s_impl_EncodeTones_111 (i111_0 : Int) (l111_1 : (List Int)) : St :=
  ⟨mkSl 114 [(3, .v false [.vptr 0 0])], [some ⟨[.sc], (List.map (rI .u8) l111_1)⟩], [some [.ref 0 [] 0 l111_1.length, .lit (.int .i64 i111_0)]]⟩
def K_impl_EncodeTones_42 : List Fr := [.lp [1, 3, 50, 51, 52] c_impl_EncodeTones_42, .bk 2, .sq (.kp [3] c_impl_EncodeTones_111)]
def s_impl_EncodeTones_42 (p0 : S_Tones) (i42_0 : Int) (i42_1 : Int) (l42_2 : (List Int)) : St :=
  ⟨mkSl 114 [(1, .v false [.vptr 0 0]), (3, .v false [.vptr 1 0]), (50, .v false [.ro [.ro [.sc]] (p0.slots.map (rL (rI .i64)))]), (51, .v false [.lit (.int .i64 (p0.slots.length : Int))]), (52, .v false [.lit (.int .i64 i42_0)])], [some ⟨[.sc], (List.map (rI .u8) l42_2)⟩], [some [.lit (.int .i64 p0.rate), .lit (.int .i64 p0.quality), .lit (.int .i64 p0.length), .ro [.ro [.sc]] (p0.slots.map (rL (rI .i64))), .ro [.ro [.sc]] (p0.grades.map (rL (rI .i64)))], some [.ref 0 [] 0 l42_2.length, .lit (.int .i64 i42_1)]]⟩
def K_impl_EncodeTones_29 : List Fr := []
def s_impl_EncodeTones_29 (p0 : S_Tones) (i29_0 : Int) (l29_1 : (List Int)) : St :=
  ⟨mkSl 114 [(1, .v false [.vptr 0 0]), (3, .v false [.vptr 1 0])], [some ⟨[.sc], (List.map (rI .u8) l29_1)⟩], [some [.lit (.int .i64 p0.rate), .lit (.int .i64 p0.quality), .lit (.int .i64 p0.length), .ro [.ro [.sc]] (p0.slots.map (rL (rI .i64))), .ro [.ro [.sc]] (p0.grades.map (rL (rI .i64)))], some [.ref 0 [] 0 l29_1.length, .lit (.int .i64 i29_0)]]⟩
def K_impl_EncodeTones_17 : List Fr := [.lp [1, 3, 21, 22, 23] c_impl_EncodeTones_17, .bk 0, .sq (.kp [1, 3] c_impl_EncodeTones_29)]
def s_impl_EncodeTones_17 (p0 : S_Tones) (i17_0 : Int) (i17_1 : Int) (l17_2 : (List Int)) (l17_3 : (List Int)) : St :=
  ⟨mkSl 114 [(1, .v false [.vptr 0 0]), (3, .v false [.vptr 1 0]), (21, .v false [.ref 0 [] 0 l17_2.length]), (22, .v false [.lit (.int .i64 4)]), (23, .v false [.lit (.int .i64 i17_0)])], [some ⟨[.sc], (List.map (rI .u8) l17_2)⟩, some ⟨[.sc], (List.map (rI .u8) l17_3)⟩], [some [.lit (.int .i64 p0.rate), .lit (.int .i64 p0.quality), .lit (.int .i64 p0.length), .ro [.ro [.sc]] (p0.slots.map (rL (rI .i64))), .ro [.ro [.sc]] (p0.grades.map (rL (rI .i64)))], some [.ref 1 [] 0 l17_3.length, .lit (.int .i64 i17_1)]]⟩
def K_impl_EncodeTones_0 : List Fr := []
def s_impl_EncodeTones_0 (p0 : S_Tones) : St :=
  ⟨mkSl 114 [(0, .v true [.lit (.int .i64 p0.rate), .lit (.int .i64 p0.quality), .lit (.int .i64 p0.length), .ro [.ro [.sc]] (p0.slots.map (rL (rI .i64))), .ro [.ro [.sc]] (p0.grades.map (rL (rI .i64)))])], [], []⟩
def K_laws_eqByteS_31 : List Fr := []
def s_laws_eqByteS_31 : St :=
  ⟨mkSl 26 [], [], []⟩
def K_laws_eqByteS_15 : List Fr := [.lp [0, 1, 5] c_laws_eqByteS_15, .bk 0, .sq (.kp [] c_laws_eqByteS_31)]
def s_laws_eqByteS_15 (p0 : (List Int)) (p1 : (List Int)) (i15_0 : Int) : St :=
  ⟨mkSl 26 [(0, .v false [.ro [.sc] (p0.map (rI .u8))]), (1, .v false [.ro [.sc] (p1.map (rI .u8))]), (5, .v false [.lit (.int .i64 i15_0)])], [], []⟩
def K_laws_eqByteS_0 : List Fr := []
def s_laws_eqByteS_0 (p0 : (List Int)) (p1 : (List Int)) : St :=
  ⟨mkSl 26 [(0, .v false [.ro [.sc] (p0.map (rI .u8))]), (1, .v false [.ro [.sc] (p1.map (rI .u8))])], [], []⟩
def K_laws_eqIntS_31 : List Fr := []
def s_laws_eqIntS_31 : St :=
  ⟨mkSl 26 [], [], []⟩
def K_laws_eqIntS_15 : List Fr := [.lp [0, 1, 5] c_laws_eqIntS_15, .bk 0, .sq (.kp [] c_laws_eqIntS_31)]
def s_laws_eqIntS_15 (p0 : (List Int)) (p1 : (List Int)) (i15_0 : Int) : St :=
  ⟨mkSl 26 [(0, .v false [.ro [.sc] (p0.map (rI .i64))]), (1, .v false [.ro [.sc] (p1.map (rI .i64))]), (5, .v false [.lit (.int .i64 i15_0)])], [], []⟩
def K_laws_eqIntS_0 : List Fr := []
def s_laws_eqIntS_0 (p0 : (List Int)) (p1 : (List Int)) : St :=
  ⟨mkSl 26 [(0, .v false [.ro [.sc] (p0.map (rI .i64))]), (1, .v false [.ro [.sc] (p1.map (rI .i64))])], [], []⟩
def K_laws_eqIntSS_31 : List Fr := []
def s_laws_eqIntSS_31 : St :=
  ⟨mkSl 27 [], [], []⟩
def K_laws_eqIntSS_15 : List Fr := [.lp [0, 1, 5] c_laws_eqIntSS_15, .bk 0, .sq (.kp [] c_laws_eqIntSS_31)]
def s_laws_eqIntSS_15 (p0 : (List (List Int))) (p1 : (List (List Int))) (i15_0 : Int) : St :=
  ⟨mkSl 27 [(0, .v false [.ro [.ro [.sc]] (p0.map (rL (rI .i64)))]), (1, .v false [.ro [.ro [.sc]] (p1.map (rL (rI .i64)))]), (5, .v false [.lit (.int .i64 i15_0)])], [], []⟩
def K_laws_eqIntSS_0 : List Fr := []
def s_laws_eqIntSS_0 (p0 : (List (List Int))) (p1 : (List (List Int))) : St :=
  ⟨mkSl 27 [(0, .v false [.ro [.ro [.sc]] (p0.map (rL (rI .i64)))]), (1, .v false [.ro [.ro [.sc]] (p1.map (rL (rI .i64)))])], [], []⟩
def K_laws_eqTones_0 : List Fr := []
def s_laws_eqTones_0 (p0 : S_Tones) (p1 : S_Tones) : St :=
  ⟨mkSl 32 [(0, .v true [.lit (.int .i64 p0.rate), .lit (.int .i64 p0.quality), .lit (.int .i64 p0.length), .ro [.ro [.sc]] (p0.slots.map (rL (rI .i64))), .ro [.ro [.sc]] (p0.grades.map (rL (rI .i64)))]), (1, .v true [.lit (.int .i64 p1.rate), .lit (.int .i64 p1.quality), .lit (.int .i64 p1.length), .ro [.ro [.sc]] (p1.slots.map (rL (rI .i64))), .ro [.ro [.sc]] (p1.grades.map (rL (rI .i64)))])], [], []⟩
def K_laws_markIntS_19 : List Fr := []
def s_laws_markIntS_19 (i19_0 : Int) (l19_1 : (List Int)) : St :=
  ⟨mkSl 19 [(0, .v false [.ref 0 [] 0 l19_1.length]), (1, .v false [.lit (.int .i64 i19_0)])], [some ⟨[.sc], (List.map (rI .i64) l19_1)⟩], []⟩
def K_laws_markIntS_7 : List Fr := [.lp [0, 1, 5] c_laws_markIntS_7, .bk 0, .sq (.kp [0, 1] c_laws_markIntS_19)]
def s_laws_markIntS_7 (i7_0 : Int) (i7_1 : Int) (l7_2 : (List Int)) : St :=
  ⟨mkSl 19 [(0, .v false [.ref 0 [] 0 l7_2.length]), (1, .v false [.lit (.int .i64 i7_0)]), (5, .v false [.lit (.int .i64 i7_1)])], [some ⟨[.sc], (List.map (rI .i64) l7_2)⟩], []⟩
def K_laws_markIntS_0 : List Fr := []
def s_laws_markIntS_0 (p1 : Int) (p0 : (List Int)) : St :=
  ⟨mkSl 19 [(0, .v false [.ref 0 [] 0 p0.length]), (1, .v false [.lit (.int .i64 p1)])], [some ⟨[.sc], (List.map (rI .i64) p0)⟩], []⟩
def K_laws_markIntSS_17 : List Fr := []
def s_laws_markIntSS_17 (i17_0 : Int) (l17_1 : (List (List Int))) : St :=
  ⟨mkSl 19 [(0, .v false [.ref 0 [] 0 l17_1.length]), (1, .v false [.lit (.int .i64 i17_0)])], [some ⟨[.own [.sc]], (List.map (rL (rI .i64)) l17_1)⟩], []⟩
def K_laws_markIntSS_7 : List Fr := [.lp [0, 1, 5] c_laws_markIntSS_7, .bk 0, .sq (.kp [0, 1] c_laws_markIntSS_17)]
def s_laws_markIntSS_7 (i7_0 : Int) (i7_1 : Int) (l7_2 : (List (List Int))) : St :=
  ⟨mkSl 19 [(0, .v false [.ref 0 [] 0 l7_2.length]), (1, .v false [.lit (.int .i64 i7_0)]), (5, .v false [.lit (.int .i64 i7_1)])], [some ⟨[.own [.sc]], (List.map (rL (rI .i64)) l7_2)⟩], []⟩
def K_laws_markIntSS_0 : List Fr := []
def s_laws_markIntSS_0 (p1 : Int) (p0 : (List (List Int))) : St :=
  ⟨mkSl 19 [(0, .v false [.ref 0 [] 0 p0.length]), (1, .v false [.lit (.int .i64 p1)])], [some ⟨[.own [.sc]], (List.map (rL (rI .i64)) p0)⟩], []⟩
def K_laws_markTones_0 : List Fr := []
def s_laws_markTones_0 (p0 : S_Tones) (p1 : Int) : St :=
  ⟨mkSl 14 [(0, .v true [.lit (.int .i64 p0.rate), .lit (.int .i64 p0.quality), .lit (.int .i64 p0.length), .ref 0 [] 0 p0.slots.length, .ref 1 [] 0 p0.grades.length]), (1, .v false [.lit (.int .i64 p1)])], [some ⟨[.own [.sc]], (List.map (rL (rI .i64)) p0.slots)⟩, some ⟨[.own [.sc]], (List.map (rL (rI .i64)) p0.grades)⟩], []⟩
def K_laws_markByteS_19 : List Fr := []
def s_laws_markByteS_19 (i19_0 : Int) (l19_1 : (List Int)) : St :=
  ⟨mkSl 20 [(0, .v false [.ref 0 [] 0 l19_1.length]), (1, .v false [.lit (.int .i64 i19_0)])], [some ⟨[.sc], (List.map (rI .u8) l19_1)⟩], []⟩
def K_laws_markByteS_7 : List Fr := [.lp [0, 1, 5] c_laws_markByteS_7, .bk 0, .sq (.kp [0, 1] c_laws_markByteS_19)]
def s_laws_markByteS_7 (i7_0 : Int) (i7_1 : Int) (l7_2 : (List Int)) : St :=
  ⟨mkSl 20 [(0, .v false [.ref 0 [] 0 l7_2.length]), (1, .v false [.lit (.int .i64 i7_0)]), (5, .v false [.lit (.int .i64 i7_1)])], [some ⟨[.sc], (List.map (rI .u8) l7_2)⟩], []⟩
def K_laws_markByteS_0 : List Fr := []
def s_laws_markByteS_0 (p1 : Int) (p0 : (List Int)) : St :=
  ⟨mkSl 20 [(0, .v false [.ref 0 [] 0 p0.length]), (1, .v false [.lit (.int .i64 p1)])], [some ⟨[.sc], (List.map (rI .u8) p0)⟩], []⟩
def K_laws_heldByteS_25 : List Fr := []
def s_laws_heldByteS_25 (i25_0 : Int) : St :=
  ⟨mkSl 22 [(1, .v false [.lit (.int .i64 i25_0)])], [], []⟩
def K_laws_heldByteS_7 : List Fr := [.lp [0, 1, 5] c_laws_heldByteS_7, .bk 0, .sq (.kp [1] c_laws_heldByteS_25)]
def s_laws_heldByteS_7 (p0 : (List Int)) (i7_0 : Int) (i7_1 : Int) : St :=
  ⟨mkSl 22 [(0, .v false [.ro [.sc] (p0.map (rI .u8))]), (1, .v false [.lit (.int .i64 i7_0)]), (5, .v false [.lit (.int .i64 i7_1)])], [], []⟩
def K_laws_heldByteS_0 : List Fr := []
def s_laws_heldByteS_0 (p0 : (List Int)) (p1 : Int) : St :=
  ⟨mkSl 22 [(0, .v false [.ro [.sc] (p0.map (rI .u8))]), (1, .v false [.lit (.int .i64 p1)])], [], []⟩
def K_laws_FnExactEncodeTones_0 : List Fr := []
def s_laws_FnExactEncodeTones_0 (p0 : S_Tones) : St :=
  ⟨mkSl 69 [(0, .v true [.lit (.int .i64 p0.rate), .lit (.int .i64 p0.quality), .lit (.int .i64 p0.length), .ro [.ro [.sc]] (p0.slots.map (rL (rI .i64))), .ro [.ro [.sc]] (p0.grades.map (rL (rI .i64)))])], [], []⟩
theorem ok_laws_szIntS_0 (p0 : (List Int)) (p1 : Int) (r : Int) (hm : m_laws_szIntS_0 p0 p1 = some r) : EvU ext tbl (.c c_laws_szIntS_0) K_laws_szIntS_0 (s_laws_szIntS_0 p0 p1) (Post vf_laws_szIntS (res_laws_szIntS r)) := by
  obtain ⟨h0_0, hm⟩ | ⟨h0_0, hm⟩ := split_ite hm
  · skip
    exact go_end [.num p0.length, .bit true] 1000 (And.intro (len_map (rI .i64) (show p0.length = p0.length from rfl)) (And.intro h0_0 True.intro)) (congrArg res_laws_szIntS (Option.some.inj hm)) (by kernel_rfl)
  · skip
    exact go_end [.num p0.length, .bit false] 1000 (And.intro (len_map (rI .i64) (show p0.length = p0.length from rfl)) (And.intro h0_0 True.intro)) (congrArg res_laws_szIntS (Option.some.inj hm)) (by kernel_rfl)

theorem ok_laws_szIntS (p0 : (List Int)) (p1 : Int) (r : Int) (hm : m_laws_szIntS p0 p1 = some r) : Runs ext tbl 95 (as_laws_szIntS p0 p1) (res_laws_szIntS r) :=
  runs_of (vf := vf_laws_szIntS) (by kernel_rfl) rfl (st := (enter vf_laws_szIntS (as_laws_szIntS p0 p1)).getD default) (by kernel_rfl) (go_on [] 1000 True.intro (ok_laws_szIntS_0 p0 p1 r hm) (by kernel_rfl))
def O_laws_szIntSS_17 (Q : VX → St → Prop) (e : (Int) ⊕ ((Int))) : Prop := match e with | .inl e => Q = Post vf_laws_szIntSS (res_laws_szIntSS e) | .inr e => EvU ext tbl (.c c_laws_szIntSS_35) K_laws_szIntSS_35 (s_laws_szIntSS_35 e) Q
theorem ok_laws_szIntSS_35 (i35_0 : Int) (r : Int) (hm : m_laws_szIntSS_35 i35_0 = some r) : EvU ext tbl (.c c_laws_szIntSS_35) K_laws_szIntSS_35 (s_laws_szIntSS_35 i35_0) (Post vf_laws_szIntSS (res_laws_szIntSS r)) := by
  exact go_end [] 1000 True.intro (congrArg res_laws_szIntSS (Option.some.inj hm)) (by kernel_rfl)

theorem ok_laws_szIntSS_17 (p0 : (List (List Int))) (i17_0 : Int) (i17_1 : Int) (y : (Int × Int) ⊕ ((Int) ⊕ ((Int)))) (hm : m_laws_szIntSS_17 p0 i17_0 i17_1 = some y) (Q : VX → St → Prop)
    (hin : ∀ s, y = .inl s → EvU ext tbl (.c c_laws_szIntSS_17) K_laws_szIntSS_17 (s_laws_szIntSS_17 p0 s.1 s.2) Q) (hout : ∀ e, y = .inr e → O_laws_szIntSS_17 Q e) : EvU ext tbl (.c c_laws_szIntSS_17) K_laws_szIntSS_17 (s_laws_szIntSS_17 p0 i17_0 i17_1) Q := by
  obtain ⟨h17_0, hm⟩ | ⟨h17_0, hm⟩ := split_ite hm
  · skip
    obtain ⟨x17_1, h17_1, hm⟩ := bind_some hm
    obtain ⟨x17_2, h17_2, hm⟩ := bind_some hm
    obtain ⟨h17_3, hm⟩ | ⟨h17_3, hm⟩ := split_ite hm
    · skip
      have hQ : Q = Post vf_laws_szIntSS (res_laws_szIntSS (-1)) := hout (.inl (-1)) (Option.some.inj hm).symm
      subst hQ
      exact go_end [.num p0.length, .bit true, .row ((rL (rI .i64)) x17_1), .res (res_laws_szIntS x17_2), .bit true] 1000 (And.intro (len_map (rL (rI .i64)) (show p0.length = p0.length from rfl)) (And.intro h17_0 (And.intro (rd_nn h17_1) (And.intro (at_row (rL (rI .i64)) (rd_get h17_1)) (And.intro (ok_laws_szIntS x17_1 i17_0 x17_2 h17_2) (And.intro h17_3 True.intro)))))) (rfl : res_laws_szIntSS (-1) = res_laws_szIntSS (-1)) (by kernel_rfl)
    · skip
      refine go_on (u' := .c c_laws_szIntSS_17) (K' := K_laws_szIntSS_17) (st' := s_laws_szIntSS_17 p0 x17_2 (w64 (i17_1 + 1))) [.num p0.length, .bit true, .row ((rL (rI .i64)) x17_1), .res (res_laws_szIntS x17_2), .bit false] 1000 (And.intro (len_map (rL (rI .i64)) (show p0.length = p0.length from rfl)) (And.intro h17_0 (And.intro (rd_nn h17_1) (And.intro (at_row (rL (rI .i64)) (rd_get h17_1)) (And.intro (ok_laws_szIntS x17_1 i17_0 x17_2 h17_2) (And.intro h17_3 True.intro)))))) ?_ (by kernel_rfl)
      exact hin (x17_2, (w64 (i17_1 + 1))) (Option.some.inj hm).symm
  · skip
    refine go_on (u' := .c c_laws_szIntSS_35) (K' := K_laws_szIntSS_35) (st' := s_laws_szIntSS_35 i17_0) [.num p0.length, .bit false] 1000 (And.intro (len_map (rL (rI .i64)) (show p0.length = p0.length from rfl)) (And.intro h17_0 True.intro)) ?_ (by kernel_rfl)
    exact hout (.inr i17_0) (Option.some.inj hm).symm

theorem ok_laws_szIntSS_0 (p0 : (List (List Int))) (p1 : Int) (r : Int) (hm : m_laws_szIntSS_0 p0 p1 = some r) : EvU ext tbl (.c c_laws_szIntSS_0) K_laws_szIntSS_0 (s_laws_szIntSS_0 p0 p1) (Post vf_laws_szIntSS (res_laws_szIntSS r)) := by
  obtain ⟨h0_0, hm⟩ | ⟨h0_0, hm⟩ := split_ite hm
  · skip
    exact go_end [.num p0.length, .bit true] 1000 (And.intro (len_map (rL (rI .i64)) (show p0.length = p0.length from rfl)) (And.intro h0_0 True.intro)) (congrArg res_laws_szIntSS (Option.some.inj hm)) (by kernel_rfl)
  · skip
    refine go_on (u' := .c c_laws_szIntSS_17) (K' := K_laws_szIntSS_17) (st' := s_laws_szIntSS_17 p0 (w64 (p1 - (p0.length : Int))) 0) [.num p0.length, .bit false] 1000 (And.intro (len_map (rL (rI .i64)) (show p0.length = p0.length from rfl)) (And.intro h0_0 True.intro)) ?_ (by kernel_rfl)
    obtain ⟨e, he, hm⟩ := bind_some hm
    refine loop_rule (u := .c c_laws_szIntSS_17) (K := K_laws_szIntSS_17) (Q := (Post vf_laws_szIntSS (res_laws_szIntSS r))) (b := lp_laws_szIntSS_17 p0) (We := O_laws_szIntSS_17 (Post vf_laws_szIntSS (res_laws_szIntSS r))) (stJ := fun s => s_laws_szIntSS_17 p0 s.1 s.2) (s := ((w64 (p1 - (p0.length : Int))), 0)) (fun s y hb hin hout => ok_laws_szIntSS_17 p0 s.1 s.2 y hb (Post vf_laws_szIntSS (res_laws_szIntSS r)) hin hout) he ?_
    rcases e with e | e
    · skip
      exact congrArg (fun r => Post vf_laws_szIntSS (res_laws_szIntSS r)) (Option.some.inj hm).symm
    · skip
      show EvU ext tbl (.c c_laws_szIntSS_35) K_laws_szIntSS_35 (s_laws_szIntSS_35 e) _
      exact ok_laws_szIntSS_35 e r hm

theorem ok_laws_szIntSS (p0 : (List (List Int))) (p1 : Int) (r : Int) (hm : m_laws_szIntSS p0 p1 = some r) : Runs ext tbl 71 (as_laws_szIntSS p0 p1) (res_laws_szIntSS r) :=
  runs_of (vf := vf_laws_szIntSS) (by kernel_rfl) rfl (st := (enter vf_laws_szIntSS (as_laws_szIntSS p0 p1)).getD default) (by kernel_rfl) (go_on [] 1000 True.intro (ok_laws_szIntSS_0 p0 p1 r hm) (by kernel_rfl))
theorem ok_laws_szTones_0 (p0 : S_Tones) (p1 : Int) (r : Int) (hm : m_laws_szTones_0 p0 p1 = some r) : EvU ext tbl (.c c_laws_szTones_0) K_laws_szTones_0 (s_laws_szTones_0 p0 p1) (Post vf_laws_szTones (res_laws_szTones r)) := by
  obtain ⟨x0_0, h0_0, hm⟩ := bind_some hm
  obtain ⟨h0_1, hm⟩ | ⟨h0_1, hm⟩ := split_ite hm
  · skip
    exact go_end [.res (res_laws_szIntSS x0_0), .bit true] 1000 (And.intro (ok_laws_szIntSS p0.slots p1 x0_0 h0_0) (And.intro h0_1 True.intro)) (congrArg res_laws_szTones (Option.some.inj hm)) (by kernel_rfl)
  · skip
    obtain ⟨x0_2, h0_2, hm⟩ := bind_some hm
    obtain ⟨h0_3, hm⟩ | ⟨h0_3, hm⟩ := split_ite hm
    · skip
      exact go_end [.res (res_laws_szIntSS x0_0), .bit false, .res (res_laws_szIntSS x0_2), .bit true] 1000 (And.intro (ok_laws_szIntSS p0.slots p1 x0_0 h0_0) (And.intro h0_1 (And.intro (ok_laws_szIntSS p0.grades x0_0 x0_2 h0_2) (And.intro h0_3 True.intro)))) (congrArg res_laws_szTones (Option.some.inj hm)) (by kernel_rfl)
    · skip
      exact go_end [.res (res_laws_szIntSS x0_0), .bit false, .res (res_laws_szIntSS x0_2), .bit false] 1000 (And.intro (ok_laws_szIntSS p0.slots p1 x0_0 h0_0) (And.intro h0_1 (And.intro (ok_laws_szIntSS p0.grades x0_0 x0_2 h0_2) (And.intro h0_3 True.intro)))) (congrArg res_laws_szTones (Option.some.inj hm)) (by kernel_rfl)

theorem ok_laws_szTones (p0 : S_Tones) (p1 : Int) (r : Int) (hm : m_laws_szTones p0 p1 = some r) : Runs ext tbl 12 (as_laws_szTones p0 p1) (res_laws_szTones r) :=
  runs_of (vf := vf_laws_szTones) (by kernel_rfl) rfl (st := (enter vf_laws_szTones (as_laws_szTones p0 p1)).getD default) (by kernel_rfl) (go_on [] 1000 True.intro (ok_laws_szTones_0 p0 p1 r hm) (by kernel_rfl))
def O_laws_toIntS_9 (Q : VX → St → Prop) (e : ((List Int))) : Prop := EvU ext tbl (.c c_laws_toIntS_19) K_laws_toIntS_19 (s_laws_toIntS_19 e) Q
theorem ok_laws_toIntS_19 (l19_0 : (List Int)) (r : (List Int)) (hm : m_laws_toIntS_19 l19_0 = some r) : EvU ext tbl (.c c_laws_toIntS_19) K_laws_toIntS_19 (s_laws_toIntS_19 l19_0) (Post vf_laws_toIntS (res_laws_toIntS r)) := by
  exact go_end [.rows (List.map (rI .i64) l19_0)] 1000 (And.intro (all_le0 (rI .i64) l19_0 rfl) (And.intro (all_t (rI .i64) l19_0 rfl) True.intro)) (congrArg res_laws_toIntS (Option.some.inj hm)) (by kernel_rfl)

theorem ok_laws_toIntS_9 (p0 : (List Int)) (i9_0 : Int) (l9_1 : (List Int)) (y : (Int × (List Int)) ⊕ (((List Int)))) (hm : m_laws_toIntS_9 p0 i9_0 l9_1 = some y) (Q : VX → St → Prop)
    (hin : ∀ s, y = .inl s → EvU ext tbl (.c c_laws_toIntS_9) K_laws_toIntS_9 (s_laws_toIntS_9 p0 s.1 s.2) Q) (hout : ∀ e, y = .inr e → O_laws_toIntS_9 Q e) : EvU ext tbl (.c c_laws_toIntS_9) K_laws_toIntS_9 (s_laws_toIntS_9 p0 i9_0 l9_1) Q := by
  obtain ⟨h9_0, hm⟩ | ⟨h9_0, hm⟩ := split_ite hm
  · skip
    obtain ⟨x9_1, h9_1, hm⟩ := bind_some hm
    obtain ⟨x9_2, h9_2, hm⟩ := bind_some hm
    refine go_on (u' := .c c_laws_toIntS_9) (K' := K_laws_toIntS_9) (st' := s_laws_toIntS_9 p0 (w64 (i9_0 + 1)) (l9_1.set (0 + Int.toNat i9_0) x9_1)) [.num p0.length, .bit true, .row ((rI .i64) x9_1), .rows (List.map (rI .i64) (l9_1.set (0 + Int.toNat i9_0) x9_1)), .num ((l9_1.set (0 + Int.toNat i9_0) x9_1).length)] 1000 (And.intro (len_map (rI .i64) (show p0.length = p0.length from rfl)) (And.intro h9_0 (And.intro (rd_nn h9_1) (And.intro (at_row (rI .i64) (rd_get h9_1)) (And.intro (rd_in rfl h9_2) (And.intro (put_ob (rI .i64) x9_1 0 (.lit (.int .i64 x9_1)) (rd_get0 h9_2) (by kernel_rfl) (by kernel_rfl)) (And.intro (lens l9_1.length ((l9_1.set (0 + Int.toNat i9_0) x9_1).length) (set_len rfl)) True.intro))))))) ?_ (by kernel_rfl)
    exact hin ((w64 (i9_0 + 1)), (l9_1.set (0 + Int.toNat i9_0) x9_1)) (Option.some.inj hm).symm
  · skip
    refine go_on (u' := .c c_laws_toIntS_19) (K' := K_laws_toIntS_19) (st' := s_laws_toIntS_19 l9_1) [.num p0.length, .bit false, .num l9_1.length] 1000 (And.intro (len_map (rI .i64) (show p0.length = p0.length from rfl)) (And.intro h9_0 (And.intro (lens l9_1.length l9_1.length rfl) True.intro))) ?_ (by kernel_rfl)
    exact hout l9_1 (Option.some.inj hm).symm

theorem ok_laws_toIntS_0 (p0 : (List Int)) (r : (List Int)) (hm : m_laws_toIntS_0 p0 = some r) : EvU ext tbl (.c c_laws_toIntS_0) K_laws_toIntS_0 (s_laws_toIntS_0 p0) (Post vf_laws_toIntS (res_laws_toIntS r)) := by
  obtain ⟨x0_0, h0_0, hm⟩ := bind_some hm
  refine go_on (u' := .c c_laws_toIntS_9) (K' := K_laws_toIntS_9) (st' := s_laws_toIntS_9 p0 0 (List.replicate (Int.toNat (p0.length : Int)) (0 : Int))) [.num p0.length, .rows (List.map (rI .i64) (List.replicate (Int.toNat (p0.length : Int)) (0 : Int))), .num (Int.toNat (p0.length : Int)), .num ((List.replicate (Int.toNat (p0.length : Int)) (0 : Int)).length)] 1000 (And.intro (len_map (rI .i64) (show p0.length = p0.length from rfl)) (And.intro (ck_p h0_0) (And.intro (rep_ob (rI .i64) (Int.toNat (p0.length : Int)) (0 : Int) [.lit (.int .i64 0)] (by kernel_rfl)) (And.intro (len_map (rI .i64) (show (Int.toNat (p0.length : Int)) = (List.replicate (Int.toNat (p0.length : Int)) (0 : Int)).length from (rep_len (Int.toNat (p0.length : Int)) (0 : Int)))) (And.intro (lens (Int.toNat (p0.length : Int)) ((List.replicate (Int.toNat (p0.length : Int)) (0 : Int)).length) (rep_len (Int.toNat (p0.length : Int)) (0 : Int))) True.intro))))) ?_ (by kernel_rfl)
  obtain ⟨e, he, hm⟩ := bind_some hm
  refine loop_rule (u := .c c_laws_toIntS_9) (K := K_laws_toIntS_9) (Q := (Post vf_laws_toIntS (res_laws_toIntS r))) (b := lp_laws_toIntS_9 p0) (We := O_laws_toIntS_9 (Post vf_laws_toIntS (res_laws_toIntS r))) (stJ := fun s => s_laws_toIntS_9 p0 s.1 s.2) (s := (0, (List.replicate (Int.toNat (p0.length : Int)) (0 : Int)))) (fun s y hb hin hout => ok_laws_toIntS_9 p0 s.1 s.2 y hb (Post vf_laws_toIntS (res_laws_toIntS r)) hin hout) he ?_
  show EvU ext tbl (.c c_laws_toIntS_19) K_laws_toIntS_19 (s_laws_toIntS_19 e) _
  exact ok_laws_toIntS_19 e r hm

theorem ok_laws_toIntS (p0 : (List Int)) (r : (List Int)) (hm : m_laws_toIntS p0 = some r) : Runs ext tbl 60 (as_laws_toIntS p0) (res_laws_toIntS r) :=
  runs_of (vf := vf_laws_toIntS) (by kernel_rfl) rfl (st := (enter vf_laws_toIntS (as_laws_toIntS p0)).getD default) (by kernel_rfl) (go_on [] 1000 True.intro (ok_laws_toIntS_0 p0 r hm) (by kernel_rfl))
def O_laws_toIntSS_9 (Q : VX → St → Prop) (e : ((List (List Int)))) : Prop := EvU ext tbl (.c c_laws_toIntSS_19) K_laws_toIntSS_19 (s_laws_toIntSS_19 e) Q
theorem ok_laws_toIntSS_19 (l19_0 : (List (List Int))) (r : (List (List Int))) (hm : m_laws_toIntSS_19 l19_0 = some r) : EvU ext tbl (.c c_laws_toIntSS_19) K_laws_toIntSS_19 (s_laws_toIntSS_19 l19_0) (Post vf_laws_toIntSS (res_laws_toIntSS r)) := by
  exact go_end [.rows (List.map (rL (rI .i64)) l19_0)] 1000 (And.intro (all_le0 (rL (rI .i64)) l19_0 rfl) (And.intro (all_t (rL (rI .i64)) l19_0 rfl) True.intro)) (congrArg res_laws_toIntSS (Option.some.inj hm)) (by kernel_rfl)

theorem ok_laws_toIntSS_9 (p0 : (List (List Int))) (i9_0 : Int) (l9_1 : (List (List Int))) (y : (Int × (List (List Int))) ⊕ (((List (List Int))))) (hm : m_laws_toIntSS_9 p0 i9_0 l9_1 = some y) (Q : VX → St → Prop)
    (hin : ∀ s, y = .inl s → EvU ext tbl (.c c_laws_toIntSS_9) K_laws_toIntSS_9 (s_laws_toIntSS_9 p0 s.1 s.2) Q) (hout : ∀ e, y = .inr e → O_laws_toIntSS_9 Q e) : EvU ext tbl (.c c_laws_toIntSS_9) K_laws_toIntSS_9 (s_laws_toIntSS_9 p0 i9_0 l9_1) Q := by
  obtain ⟨h9_0, hm⟩ | ⟨h9_0, hm⟩ := split_ite hm
  · skip
    obtain ⟨x9_1, h9_1, hm⟩ := bind_some hm
    obtain ⟨x9_2, h9_2, hm⟩ := bind_some hm
    obtain ⟨x9_3, h9_3, hm⟩ := bind_some hm
    refine go_on (u' := .c c_laws_toIntSS_9) (K' := K_laws_toIntSS_9) (st' := s_laws_toIntSS_9 p0 (w64 (i9_0 + 1)) (l9_1.set (0 + Int.toNat i9_0) x9_2)) [.num p0.length, .bit true, .row ((rL (rI .i64)) x9_1), .res (res_laws_toIntS x9_2), .num x9_2.length, .rows (List.map (rI .i64) x9_2), .rows (List.map (rL (rI .i64)) (l9_1.set (0 + Int.toNat i9_0) x9_2)), .num ((l9_1.set (0 + Int.toNat i9_0) x9_2).length)] 1000 (And.intro (len_map (rL (rI .i64)) (show p0.length = p0.length from rfl)) (And.intro h9_0 (And.intro (rd_nn h9_1) (And.intro (at_row (rL (rI .i64)) (rd_get h9_1)) (And.intro (ok_laws_toIntS x9_1 x9_2 h9_2) (And.intro (len_map (rI .i64) (show x9_2.length = x9_2.length from rfl)) (And.intro (rd_in rfl h9_3) (And.intro (all_le0 (rI .i64) x9_2 rfl) (And.intro (all_t (rI .i64) x9_2 rfl) (And.intro (put_ob (rL (rI .i64)) x9_2 0 (.sl (x9_2.map (rI .i64))) (rd_get0 h9_3) (by kernel_rfl) (by kernel_rfl)) (And.intro (lens l9_1.length ((l9_1.set (0 + Int.toNat i9_0) x9_2).length) (set_len rfl)) True.intro))))))))))) ?_ (by kernel_rfl)
    exact hin ((w64 (i9_0 + 1)), (l9_1.set (0 + Int.toNat i9_0) x9_2)) (Option.some.inj hm).symm
  · skip
    refine go_on (u' := .c c_laws_toIntSS_19) (K' := K_laws_toIntSS_19) (st' := s_laws_toIntSS_19 l9_1) [.num p0.length, .bit false, .num l9_1.length] 1000 (And.intro (len_map (rL (rI .i64)) (show p0.length = p0.length from rfl)) (And.intro h9_0 (And.intro (lens l9_1.length l9_1.length rfl) True.intro))) ?_ (by kernel_rfl)
    exact hout l9_1 (Option.some.inj hm).symm

theorem ok_laws_toIntSS_0 (p0 : (List (List Int))) (r : (List (List Int))) (hm : m_laws_toIntSS_0 p0 = some r) : EvU ext tbl (.c c_laws_toIntSS_0) K_laws_toIntSS_0 (s_laws_toIntSS_0 p0) (Post vf_laws_toIntSS (res_laws_toIntSS r)) := by
  obtain ⟨x0_0, h0_0, hm⟩ := bind_some hm
  refine go_on (u' := .c c_laws_toIntSS_9) (K' := K_laws_toIntSS_9) (st' := s_laws_toIntSS_9 p0 0 (List.replicate (Int.toNat (p0.length : Int)) ([] : (List Int)))) [.num p0.length, .rows (List.map (rL (rI .i64)) (List.replicate (Int.toNat (p0.length : Int)) ([] : (List Int)))), .num (Int.toNat (p0.length : Int)), .num ((List.replicate (Int.toNat (p0.length : Int)) ([] : (List Int))).length)] 1000 (And.intro (len_map (rL (rI .i64)) (show p0.length = p0.length from rfl)) (And.intro (ck_p h0_0) (And.intro (rep_ob (rL (rI .i64)) (Int.toNat (p0.length : Int)) ([] : (List Int)) [.sl []] (by kernel_rfl)) (And.intro (len_map (rL (rI .i64)) (show (Int.toNat (p0.length : Int)) = (List.replicate (Int.toNat (p0.length : Int)) ([] : (List Int))).length from (rep_len (Int.toNat (p0.length : Int)) ([] : (List Int))))) (And.intro (lens (Int.toNat (p0.length : Int)) ((List.replicate (Int.toNat (p0.length : Int)) ([] : (List Int))).length) (rep_len (Int.toNat (p0.length : Int)) ([] : (List Int)))) True.intro))))) ?_ (by kernel_rfl)
  obtain ⟨e, he, hm⟩ := bind_some hm
  refine loop_rule (u := .c c_laws_toIntSS_9) (K := K_laws_toIntSS_9) (Q := (Post vf_laws_toIntSS (res_laws_toIntSS r))) (b := lp_laws_toIntSS_9 p0) (We := O_laws_toIntSS_9 (Post vf_laws_toIntSS (res_laws_toIntSS r))) (stJ := fun s => s_laws_toIntSS_9 p0 s.1 s.2) (s := (0, (List.replicate (Int.toNat (p0.length : Int)) ([] : (List Int))))) (fun s y hb hin hout => ok_laws_toIntSS_9 p0 s.1 s.2 y hb (Post vf_laws_toIntSS (res_laws_toIntSS r)) hin hout) he ?_
  show EvU ext tbl (.c c_laws_toIntSS_19) K_laws_toIntSS_19 (s_laws_toIntSS_19 e) _
  exact ok_laws_toIntSS_19 e r hm

theorem ok_laws_toIntSS (p0 : (List (List Int))) (r : (List (List Int))) (hm : m_laws_toIntSS p0 = some r) : Runs ext tbl 76 (as_laws_toIntSS p0) (res_laws_toIntSS r) :=
  runs_of (vf := vf_laws_toIntSS) (by kernel_rfl) rfl (st := (enter vf_laws_toIntSS (as_laws_toIntSS p0)).getD default) (by kernel_rfl) (go_on [] 1000 True.intro (ok_laws_toIntSS_0 p0 r hm) (by kernel_rfl))
theorem ok_laws_toTones_0 (p0 : S_Tones) (r : S_Tones) (hm : m_laws_toTones_0 p0 = some r) : EvU ext tbl (.c c_laws_toTones_0) K_laws_toTones_0 (s_laws_toTones_0 p0) (Post vf_laws_toTones (res_laws_toTones r)) := by
  obtain ⟨x0_0, h0_0, hm⟩ := bind_some hm
  obtain ⟨x0_1, h0_1, hm⟩ := bind_some hm
  exact go_end [.res (res_laws_toIntSS x0_0), .num x0_0.length, .res (res_laws_toIntSS x0_1), .num x0_1.length, .rows (List.map (rL (rI .i64)) x0_0), .rows (List.map (rL (rI .i64)) x0_1)] 1000 (And.intro (ok_laws_toIntSS p0.slots x0_0 h0_0) (And.intro (len_map (rL (rI .i64)) (show x0_0.length = x0_0.length from rfl)) (And.intro (ok_laws_toIntSS p0.grades x0_1 h0_1) (And.intro (len_map (rL (rI .i64)) (show x0_1.length = x0_1.length from rfl)) (And.intro (all_le0 (rL (rI .i64)) x0_0 rfl) (And.intro (all_t (rL (rI .i64)) x0_0 rfl) (And.intro (all_le0 (rL (rI .i64)) x0_1 rfl) (And.intro (all_t (rL (rI .i64)) x0_1 rfl) True.intro)))))))) (congrArg res_laws_toTones (Option.some.inj hm)) (by kernel_rfl)

theorem ok_laws_toTones (p0 : S_Tones) (r : S_Tones) (hm : m_laws_toTones p0 = some r) : Runs ext tbl 14 (as_laws_toTones p0) (res_laws_toTones r) :=
  runs_of (vf := vf_laws_toTones) (by kernel_rfl) rfl (st := (enter vf_laws_toTones (as_laws_toTones p0)).getD default) (by kernel_rfl) (go_on [] 1000 True.intro (ok_laws_toTones_0 p0 r hm) (by kernel_rfl))
theorem ok_spec_l11Head_0 (p0 : Int) (p1 : Int) (p2 : Int) (r : Bool) (hm : m_spec_l11Head_0 p0 p1 p2 = some r) : EvU ext tbl (.c c_spec_l11Head_0) K_spec_l11Head_0 (s_spec_l11Head_0 p0 p1 p2) (Post vf_spec_l11Head (res_spec_l11Head r)) := by
  obtain ⟨h0_0, hm⟩ | ⟨h0_0, hm⟩ := split_ite hm
  · skip
    obtain ⟨h0_1, hm⟩ | ⟨h0_1, hm⟩ := split_ite hm
    · skip
      obtain ⟨h0_2, hm⟩ | ⟨h0_2, hm⟩ := split_ite hm
      · skip
        obtain ⟨h0_3, hm⟩ | ⟨h0_3, hm⟩ := split_ite hm
        · skip
          obtain ⟨h0_4, hm⟩ | ⟨h0_4, hm⟩ := split_ite hm
          · skip
            exact go_end [.bit true, .bit true, .bit true, .bit true, .bit true, .bit true, .bit true, .bit true, .bit true, .bit true, .bit true, .bit true, .bit true, .bit true, .bit true] 1000 (And.intro h0_0 (And.intro h0_0 (And.intro h0_0 (And.intro h0_1 (And.intro h0_1 (And.intro h0_1 (And.intro h0_2 (And.intro h0_2 (And.intro h0_2 (And.intro h0_3 (And.intro h0_3 (And.intro h0_3 (And.intro h0_4 (And.intro h0_4 (And.intro h0_4 True.intro))))))))))))))) (congrArg res_spec_l11Head (Option.some.inj hm)) (by kernel_rfl)
          · skip
            exact go_end [.bit true, .bit true, .bit true, .bit true, .bit true, .bit true, .bit true, .bit true, .bit true, .bit true, .bit true, .bit true, .bit false, .bit false, .bit false] 1000 (And.intro h0_0 (And.intro h0_0 (And.intro h0_0 (And.intro h0_1 (And.intro h0_1 (And.intro h0_1 (And.intro h0_2 (And.intro h0_2 (And.intro h0_2 (And.intro h0_3 (And.intro h0_3 (And.intro h0_3 (And.intro h0_4 (And.intro h0_4 (And.intro h0_4 True.intro))))))))))))))) (congrArg res_spec_l11Head (Option.some.inj hm)) (by kernel_rfl)
        · skip
          exact go_end [.bit true, .bit true, .bit true, .bit true, .bit true, .bit true, .bit true, .bit true, .bit true, .bit false, .bit false, .bit false, .bit false, .bit false, .bit false] 1000 (And.intro h0_0 (And.intro h0_0 (And.intro h0_0 (And.intro h0_1 (And.intro h0_1 (And.intro h0_1 (And.intro h0_2 (And.intro h0_2 (And.intro h0_2 (And.intro h0_3 (And.intro h0_3 (And.intro h0_3 (And.intro (Eq.refl false) (And.intro (Eq.refl false) (And.intro (Eq.refl false) True.intro))))))))))))))) (congrArg res_spec_l11Head (Option.some.inj hm)) (by kernel_rfl)
      · skip
        exact go_end [.bit true, .bit true, .bit true, .bit true, .bit true, .bit true, .bit false, .bit false, .bit false, .bit false, .bit false, .bit false, .bit false, .bit false, .bit false] 1000 (And.intro h0_0 (And.intro h0_0 (And.intro h0_0 (And.intro h0_1 (And.intro h0_1 (And.intro h0_1 (And.intro h0_2 (And.intro h0_2 (And.intro h0_2 (And.intro (Eq.refl false) (And.intro (Eq.refl false) (And.intro (Eq.refl false) (And.intro (Eq.refl false) (And.intro (Eq.refl false) (And.intro (Eq.refl false) True.intro))))))))))))))) (congrArg res_spec_l11Head (Option.some.inj hm)) (by kernel_rfl)
    · skip
      exact go_end [.bit true, .bit true, .bit true, .bit false, .bit false, .bit false, .bit false, .bit false, .bit false, .bit false, .bit false, .bit false, .bit false, .bit false, .bit false] 1000 (And.intro h0_0 (And.intro h0_0 (And.intro h0_0 (And.intro h0_1 (And.intro h0_1 (And.intro h0_1 (And.intro (Eq.refl false) (And.intro (Eq.refl false) (And.intro (Eq.refl false) (And.intro (Eq.refl false) (And.intro (Eq.refl false) (And.intro (Eq.refl false) (And.intro (Eq.refl false) (And.intro (Eq.refl false) (And.intro (Eq.refl false) True.intro))))))))))))))) (congrArg res_spec_l11Head (Option.some.inj hm)) (by kernel_rfl)
  · skip
    exact go_end [.bit false, .bit false, .bit false, .bit false, .bit false, .bit false, .bit false, .bit false, .bit false, .bit false, .bit false, .bit false, .bit false, .bit false, .bit false] 1000 (And.intro h0_0 (And.intro h0_0 (And.intro h0_0 (And.intro (Eq.refl false) (And.intro (Eq.refl false) (And.intro (Eq.refl false) (And.intro (Eq.refl false) (And.intro (Eq.refl false) (And.intro (Eq.refl false) (And.intro (Eq.refl false) (And.intro (Eq.refl false) (And.intro (Eq.refl false) (And.intro (Eq.refl false) (And.intro (Eq.refl false) (And.intro (Eq.refl false) True.intro))))))))))))))) (congrArg res_spec_l11Head (Option.some.inj hm)) (by kernel_rfl)

theorem ok_spec_l11Head (p0 : Int) (p1 : Int) (p2 : Int) (r : Bool) (hm : m_spec_l11Head p0 p1 p2 = some r) : Runs ext tbl 83 (as_spec_l11Head p0 p1 p2) (res_spec_l11Head r) :=
  runs_of (vf := vf_spec_l11Head) (by kernel_rfl) rfl (st := (enter vf_spec_l11Head (as_spec_l11Head p0 p1 p2)).getD default) (by kernel_rfl) (go_on [] 1000 True.intro (ok_spec_l11Head_0 p0 p1 p2 r hm) (by kernel_rfl))
theorem ok_spec_l11Slots_0 (p0 : Int) (r : Int) (hm : m_spec_l11Slots_0 p0 = some r) : EvU ext tbl (.c c_spec_l11Slots_0) K_spec_l11Slots_0 (s_spec_l11Slots_0 p0) (Post vf_spec_l11Slots (res_spec_l11Slots r)) := by
  exact go_end [] 1000 (And.intro (by decide : (16 : Int) ≠ 0) True.intro) (congrArg res_spec_l11Slots (Option.some.inj hm)) (by kernel_rfl)

theorem ok_spec_l11Slots (p0 : Int) (r : Int) (hm : m_spec_l11Slots p0 = some r) : Runs ext tbl 85 (as_spec_l11Slots p0) (res_spec_l11Slots r) :=
  runs_of (vf := vf_spec_l11Slots) (by kernel_rfl) rfl (st := (enter vf_spec_l11Slots (as_spec_l11Slots p0)).getD default) (by kernel_rfl) (go_on [] 1000 True.intro (ok_spec_l11Slots_0 p0 r hm) (by kernel_rfl))
def O_spec_l11All_7 (p0 : (List Int)) (p1 : Int) (Q : VX → St → Prop) (e : (Bool) ⊕ ((Unit))) : Prop := match e with | .inl e => Q = Post vf_spec_l11All (res_spec_l11All e) | .inr e => EvU ext tbl (.c c_spec_l11All_25) K_spec_l11All_25 (s_spec_l11All_25 p0 p1) Q
theorem ok_spec_l11All_25 (p0 : (List Int)) (p1 : Int) (r : Bool) (hm : m_spec_l11All_25 p0 p1 = some r) : EvU ext tbl (.c c_spec_l11All_25) K_spec_l11All_25 (s_spec_l11All_25 p0 p1) (Post vf_spec_l11All (res_spec_l11All r)) := by
  exact go_end [.num p0.length] 1000 (And.intro (len_map (rI .i64) (show p0.length = p0.length from rfl)) True.intro) (congrArg res_spec_l11All (Option.some.inj hm)) (by kernel_rfl)

theorem ok_spec_l11All_7 (p0 : (List Int)) (p1 : Int) (p2 : Int) (p3 : Int) (i7_0 : Int) (y : (Int) ⊕ ((Bool) ⊕ ((Unit)))) (hm : m_spec_l11All_7 p0 p1 p2 p3 i7_0 = some y) (Q : VX → St → Prop)
    (hin : ∀ s, y = .inl s → EvU ext tbl (.c c_spec_l11All_7) K_spec_l11All_7 (s_spec_l11All_7 p0 p1 p2 p3 s) Q) (hout : ∀ e, y = .inr e → O_spec_l11All_7 p0 p1 Q e) : EvU ext tbl (.c c_spec_l11All_7) K_spec_l11All_7 (s_spec_l11All_7 p0 p1 p2 p3 i7_0) Q := by
  obtain ⟨h7_0, hm⟩ | ⟨h7_0, hm⟩ := split_ite hm
  · skip
    obtain ⟨x7_1, h7_1, hm⟩ := bind_some hm
    obtain ⟨h7_2, hm⟩ | ⟨h7_2, hm⟩ := split_ite hm
    · skip
      have hQ : Q = Post vf_spec_l11All (res_spec_l11All false) := hout (.inl false) (Option.some.inj hm).symm
      subst hQ
      exact go_end [.bit true, .row ((rI .i64) x7_1), .bit true, .bit true, .bit true, .bit true, .bit true] 1000 (And.intro h7_0 (And.intro (rd_nn h7_1) (And.intro (at_row (rI .i64) (rd_get h7_1)) (And.intro h7_2 (And.intro h7_2 (And.intro h7_2 (And.intro h7_2 (And.intro (Eq.refl true) True.intro)))))))) (rfl : res_spec_l11All false = res_spec_l11All false) (by kernel_rfl)
    · skip
      obtain ⟨h7_3, hm⟩ | ⟨h7_3, hm⟩ := split_ite hm
      · skip
        have hQ : Q = Post vf_spec_l11All (res_spec_l11All false) := hout (.inl false) (Option.some.inj hm).symm
        subst hQ
        exact go_end [.bit true, .row ((rI .i64) x7_1), .bit false, .bit false, .bit false, .bit false, .bit true] 1000 (And.intro h7_0 (And.intro (rd_nn h7_1) (And.intro (at_row (rI .i64) (rd_get h7_1)) (And.intro h7_2 (And.intro h7_2 (And.intro h7_2 (And.intro h7_2 (And.intro h7_3 True.intro)))))))) (rfl : res_spec_l11All false = res_spec_l11All false) (by kernel_rfl)
      · skip
        refine go_on (u' := .c c_spec_l11All_7) (K' := K_spec_l11All_7) (st' := s_spec_l11All_7 p0 p1 p2 p3 (w64 (i7_0 + 1))) [.bit true, .row ((rI .i64) x7_1), .bit false, .bit false, .bit false, .bit false, .bit false] 1000 (And.intro h7_0 (And.intro (rd_nn h7_1) (And.intro (at_row (rI .i64) (rd_get h7_1)) (And.intro h7_2 (And.intro h7_2 (And.intro h7_2 (And.intro h7_2 (And.intro h7_3 True.intro)))))))) ?_ (by kernel_rfl)
        exact hin (w64 (i7_0 + 1)) (Option.some.inj hm).symm
  · skip
    refine go_on (u' := .c c_spec_l11All_25) (K' := K_spec_l11All_25) (st' := s_spec_l11All_25 p0 p1) [.bit false] 1000 (And.intro h7_0 True.intro) ?_ (by kernel_rfl)
    exact hout (.inr ()) (Option.some.inj hm).symm

theorem ok_spec_l11All_0 (p0 : (List Int)) (p1 : Int) (p2 : Int) (p3 : Int) (r : Bool) (hm : m_spec_l11All_0 p0 p1 p2 p3 = some r) : EvU ext tbl (.c c_spec_l11All_0) K_spec_l11All_0 (s_spec_l11All_0 p0 p1 p2 p3) (Post vf_spec_l11All (res_spec_l11All r)) := by
  refine go_on (u' := .c c_spec_l11All_7) (K' := K_spec_l11All_7) (st' := s_spec_l11All_7 p0 p1 p2 p3 0) [.num p0.length] 1000 (And.intro (len_map (rI .i64) (show p0.length = p0.length from rfl)) True.intro) ?_ (by kernel_rfl)
  obtain ⟨e, he, hm⟩ := bind_some hm
  refine loop_rule (u := .c c_spec_l11All_7) (K := K_spec_l11All_7) (Q := (Post vf_spec_l11All (res_spec_l11All r))) (b := lp_spec_l11All_7 p0 p1 p2 p3) (We := O_spec_l11All_7 p0 p1 (Post vf_spec_l11All (res_spec_l11All r))) (stJ := fun s => s_spec_l11All_7 p0 p1 p2 p3 s) (s := 0) (fun s y hb hin hout => ok_spec_l11All_7 p0 p1 p2 p3 s y hb (Post vf_spec_l11All (res_spec_l11All r)) hin hout) he ?_
  rcases e with e | e
  · skip
    exact congrArg (fun r => Post vf_spec_l11All (res_spec_l11All r)) (Option.some.inj hm).symm
  · skip
    show EvU ext tbl (.c c_spec_l11All_25) K_spec_l11All_25 (s_spec_l11All_25 p0 p1) _
    exact ok_spec_l11All_25 p0 p1 r hm

theorem ok_spec_l11All (p0 : (List Int)) (p1 : Int) (p2 : Int) (p3 : Int) (r : Bool) (hm : m_spec_l11All p0 p1 p2 p3 = some r) : Runs ext tbl 156 (as_spec_l11All p0 p1 p2 p3) (res_spec_l11All r) :=
  runs_of (vf := vf_spec_l11All) (by kernel_rfl) rfl (st := (enter vf_spec_l11All (as_spec_l11All p0 p1 p2 p3)).getD default) (by kernel_rfl) (go_on [] 1000 True.intro (ok_spec_l11All_0 p0 p1 p2 p3 r hm) (by kernel_rfl))
def O_spec_GoodTones_15 (Q : VX → St → Prop) (e : (Bool) ⊕ ((Unit))) : Prop := match e with | .inl e => Q = Post vf_spec_GoodTones (res_spec_GoodTones e) | .inr e => EvU ext tbl (.c c_spec_GoodTones_33) K_spec_GoodTones_33 (s_spec_GoodTones_33) Q
theorem ok_spec_GoodTones_33 (r : Bool) (hm : m_spec_GoodTones_33 = some r) : EvU ext tbl (.c c_spec_GoodTones_33) K_spec_GoodTones_33 (s_spec_GoodTones_33) (Post vf_spec_GoodTones (res_spec_GoodTones r)) := by
  exact go_end [] 1000 True.intro (congrArg res_spec_GoodTones (Option.some.inj hm)) (by kernel_rfl)

theorem ok_spec_GoodTones_15 (p0 : S_Tones) (i15_0 : Int) (y : (Int) ⊕ ((Bool) ⊕ ((Unit)))) (hm : m_spec_GoodTones_15 p0 i15_0 = some y) (Q : VX → St → Prop)
    (hin : ∀ s, y = .inl s → EvU ext tbl (.c c_spec_GoodTones_15) K_spec_GoodTones_15 (s_spec_GoodTones_15 p0 s) Q) (hout : ∀ e, y = .inr e → O_spec_GoodTones_15 Q e) : EvU ext tbl (.c c_spec_GoodTones_15) K_spec_GoodTones_15 (s_spec_GoodTones_15 p0 i15_0) Q := by
  obtain ⟨h15_0, hm⟩ | ⟨h15_0, hm⟩ := split_ite hm
  · skip
    obtain ⟨x15_1, h15_1, hm⟩ := bind_some hm
    obtain ⟨x15_2, h15_2, hm⟩ := bind_some hm
    obtain ⟨h15_3, hm⟩ | ⟨h15_3, hm⟩ := split_ite hm
    · skip
      obtain ⟨x15_4, h15_4, hm⟩ := bind_some hm
      obtain ⟨x15_5, h15_5, hm⟩ := bind_some hm
      obtain ⟨h15_6, hm⟩ | ⟨h15_6, hm⟩ := split_ite hm
      · skip
        refine go_on (u' := .c c_spec_GoodTones_15) (K' := K_spec_GoodTones_15) (st' := s_spec_GoodTones_15 p0 (w64 (i15_0 + 1))) [.bit true, .row ((rL (rI .i64)) x15_1), .res (res_spec_l11All x15_2), .bit false, .bit false, .bit false, .bit false, .row ((rL (rI .i64)) x15_4), .bit false, .bit false, .res (res_spec_l11All x15_5), .bit false, .bit false, .bit false] 1000 (And.intro h15_0 (And.intro (rd_nn h15_1) (And.intro (at_row (rL (rI .i64)) (rd_get h15_1)) (And.intro (ok_spec_l11All x15_1 16 (-1048576) 1048575 x15_2 h15_2) (And.intro (not_f h15_3) (And.intro (not_f h15_3) (And.intro (not_f h15_3) (And.intro (not_f h15_3) (And.intro (rd_nn h15_4) (And.intro (at_row (rL (rI .i64)) (rd_get h15_4)) (And.intro (not_f h15_3) (And.intro (not_f h15_3) (And.intro (ok_spec_l11All x15_4 8 0 12 x15_5 h15_5) (And.intro (not_f h15_3) (And.intro (not_f h15_3) (And.intro (not_f h15_6) True.intro)))))))))))))))) ?_ (by kernel_rfl)
        exact hin (w64 (i15_0 + 1)) (Option.some.inj hm).symm
      · skip
        have hQ : Q = Post vf_spec_GoodTones (res_spec_GoodTones false) := hout (.inl false) (Option.some.inj hm).symm
        subst hQ
        exact go_end [.bit true, .row ((rL (rI .i64)) x15_1), .res (res_spec_l11All x15_2), .bit false, .bit false, .bit false, .bit false, .row ((rL (rI .i64)) x15_4), .bit false, .bit false, .res (res_spec_l11All x15_5), .bit false, .bit false, .bit true] 1000 (And.intro h15_0 (And.intro (rd_nn h15_1) (And.intro (at_row (rL (rI .i64)) (rd_get h15_1)) (And.intro (ok_spec_l11All x15_1 16 (-1048576) 1048575 x15_2 h15_2) (And.intro (not_f h15_3) (And.intro (not_f h15_3) (And.intro (not_f h15_3) (And.intro (not_f h15_3) (And.intro (rd_nn h15_4) (And.intro (at_row (rL (rI .i64)) (rd_get h15_4)) (And.intro (not_f h15_3) (And.intro (not_f h15_3) (And.intro (ok_spec_l11All x15_4 8 0 12 x15_5 h15_5) (And.intro (not_f h15_3) (And.intro (not_f h15_3) (And.intro (not_t h15_6) True.intro)))))))))))))))) (rfl : res_spec_GoodTones false = res_spec_GoodTones false) (by kernel_rfl)
    · skip
      have hQ : Q = Post vf_spec_GoodTones (res_spec_GoodTones false) := hout (.inl false) (Option.some.inj hm).symm
      subst hQ
      exact go_end [.bit true, .row ((rL (rI .i64)) x15_1), .res (res_spec_l11All x15_2), .bit true, .bit true, .bit true, .bit true, .bit true, .bit true, .bit true, .bit true, .bit true] 1000 (And.intro h15_0 (And.intro (rd_nn h15_1) (And.intro (at_row (rL (rI .i64)) (rd_get h15_1)) (And.intro (ok_spec_l11All x15_1 16 (-1048576) 1048575 x15_2 h15_2) (And.intro (not_t h15_3) (And.intro (not_t h15_3) (And.intro (not_t h15_3) (And.intro (not_t h15_3) (And.intro (not_t h15_3) (And.intro (not_t h15_3) (And.intro (not_t h15_3) (And.intro (not_t h15_3) (And.intro (Eq.refl true) True.intro))))))))))))) (rfl : res_spec_GoodTones false = res_spec_GoodTones false) (by kernel_rfl)
  · skip
    refine go_on (u' := .c c_spec_GoodTones_33) (K' := K_spec_GoodTones_33) (st' := s_spec_GoodTones_33) [.bit false] 1000 (And.intro h15_0 True.intro) ?_ (by kernel_rfl)
    exact hout (.inr ()) (Option.some.inj hm).symm

theorem ok_spec_GoodTones_0 (p0 : S_Tones) (r : Bool) (hm : m_spec_GoodTones_0 p0 = some r) : EvU ext tbl (.c c_spec_GoodTones_0) K_spec_GoodTones_0 (s_spec_GoodTones_0 p0) (Post vf_spec_GoodTones (res_spec_GoodTones r)) := by
  obtain ⟨x0_0, h0_0, hm⟩ := bind_some hm
  obtain ⟨h0_1, hm⟩ | ⟨h0_1, hm⟩ := split_ite hm
  · skip
    obtain ⟨x0_2, h0_2, hm⟩ := bind_some hm
    obtain ⟨h0_3, hm⟩ | ⟨h0_3, hm⟩ := split_ite hm
    · skip
      exact go_end [.res (res_spec_l11Head x0_0), .bit false, .bit false, .bit false, .num p0.slots.length, .bit false, .bit false, .bit false, .res (res_spec_l11Slots x0_2), .bit false, .bit false, .bit true, .bit true, .bit true, .bit true, .bit true, .bit true, .bit true, .bit true, .bit true] 1000 (And.intro (ok_spec_l11Head p0.rate p0.quality p0.length x0_0 h0_0) (And.intro (not_f h0_1) (And.intro (not_f h0_1) (And.intro (not_f h0_1) (And.intro (len_map (rL (rI .i64)) (show p0.slots.length = p0.slots.length from rfl)) (And.intro (not_f h0_1) (And.intro (not_f h0_1) (And.intro (not_f h0_1) (And.intro (ok_spec_l11Slots p0.length x0_2 h0_2) (And.intro (not_f h0_1) (And.intro (not_f h0_1) (And.intro h0_3 (And.intro h0_3 (And.intro h0_3 (And.intro h0_3 (And.intro h0_3 (And.intro h0_3 (And.intro h0_3 (And.intro h0_3 (And.intro (Eq.refl true) True.intro)))))))))))))))))))) (congrArg res_spec_GoodTones (Option.some.inj hm)) (by kernel_rfl)
    · skip
      obtain ⟨h0_4, hm⟩ | ⟨h0_4, hm⟩ := split_ite hm
      · skip
        exact go_end [.res (res_spec_l11Head x0_0), .bit false, .bit false, .bit false, .num p0.slots.length, .bit false, .bit false, .bit false, .res (res_spec_l11Slots x0_2), .bit false, .bit false, .bit false, .bit false, .bit false, .num p0.grades.length, .bit false, .bit false, .bit false, .num p0.slots.length, .bit false, .bit false, .bit true] 1000 (And.intro (ok_spec_l11Head p0.rate p0.quality p0.length x0_0 h0_0) (And.intro (not_f h0_1) (And.intro (not_f h0_1) (And.intro (not_f h0_1) (And.intro (len_map (rL (rI .i64)) (show p0.slots.length = p0.slots.length from rfl)) (And.intro (not_f h0_1) (And.intro (not_f h0_1) (And.intro (not_f h0_1) (And.intro (ok_spec_l11Slots p0.length x0_2 h0_2) (And.intro (not_f h0_1) (And.intro (not_f h0_1) (And.intro h0_3 (And.intro h0_3 (And.intro h0_3 (And.intro (len_map (rL (rI .i64)) (show p0.grades.length = p0.grades.length from rfl)) (And.intro h0_3 (And.intro h0_3 (And.intro h0_3 (And.intro (len_map (rL (rI .i64)) (show p0.slots.length = p0.slots.length from rfl)) (And.intro h0_3 (And.intro h0_3 (And.intro h0_4 True.intro)))))))))))))))))))))) (congrArg res_spec_GoodTones (Option.some.inj hm)) (by kernel_rfl)
      · skip
        refine go_on (u' := .c c_spec_GoodTones_15) (K' := K_spec_GoodTones_15) (st' := s_spec_GoodTones_15 p0 0) [.res (res_spec_l11Head x0_0), .bit false, .bit false, .bit false, .num p0.slots.length, .bit false, .bit false, .bit false, .res (res_spec_l11Slots x0_2), .bit false, .bit false, .bit false, .bit false, .bit false, .num p0.grades.length, .bit false, .bit false, .bit false, .num p0.slots.length, .bit false, .bit false, .bit false, .num p0.slots.length] 1000 (And.intro (ok_spec_l11Head p0.rate p0.quality p0.length x0_0 h0_0) (And.intro (not_f h0_1) (And.intro (not_f h0_1) (And.intro (not_f h0_1) (And.intro (len_map (rL (rI .i64)) (show p0.slots.length = p0.slots.length from rfl)) (And.intro (not_f h0_1) (And.intro (not_f h0_1) (And.intro (not_f h0_1) (And.intro (ok_spec_l11Slots p0.length x0_2 h0_2) (And.intro (not_f h0_1) (And.intro (not_f h0_1) (And.intro h0_3 (And.intro h0_3 (And.intro h0_3 (And.intro (len_map (rL (rI .i64)) (show p0.grades.length = p0.grades.length from rfl)) (And.intro h0_3 (And.intro h0_3 (And.intro h0_3 (And.intro (len_map (rL (rI .i64)) (show p0.slots.length = p0.slots.length from rfl)) (And.intro h0_3 (And.intro h0_3 (And.intro h0_4 (And.intro (len_map (rL (rI .i64)) (show p0.slots.length = p0.slots.length from rfl)) True.intro))))))))))))))))))))))) ?_ (by kernel_rfl)
        obtain ⟨e, he, hm⟩ := bind_some hm
        refine loop_rule (u := .c c_spec_GoodTones_15) (K := K_spec_GoodTones_15) (Q := (Post vf_spec_GoodTones (res_spec_GoodTones r))) (b := lp_spec_GoodTones_15 p0) (We := O_spec_GoodTones_15 (Post vf_spec_GoodTones (res_spec_GoodTones r))) (stJ := fun s => s_spec_GoodTones_15 p0 s) (s := 0) (fun s y hb hin hout => ok_spec_GoodTones_15 p0 s y hb (Post vf_spec_GoodTones (res_spec_GoodTones r)) hin hout) he ?_
        rcases e with e | e
        · skip
          exact congrArg (fun r => Post vf_spec_GoodTones (res_spec_GoodTones r)) (Option.some.inj hm).symm
        · skip
          show EvU ext tbl (.c c_spec_GoodTones_33) K_spec_GoodTones_33 (s_spec_GoodTones_33) _
          exact ok_spec_GoodTones_33 r hm
  · skip
    exact go_end [.res (res_spec_l11Head x0_0), .bit true, .bit true, .bit true, .bit true, .bit true, .bit true, .bit true, .bit true, .bit true, .bit true, .bit true, .bit true, .bit true, .bit true, .bit true, .bit true, .bit true] 1000 (And.intro (ok_spec_l11Head p0.rate p0.quality p0.length x0_0 h0_0) (And.intro (not_t h0_1) (And.intro (not_t h0_1) (And.intro (not_t h0_1) (And.intro (not_t h0_1) (And.intro (not_t h0_1) (And.intro (not_t h0_1) (And.intro (not_t h0_1) (And.intro (not_t h0_1) (And.intro (Eq.refl true) (And.intro (Eq.refl true) (And.intro (Eq.refl true) (And.intro (Eq.refl true) (And.intro (Eq.refl true) (And.intro (Eq.refl true) (And.intro (Eq.refl true) (And.intro (Eq.refl true) (And.intro (Eq.refl true) True.intro)))))))))))))))))) (congrArg res_spec_GoodTones (Option.some.inj hm)) (by kernel_rfl)

theorem ok_spec_GoodTones (p0 : S_Tones) (r : Bool) (hm : m_spec_GoodTones p0 = some r) : Runs ext tbl 72 (as_spec_GoodTones p0) (res_spec_GoodTones r) :=
  runs_of (vf := vf_spec_GoodTones) (by kernel_rfl) rfl (st := (enter vf_spec_GoodTones (as_spec_GoodTones p0)).getD default) (by kernel_rfl) (go_on [] 1000 True.intro (ok_spec_GoodTones_0 p0 r hm) (by kernel_rfl))
theorem ok_spec_l1Sink_bit_18 (p0 : S_l1Sink) (l6_0 : (List Int)) (i18_0 : Int) (r : S_l1Sink) (hm : m_spec_l1Sink_bit_18 p0 l6_0 i18_0 = some r) : EvU ext tbl (.c c_spec_l1Sink_bit_18) K_spec_l1Sink_bit_18 (s_spec_l1Sink_bit_18 p0 l6_0 i18_0) (Post vf_spec_l1Sink_bit (res_spec_l1Sink_bit r)) := by
  obtain ⟨x18_0, h18_0, hm⟩ := bind_some hm
  obtain ⟨x18_1, h18_1, hm⟩ := bind_some hm
  exact go_end [.row ((rI .u8) x18_0), .rows (List.map (rI .u8) (l6_0.set (0 + Int.toNat (w64 (Int.tdiv p0.n 8))) (orI .u8 x18_0 (shlI .u8 1 i18_0)))), .rows (List.map (rI .u8) (l6_0.set (0 + Int.toNat (w64 (Int.tdiv p0.n 8))) (orI .u8 x18_0 (shlI .u8 1 i18_0))))] 1000 (And.intro (by decide : (8 : Int) ≠ 0) (And.intro (rd_in rfl h18_0) (And.intro (at_row (rI .u8) (rd_get0 h18_0)) (And.intro (ck_p h18_1) (And.intro (rd_in rfl h18_0) (And.intro (put_ob (rI .u8) (orI .u8 x18_0 (shlI .u8 1 i18_0)) 0 (.lit (.int .u8 (orI .u8 x18_0 (shlI .u8 1 i18_0)))) (rd_get0 h18_0) (by kernel_rfl) (by kernel_rfl)) (And.intro (all_le0 (rI .u8) (l6_0.set (0 + Int.toNat (w64 (Int.tdiv p0.n 8))) (orI .u8 x18_0 (shlI .u8 1 i18_0))) (set_len rfl)) (And.intro (all_t (rI .u8) (l6_0.set (0 + Int.toNat (w64 (Int.tdiv p0.n 8))) (orI .u8 x18_0 (shlI .u8 1 i18_0))) (set_len rfl)) True.intro)))))))) (congrArg res_spec_l1Sink_bit (Option.some.inj hm)) (by kernel_rfl)

theorem ok_spec_l1Sink_bit_6 (p1 : Int) (p0 : S_l1Sink) (l6_0 : (List Int)) (r : S_l1Sink) (hm : m_spec_l1Sink_bit_6 p1 p0 l6_0 = some r) : EvU ext tbl (.c c_spec_l1Sink_bit_6) K_spec_l1Sink_bit_6 (s_spec_l1Sink_bit_6 p1 p0 l6_0) (Post vf_spec_l1Sink_bit (res_spec_l1Sink_bit r)) := by
  obtain ⟨h6_0, hm⟩ | ⟨h6_0, hm⟩ := split_ite hm
  · skip
    obtain ⟨h6_1, hm⟩ | ⟨h6_1, hm⟩ := split_ite hm
    · skip
      refine go_on (u' := .c c_spec_l1Sink_bit_18) (K' := K_spec_l1Sink_bit_18) (st' := s_spec_l1Sink_bit_18 p0 l6_0 (wr .u64 (7 - (wr .u64 (Int.tmod p0.n 8))))) [.bit true, .bit true, .num l6_0.length] 1000 (And.intro h6_0 (And.intro (by decide : (8 : Int) ≠ 0) (And.intro h6_1 (And.intro (lens l6_0.length l6_0.length rfl) True.intro)))) ?_ (by kernel_rfl)
      exact ok_spec_l1Sink_bit_18 p0 l6_0 (wr .u64 (7 - (wr .u64 (Int.tmod p0.n 8)))) r hm
    · skip
      refine go_on (u' := .c c_spec_l1Sink_bit_18) (K' := K_spec_l1Sink_bit_18) (st' := s_spec_l1Sink_bit_18 p0 l6_0 (wr .u64 (Int.tmod p0.n 8))) [.bit true, .bit false, .num l6_0.length] 1000 (And.intro h6_0 (And.intro (by decide : (8 : Int) ≠ 0) (And.intro h6_1 (And.intro (lens l6_0.length l6_0.length rfl) True.intro)))) ?_ (by kernel_rfl)
      exact ok_spec_l1Sink_bit_18 p0 l6_0 (wr .u64 (Int.tmod p0.n 8)) r hm
  · skip
    exact go_end [.bit false, .rows (List.map (rI .u8) l6_0)] 1000 (And.intro h6_0 (And.intro (all_le0 (rI .u8) l6_0 rfl) (And.intro (all_t (rI .u8) l6_0 rfl) True.intro))) (congrArg res_spec_l1Sink_bit (Option.some.inj hm)) (by kernel_rfl)

theorem ok_spec_l1Sink_bit_0 (p1 : Int) (p0 : S_l1Sink) (r : S_l1Sink) (hm : m_spec_l1Sink_bit_0 p1 p0 = some r) : EvU ext tbl (.c c_spec_l1Sink_bit_0) K_spec_l1Sink_bit_0 (s_spec_l1Sink_bit_0 p1 p0) (Post vf_spec_l1Sink_bit (res_spec_l1Sink_bit r)) := by
  obtain ⟨h0_0, hm⟩ | ⟨h0_0, hm⟩ := split_ite hm
  · skip
    obtain ⟨x0_1, h0_1, hm⟩ := bind_some hm
    refine go_on (u' := .c c_spec_l1Sink_bit_6) (K' := K_spec_l1Sink_bit_6) (st' := s_spec_l1Sink_bit_6 p1 p0 (p0.out ++ ([0] : List Int))) [.bit true, .rows (List.map (rI .u8) ([0] : List Int)), .num 1, .rows (List.map (rI .u8) (p0.out ++ ([0] : List Int))), .num ((p0.out ++ ([0] : List Int)).length), .num ((p0.out ++ ([0] : List Int)).length)] 1000 (And.intro (by decide : (8 : Int) ≠ 0) (And.intro h0_0 (And.intro (Eq.refl (List.map (rI .u8) ([0] : List Int))) (And.intro (len_map (rI .u8) (show 1 = ([0] : List Int).length from rfl)) (And.intro (all_le (rI .u8) ([0] : List Int) rfl) (And.intro (app_ck (rI .u8) p0.out ([0] : List Int) rfl rfl h0_1) (And.intro (app_tell (rI .u8) p0.out ([0] : List Int) rfl rfl) (And.intro (len_map (rI .u8) (show (p0.out ++ ([0] : List Int)).length = (p0.out ++ ([0] : List Int)).length from rfl)) (And.intro (lens ((p0.out ++ ([0] : List Int)).length) ((p0.out ++ ([0] : List Int)).length) rfl) True.intro))))))))) ?_ (by kernel_rfl)
    exact ok_spec_l1Sink_bit_6 p1 p0 (p0.out ++ ([0] : List Int)) r hm
  · skip
    refine go_on (u' := .c c_spec_l1Sink_bit_6) (K' := K_spec_l1Sink_bit_6) (st' := s_spec_l1Sink_bit_6 p1 p0 p0.out) [.bit false, .num p0.out.length] 1000 (And.intro (by decide : (8 : Int) ≠ 0) (And.intro h0_0 (And.intro (lens p0.out.length p0.out.length rfl) True.intro))) ?_ (by kernel_rfl)
    exact ok_spec_l1Sink_bit_6 p1 p0 p0.out r hm

theorem ok_spec_l1Sink_bit (p0 : S_l1Sink) (p1 : Int) (r : S_l1Sink) (hm : m_spec_l1Sink_bit p0 p1 = some r) : Runs ext tbl 157 (as_spec_l1Sink_bit p0 p1) (res_spec_l1Sink_bit r) :=
  runs_of (vf := vf_spec_l1Sink_bit) (by kernel_rfl) rfl (st := (enter vf_spec_l1Sink_bit (as_spec_l1Sink_bit p0 p1)).getD default) (by kernel_rfl) (go_on [.num p0.out.length] 1000 (And.intro (len_map (rI .u8) (rfl : p0.out.length = p0.out.length)) True.intro) (ok_spec_l1Sink_bit_0 p1 p0 r hm) (by kernel_rfl))
def O_spec_l1Sink_put_4 (Q : VX → St → Prop) (e : S_l1Sink) : Prop := Q = Post vf_spec_l1Sink_put (res_spec_l1Sink_put e)
theorem ok_spec_l1Sink_put_20 (p1 : Int) (p2 : Int) (i4_0 : Int) (b4_1 : Bool) (i4_2 : Int) (l4_3 : (List Int)) (i20_0 : Int) (y : (Int × Bool × Int × (List Int)) ⊕ (S_l1Sink)) (hm : m_spec_l1Sink_put_20 p1 p2 i4_0 b4_1 i4_2 l4_3 i20_0 = some y) (Q : VX → St → Prop)
    (hin : ∀ s, y = .inl s → EvU ext tbl (.c c_spec_l1Sink_put_4) K_spec_l1Sink_put_4 (s_spec_l1Sink_put_4 p1 p2 s.1 s.2.1 s.2.2.1 s.2.2.2) Q) (hout : ∀ e, y = .inr e → O_spec_l1Sink_put_4 Q e) : EvU ext tbl (.c c_spec_l1Sink_put_20) K_spec_l1Sink_put_20 (s_spec_l1Sink_put_20 p1 p2 i4_0 b4_1 i4_2 l4_3 i20_0) Q := by
  obtain ⟨x20_0, h20_0, hm⟩ := bind_some hm
  obtain ⟨x20_1, h20_1, hm⟩ := bind_some hm
  refine go_on (u' := .c c_spec_l1Sink_put_4) (K' := K_spec_l1Sink_put_4) (st' := s_spec_l1Sink_put_4 p1 p2 (w64 (i4_0 + 1)) x20_1.high x20_1.n x20_1.out) [.rows (List.map (rI .u8) l4_3), .res (res_spec_l1Sink_bit x20_1), .num x20_1.out.length, .num x20_1.out.length] 1000 (And.intro (ck_p h20_0) (And.intro (all_le0 (rI .u8) l4_3 rfl) (And.intro (all_t (rI .u8) l4_3 rfl) (And.intro (ok_spec_l1Sink_bit (S_l1Sink.mk b4_1 l4_3 i4_2) (andI .u64 (shrI .u64 p2 i20_0) 1) x20_1 h20_1) (And.intro (len_map (rI .u8) (show x20_1.out.length = x20_1.out.length from rfl)) (And.intro (lens x20_1.out.length x20_1.out.length rfl) True.intro)))))) ?_ (by kernel_rfl)
  exact hin ((w64 (i4_0 + 1)), x20_1.high, x20_1.n, x20_1.out) (Option.some.inj hm).symm

theorem ok_spec_l1Sink_put_4 (p1 : Int) (p2 : Int) (i4_0 : Int) (b4_1 : Bool) (i4_2 : Int) (l4_3 : (List Int)) (y : (Int × Bool × Int × (List Int)) ⊕ (S_l1Sink)) (hm : m_spec_l1Sink_put_4 p1 p2 i4_0 b4_1 i4_2 l4_3 = some y) (Q : VX → St → Prop)
    (hin : ∀ s, y = .inl s → EvU ext tbl (.c c_spec_l1Sink_put_4) K_spec_l1Sink_put_4 (s_spec_l1Sink_put_4 p1 p2 s.1 s.2.1 s.2.2.1 s.2.2.2) Q) (hout : ∀ e, y = .inr e → O_spec_l1Sink_put_4 Q e) : EvU ext tbl (.c c_spec_l1Sink_put_4) K_spec_l1Sink_put_4 (s_spec_l1Sink_put_4 p1 p2 i4_0 b4_1 i4_2 l4_3) Q := by
  obtain ⟨h4_0, hm⟩ | ⟨h4_0, hm⟩ := split_ite hm
  · skip
    obtain ⟨h4_1, hm⟩ | ⟨h4_1, hm⟩ := split_ite hm
    · skip
      refine go_on (u' := .c c_spec_l1Sink_put_20) (K' := K_spec_l1Sink_put_20) (st' := s_spec_l1Sink_put_20 p1 p2 i4_0 b4_1 i4_2 l4_3 (wr .u64 (w64 ((w64 (p1 - 1)) - i4_0)))) [.bit true, .bit true, .num l4_3.length] 1000 (And.intro h4_0 (And.intro h4_1 (And.intro (lens l4_3.length l4_3.length rfl) True.intro))) ?_ (by kernel_rfl)
      exact ok_spec_l1Sink_put_20 p1 p2 i4_0 b4_1 i4_2 l4_3 (wr .u64 (w64 ((w64 (p1 - 1)) - i4_0))) y hm Q hin hout
    · skip
      refine go_on (u' := .c c_spec_l1Sink_put_20) (K' := K_spec_l1Sink_put_20) (st' := s_spec_l1Sink_put_20 p1 p2 i4_0 b4_1 i4_2 l4_3 (wr .u64 i4_0)) [.bit true, .bit false, .num l4_3.length] 1000 (And.intro h4_0 (And.intro h4_1 (And.intro (lens l4_3.length l4_3.length rfl) True.intro))) ?_ (by kernel_rfl)
      exact ok_spec_l1Sink_put_20 p1 p2 i4_0 b4_1 i4_2 l4_3 (wr .u64 i4_0) y hm Q hin hout
  · skip
    have hQ : Q = Post vf_spec_l1Sink_put (res_spec_l1Sink_put (S_l1Sink.mk b4_1 l4_3 i4_2)) := hout (S_l1Sink.mk b4_1 l4_3 i4_2) (Option.some.inj hm).symm
    subst hQ
    exact go_end [.bit false, .rows (List.map (rI .u8) l4_3)] 1000 (And.intro h4_0 (And.intro (all_le0 (rI .u8) l4_3 rfl) (And.intro (all_t (rI .u8) l4_3 rfl) True.intro))) (rfl : res_spec_l1Sink_put (S_l1Sink.mk b4_1 l4_3 i4_2) = res_spec_l1Sink_put (S_l1Sink.mk b4_1 l4_3 i4_2)) (by kernel_rfl)

theorem ok_spec_l1Sink_put_0 (p1 : Int) (p2 : Int) (p0 : S_l1Sink) (r : S_l1Sink) (hm : m_spec_l1Sink_put_0 p1 p2 p0 = some r) : EvU ext tbl (.c c_spec_l1Sink_put_0) K_spec_l1Sink_put_0 (s_spec_l1Sink_put_0 p1 p2 p0) (Post vf_spec_l1Sink_put (res_spec_l1Sink_put r)) := by
  refine go_on (u' := .c c_spec_l1Sink_put_4) (K' := K_spec_l1Sink_put_4) (st' := s_spec_l1Sink_put_4 p1 p2 0 p0.high p0.n p0.out) [.num p0.out.length] 1000 (And.intro (lens p0.out.length p0.out.length rfl) True.intro) ?_ (by kernel_rfl)
  obtain ⟨e, he, hm⟩ := bind_some hm
  refine loop_rule (u := .c c_spec_l1Sink_put_4) (K := K_spec_l1Sink_put_4) (Q := (Post vf_spec_l1Sink_put (res_spec_l1Sink_put r))) (b := lp_spec_l1Sink_put_4 p1 p2) (We := O_spec_l1Sink_put_4 (Post vf_spec_l1Sink_put (res_spec_l1Sink_put r))) (stJ := fun s => s_spec_l1Sink_put_4 p1 p2 s.1 s.2.1 s.2.2.1 s.2.2.2) (s := (0, p0.high, p0.n, p0.out)) (fun s y hb hin hout => ok_spec_l1Sink_put_4 p1 p2 s.1 s.2.1 s.2.2.1 s.2.2.2 y hb (Post vf_spec_l1Sink_put (res_spec_l1Sink_put r)) hin hout) he ?_
  exact congrArg (fun r => Post vf_spec_l1Sink_put (res_spec_l1Sink_put r)) (Option.some.inj hm).symm

theorem ok_spec_l1Sink_put (p0 : S_l1Sink) (p1 : Int) (p2 : Int) (r : S_l1Sink) (hm : m_spec_l1Sink_put p0 p1 p2 = some r) : Runs ext tbl 73 (as_spec_l1Sink_put p0 p1 p2) (res_spec_l1Sink_put r) :=
  runs_of (vf := vf_spec_l1Sink_put) (by kernel_rfl) rfl (st := (enter vf_spec_l1Sink_put (as_spec_l1Sink_put p0 p1 p2)).getD default) (by kernel_rfl) (go_on [.num p0.out.length] 1000 (And.intro (len_map (rI .u8) (rfl : p0.out.length = p0.out.length)) True.intro) (ok_spec_l1Sink_put_0 p1 p2 p0 r hm) (by kernel_rfl))
theorem ok_spec_Fold_0 (p0 : Int) (r : Int) (hm : m_spec_Fold_0 p0 = some r) : EvU ext tbl (.c c_spec_Fold_0) K_spec_Fold_0 (s_spec_Fold_0 p0) (Post vf_spec_Fold (res_spec_Fold r)) := by
  obtain ⟨h0_0, hm⟩ | ⟨h0_0, hm⟩ := split_ite hm
  · skip
    exact go_end [.bit true] 1000 (And.intro h0_0 True.intro) (congrArg res_spec_Fold (Option.some.inj hm)) (by kernel_rfl)
  · skip
    exact go_end [.bit false] 1000 (And.intro h0_0 True.intro) (congrArg res_spec_Fold (Option.some.inj hm)) (by kernel_rfl)

theorem ok_spec_Fold (p0 : Int) (r : Int) (hm : m_spec_Fold p0 = some r) : Runs ext tbl 158 (as_spec_Fold p0) (res_spec_Fold r) :=
  runs_of (vf := vf_spec_Fold) (by kernel_rfl) rfl (st := (enter vf_spec_Fold (as_spec_Fold p0)).getD default) (by kernel_rfl) (go_on [] 1000 True.intro (ok_spec_Fold_0 p0 r hm) (by kernel_rfl))
def O_spec_l11KeyCost_9 (Q : VX → St → Prop) (e : (Int)) : Prop := EvU ext tbl (.c c_spec_l11KeyCost_21) K_spec_l11KeyCost_21 (s_spec_l11KeyCost_21 e) Q
theorem ok_spec_l11KeyCost_21 (i21_0 : Int) (r : Int) (hm : m_spec_l11KeyCost_21 i21_0 = some r) : EvU ext tbl (.c c_spec_l11KeyCost_21) K_spec_l11KeyCost_21 (s_spec_l11KeyCost_21 i21_0) (Post vf_spec_l11KeyCost (res_spec_l11KeyCost r)) := by
  exact go_end [] 1000 True.intro (congrArg res_spec_l11KeyCost (Option.some.inj hm)) (by kernel_rfl)

theorem ok_spec_l11KeyCost_9 (p0 : Int) (p1 : (List Int)) (i9_0 : Int) (i9_1 : Int) (y : (Int × Int) ⊕ ((Int))) (hm : m_spec_l11KeyCost_9 p0 p1 i9_0 i9_1 = some y) (Q : VX → St → Prop)
    (hin : ∀ s, y = .inl s → EvU ext tbl (.c c_spec_l11KeyCost_9) K_spec_l11KeyCost_9 (s_spec_l11KeyCost_9 p0 p1 s.1 s.2) Q) (hout : ∀ e, y = .inr e → O_spec_l11KeyCost_9 Q e) : EvU ext tbl (.c c_spec_l11KeyCost_9) K_spec_l11KeyCost_9 (s_spec_l11KeyCost_9 p0 p1 i9_0 i9_1) Q := by
  obtain ⟨h9_0, hm⟩ | ⟨h9_0, hm⟩ := split_ite hm
  · skip
    obtain ⟨x9_1, h9_1, hm⟩ := bind_some hm
    obtain ⟨x9_2, h9_2, hm⟩ := bind_some hm
    obtain ⟨x9_3, h9_3, hm⟩ := bind_some hm
    refine go_on (u' := .c c_spec_l11KeyCost_9) (K' := K_spec_l11KeyCost_9) (st' := s_spec_l11KeyCost_9 p0 p1 (w64 (i9_0 + (w64 ((w64 ((w64 (shrI .u64 x9_2 (wr .u64 p0))) + 1)) + p0)))) (w64 (i9_1 + 1))) [.bit true, .row ((rI .i64) x9_1), .res (res_spec_Fold x9_2)] 1000 (And.intro h9_0 (And.intro (rd_nn h9_1) (And.intro (at_row (rI .i64) (rd_get h9_1)) (And.intro (ok_spec_Fold x9_1 x9_2 h9_2) (And.intro (ck_p h9_3) True.intro))))) ?_ (by kernel_rfl)
    exact hin ((w64 (i9_0 + (w64 ((w64 ((w64 (shrI .u64 x9_2 (wr .u64 p0))) + 1)) + p0)))), (w64 (i9_1 + 1))) (Option.some.inj hm).symm
  · skip
    refine go_on (u' := .c c_spec_l11KeyCost_21) (K' := K_spec_l11KeyCost_21) (st' := s_spec_l11KeyCost_21 i9_0) [.bit false] 1000 (And.intro h9_0 True.intro) ?_ (by kernel_rfl)
    exact hout i9_0 (Option.some.inj hm).symm

theorem ok_spec_l11KeyCost_0 (p0 : Int) (p1 : (List Int)) (r : Int) (hm : m_spec_l11KeyCost_0 p0 p1 = some r) : EvU ext tbl (.c c_spec_l11KeyCost_0) K_spec_l11KeyCost_0 (s_spec_l11KeyCost_0 p0 p1) (Post vf_spec_l11KeyCost (res_spec_l11KeyCost r)) := by
  refine go_on (u' := .c c_spec_l11KeyCost_9) (K' := K_spec_l11KeyCost_9) (st' := s_spec_l11KeyCost_9 p0 p1 0 0) [.num p1.length] 1000 (And.intro (len_map (rI .i64) (show p1.length = p1.length from rfl)) True.intro) ?_ (by kernel_rfl)
  obtain ⟨e, he, hm⟩ := bind_some hm
  refine loop_rule (u := .c c_spec_l11KeyCost_9) (K := K_spec_l11KeyCost_9) (Q := (Post vf_spec_l11KeyCost (res_spec_l11KeyCost r))) (b := lp_spec_l11KeyCost_9 p0 p1) (We := O_spec_l11KeyCost_9 (Post vf_spec_l11KeyCost (res_spec_l11KeyCost r))) (stJ := fun s => s_spec_l11KeyCost_9 p0 p1 s.1 s.2) (s := (0, 0)) (fun s y hb hin hout => ok_spec_l11KeyCost_9 p0 p1 s.1 s.2 y hb (Post vf_spec_l11KeyCost (res_spec_l11KeyCost r)) hin hout) he ?_
  show EvU ext tbl (.c c_spec_l11KeyCost_21) K_spec_l11KeyCost_21 (s_spec_l11KeyCost_21 e) _
  exact ok_spec_l11KeyCost_21 e r hm

theorem ok_spec_l11KeyCost (p0 : Int) (p1 : (List Int)) (r : Int) (hm : m_spec_l11KeyCost p0 p1 = some r) : Runs ext tbl 74 (as_spec_l11KeyCost p0 p1) (res_spec_l11KeyCost r) :=
  runs_of (vf := vf_spec_l11KeyCost) (by kernel_rfl) rfl (st := (enter vf_spec_l11KeyCost (as_spec_l11KeyCost p0 p1)).getD default) (by kernel_rfl) (go_on [] 1000 True.intro (ok_spec_l11KeyCost_0 p0 p1 r hm) (by kernel_rfl))
def O_spec_l1Sink_rice_15 (p1 : Int) (x0_1 : Int) (Q : VX → St → Prop) (e : (Bool × Int × (List Int))) : Prop := EvU ext tbl (.c c_spec_l1Sink_rice_25) K_spec_l1Sink_rice_25 (s_spec_l1Sink_rice_25 p1 x0_1 e.1 e.2.1 e.2.2) Q
theorem ok_spec_l1Sink_rice_25 (p1 : Int) (x0_1 : Int) (b25_0 : Bool) (i25_1 : Int) (l25_2 : (List Int)) (r : S_l1Sink) (hm : m_spec_l1Sink_rice_25 p1 x0_1 b25_0 i25_1 l25_2 = some r) : EvU ext tbl (.c c_spec_l1Sink_rice_25) K_spec_l1Sink_rice_25 (s_spec_l1Sink_rice_25 p1 x0_1 b25_0 i25_1 l25_2) (Post vf_spec_l1Sink_rice (res_spec_l1Sink_rice r)) := by
  obtain ⟨x25_0, h25_0, hm⟩ := bind_some hm
  obtain ⟨x25_1, h25_1, hm⟩ := bind_some hm
  exact go_end [.rows (List.map (rI .u8) l25_2), .res (res_spec_l1Sink_bit x25_0), .num x25_0.out.length, .rows (List.map (rI .u8) x25_0.out), .res (res_spec_l1Sink_put x25_1), .num x25_1.out.length, .rows (List.map (rI .u8) x25_1.out)] 1000 (And.intro (all_le0 (rI .u8) l25_2 rfl) (And.intro (all_t (rI .u8) l25_2 rfl) (And.intro (ok_spec_l1Sink_bit (S_l1Sink.mk b25_0 l25_2 i25_1) 1 x25_0 h25_0) (And.intro (len_map (rI .u8) (show x25_0.out.length = x25_0.out.length from rfl)) (And.intro (all_le0 (rI .u8) x25_0.out rfl) (And.intro (all_t (rI .u8) x25_0.out rfl) (And.intro (ok_spec_l1Sink_put x25_0 p1 x0_1 x25_1 h25_1) (And.intro (len_map (rI .u8) (show x25_1.out.length = x25_1.out.length from rfl)) (And.intro (all_le0 (rI .u8) x25_1.out rfl) (And.intro (all_t (rI .u8) x25_1.out rfl) True.intro)))))))))) (congrArg res_spec_l1Sink_rice (Option.some.inj hm)) (by kernel_rfl)

theorem ok_spec_l1Sink_rice_15 (p1 : Int) (x0_1 : Int) (i15_0 : Int) (b15_1 : Bool) (i15_2 : Int) (l15_3 : (List Int)) (y : (Int × Bool × Int × (List Int)) ⊕ ((Bool × Int × (List Int)))) (hm : m_spec_l1Sink_rice_15 p1 x0_1 i15_0 b15_1 i15_2 l15_3 = some y) (Q : VX → St → Prop)
    (hin : ∀ s, y = .inl s → EvU ext tbl (.c c_spec_l1Sink_rice_15) K_spec_l1Sink_rice_15 (s_spec_l1Sink_rice_15 p1 x0_1 s.1 s.2.1 s.2.2.1 s.2.2.2) Q) (hout : ∀ e, y = .inr e → O_spec_l1Sink_rice_15 p1 x0_1 Q e) : EvU ext tbl (.c c_spec_l1Sink_rice_15) K_spec_l1Sink_rice_15 (s_spec_l1Sink_rice_15 p1 x0_1 i15_0 b15_1 i15_2 l15_3) Q := by
  obtain ⟨h15_0, hm⟩ | ⟨h15_0, hm⟩ := split_ite hm
  · skip
    obtain ⟨x15_1, h15_1, hm⟩ := bind_some hm
    refine go_on (u' := .c c_spec_l1Sink_rice_15) (K' := K_spec_l1Sink_rice_15) (st' := s_spec_l1Sink_rice_15 p1 x0_1 (wr .u64 (i15_0 - 1)) x15_1.high x15_1.n x15_1.out) [.bit true, .rows (List.map (rI .u8) l15_3), .res (res_spec_l1Sink_bit x15_1), .num x15_1.out.length, .num x15_1.out.length] 1000 (And.intro h15_0 (And.intro (all_le0 (rI .u8) l15_3 rfl) (And.intro (all_t (rI .u8) l15_3 rfl) (And.intro (ok_spec_l1Sink_bit (S_l1Sink.mk b15_1 l15_3 i15_2) 0 x15_1 h15_1) (And.intro (len_map (rI .u8) (show x15_1.out.length = x15_1.out.length from rfl)) (And.intro (lens x15_1.out.length x15_1.out.length rfl) True.intro)))))) ?_ (by kernel_rfl)
    exact hin ((wr .u64 (i15_0 - 1)), x15_1.high, x15_1.n, x15_1.out) (Option.some.inj hm).symm
  · skip
    refine go_on (u' := .c c_spec_l1Sink_rice_25) (K' := K_spec_l1Sink_rice_25) (st' := s_spec_l1Sink_rice_25 p1 x0_1 b15_1 i15_2 l15_3) [.bit false, .num l15_3.length] 1000 (And.intro h15_0 (And.intro (lens l15_3.length l15_3.length rfl) True.intro)) ?_ (by kernel_rfl)
    exact hout (b15_1, i15_2, l15_3) (Option.some.inj hm).symm

theorem ok_spec_l1Sink_rice_0 (p1 : Int) (p2 : Int) (p0 : S_l1Sink) (r : S_l1Sink) (hm : m_spec_l1Sink_rice_0 p1 p2 p0 = some r) : EvU ext tbl (.c c_spec_l1Sink_rice_0) K_spec_l1Sink_rice_0 (s_spec_l1Sink_rice_0 p1 p2 p0) (Post vf_spec_l1Sink_rice (res_spec_l1Sink_rice r)) := by
  obtain ⟨h0_0, hm⟩ | ⟨h0_0, hm⟩ := split_ite hm
  · skip
    obtain ⟨x0_1, h0_1, hm⟩ := bind_some hm
    exact go_end [.bit true, .rows (List.map (rI .u8) p0.out), .res (res_spec_l1Sink_put x0_1), .num x0_1.out.length, .rows (List.map (rI .u8) x0_1.out)] 1000 (And.intro h0_0 (And.intro (all_le0 (rI .u8) p0.out rfl) (And.intro (all_t (rI .u8) p0.out rfl) (And.intro (ok_spec_l1Sink_put p0 32 (wr .u64 p2) x0_1 h0_1) (And.intro (len_map (rI .u8) (show x0_1.out.length = x0_1.out.length from rfl)) (And.intro (all_le0 (rI .u8) x0_1.out rfl) (And.intro (all_t (rI .u8) x0_1.out rfl) True.intro))))))) (congrArg res_spec_l1Sink_rice (Option.some.inj hm)) (by kernel_rfl)
  · skip
    obtain ⟨x0_1, h0_1, hm⟩ := bind_some hm
    obtain ⟨x0_2, h0_2, hm⟩ := bind_some hm
    refine go_on (u' := .c c_spec_l1Sink_rice_15) (K' := K_spec_l1Sink_rice_15) (st' := s_spec_l1Sink_rice_15 p1 x0_1 (shrI .u64 x0_1 (wr .u64 p1)) p0.high p0.n p0.out) [.bit false, .res (res_spec_Fold x0_1), .num p0.out.length] 1000 (And.intro h0_0 (And.intro (ok_spec_Fold p2 x0_1 h0_1) (And.intro (ck_p h0_2) (And.intro (lens p0.out.length p0.out.length rfl) True.intro)))) ?_ (by kernel_rfl)
    obtain ⟨e, he, hm⟩ := bind_some hm
    refine loop_rule (u := .c c_spec_l1Sink_rice_15) (K := K_spec_l1Sink_rice_15) (Q := (Post vf_spec_l1Sink_rice (res_spec_l1Sink_rice r))) (b := lp_spec_l1Sink_rice_15 p1 x0_1) (We := O_spec_l1Sink_rice_15 p1 x0_1 (Post vf_spec_l1Sink_rice (res_spec_l1Sink_rice r))) (stJ := fun s => s_spec_l1Sink_rice_15 p1 x0_1 s.1 s.2.1 s.2.2.1 s.2.2.2) (s := ((shrI .u64 x0_1 (wr .u64 p1)), p0.high, p0.n, p0.out)) (fun s y hb hin hout => ok_spec_l1Sink_rice_15 p1 x0_1 s.1 s.2.1 s.2.2.1 s.2.2.2 y hb (Post vf_spec_l1Sink_rice (res_spec_l1Sink_rice r)) hin hout) he ?_
    show EvU ext tbl (.c c_spec_l1Sink_rice_25) K_spec_l1Sink_rice_25 (s_spec_l1Sink_rice_25 p1 x0_1 e.1 e.2.1 e.2.2) _
    exact ok_spec_l1Sink_rice_25 p1 x0_1 e.1 e.2.1 e.2.2 r hm

theorem ok_spec_l1Sink_rice (p0 : S_l1Sink) (p1 : Int) (p2 : Int) (r : S_l1Sink) (hm : m_spec_l1Sink_rice p0 p1 p2 = some r) : Runs ext tbl 75 (as_spec_l1Sink_rice p0 p1 p2) (res_spec_l1Sink_rice r) :=
  runs_of (vf := vf_spec_l1Sink_rice) (by kernel_rfl) rfl (st := (enter vf_spec_l1Sink_rice (as_spec_l1Sink_rice p0 p1 p2)).getD default) (by kernel_rfl) (go_on [.num p0.out.length] 1000 (And.intro (len_map (rI .u8) (rfl : p0.out.length = p0.out.length)) True.intro) (ok_spec_l1Sink_rice_0 p1 p2 p0 r hm) (by kernel_rfl))
def O_spec_EncodeTones_79 (p0 : S_Tones) (i25_0 : Int) (Q : VX → St → Prop) (e : (Bool × Int × (List Int))) : Prop := EvU ext tbl (.c c_spec_EncodeTones_91) K_spec_EncodeTones_91 (s_spec_EncodeTones_91 p0 i25_0 e.1 e.2.1 e.2.2) Q
def O_spec_EncodeTones_59 (i25_0 : Int) (p0 : S_Tones) (b52_0 : Bool) (i52_1 : Int) (l52_2 : (List Int)) (Q : VX → St → Prop) (e : (Int)) : Prop := EvU ext tbl (.c c_spec_EncodeTones_73) K_spec_EncodeTones_73 (s_spec_EncodeTones_73 i25_0 p0 b52_0 i52_1 l52_2 e) Q
def O_spec_EncodeTones_40 (i25_0 : Int) (p0 : S_Tones) (Q : VX → St → Prop) (e : (Bool × Int × (List Int))) : Prop := EvU ext tbl (.c c_spec_EncodeTones_52) K_spec_EncodeTones_52 (s_spec_EncodeTones_52 i25_0 p0 e.1 e.2.1 e.2.2) Q
def O_spec_EncodeTones_25 (Q : VX → St → Prop) (e : (Bool × Int × (List Int))) : Prop := EvU ext tbl (.c c_spec_EncodeTones_92) K_spec_EncodeTones_92 (s_spec_EncodeTones_92 e.1 e.2.1 e.2.2) Q
theorem ok_spec_EncodeTones_91 (p0 : S_Tones) (i25_0 : Int) (b91_0 : Bool) (i91_1 : Int) (l91_2 : (List Int)) (y : (Int × Bool × Int × (List Int)) ⊕ ((Bool × Int × (List Int)))) (hm : m_spec_EncodeTones_91 p0 i25_0 b91_0 i91_1 l91_2 = some y) (Q : VX → St → Prop)
    (hin : ∀ s, y = .inl s → EvU ext tbl (.c c_spec_EncodeTones_25) K_spec_EncodeTones_25 (s_spec_EncodeTones_25 p0 s.1 s.2.1 s.2.2.1 s.2.2.2) Q) (hout : ∀ e, y = .inr e → O_spec_EncodeTones_25 Q e) : EvU ext tbl (.c c_spec_EncodeTones_91) K_spec_EncodeTones_91 (s_spec_EncodeTones_91 p0 i25_0 b91_0 i91_1 l91_2) Q := by
  refine go_on (u' := .c c_spec_EncodeTones_25) (K' := K_spec_EncodeTones_25) (st' := s_spec_EncodeTones_25 p0 (w64 (i25_0 + 1)) b91_0 i91_1 l91_2) [.num l91_2.length] 1000 (And.intro (lens l91_2.length l91_2.length rfl) True.intro) ?_ (by kernel_rfl)
  exact hin ((w64 (i25_0 + 1)), b91_0, i91_1, l91_2) (Option.some.inj hm).symm

theorem ok_spec_EncodeTones_79 (i73_0 : Int) (p0 : S_Tones) (i25_0 : Int) (x73_1 : (List Int)) (i79_0 : Int) (b79_1 : Bool) (i79_2 : Int) (l79_3 : (List Int)) (y : (Int × Bool × Int × (List Int)) ⊕ ((Bool × Int × (List Int)))) (hm : m_spec_EncodeTones_79 i73_0 p0 i25_0 x73_1 i79_0 b79_1 i79_2 l79_3 = some y) (Q : VX → St → Prop)
    (hin : ∀ s, y = .inl s → EvU ext tbl (.c c_spec_EncodeTones_79) K_spec_EncodeTones_79 (s_spec_EncodeTones_79 i73_0 p0 i25_0 x73_1 s.1 s.2.1 s.2.2.1 s.2.2.2) Q) (hout : ∀ e, y = .inr e → O_spec_EncodeTones_79 p0 i25_0 Q e) : EvU ext tbl (.c c_spec_EncodeTones_79) K_spec_EncodeTones_79 (s_spec_EncodeTones_79 i73_0 p0 i25_0 x73_1 i79_0 b79_1 i79_2 l79_3) Q := by
  obtain ⟨h79_0, hm⟩ | ⟨h79_0, hm⟩ := split_ite hm
  · skip
    obtain ⟨x79_1, h79_1, hm⟩ := bind_some hm
    obtain ⟨x79_2, h79_2, hm⟩ := bind_some hm
    refine go_on (u' := .c c_spec_EncodeTones_79) (K' := K_spec_EncodeTones_79) (st' := s_spec_EncodeTones_79 i73_0 p0 i25_0 x73_1 (w64 (i79_0 + 1)) x79_2.high x79_2.n x79_2.out) [.bit true, .row ((rI .i64) x79_1), .rows (List.map (rI .u8) l79_3), .res (res_spec_l1Sink_rice x79_2), .num x79_2.out.length, .num x79_2.out.length] 1000 (And.intro h79_0 (And.intro (rd_nn h79_1) (And.intro (at_row (rI .i64) (rd_get h79_1)) (And.intro (all_le0 (rI .u8) l79_3 rfl) (And.intro (all_t (rI .u8) l79_3 rfl) (And.intro (ok_spec_l1Sink_rice (S_l1Sink.mk b79_1 l79_3 i79_2) i73_0 x79_1 x79_2 h79_2) (And.intro (len_map (rI .u8) (show x79_2.out.length = x79_2.out.length from rfl)) (And.intro (lens x79_2.out.length x79_2.out.length rfl) True.intro)))))))) ?_ (by kernel_rfl)
    exact hin ((w64 (i79_0 + 1)), x79_2.high, x79_2.n, x79_2.out) (Option.some.inj hm).symm
  · skip
    refine go_on (u' := .c c_spec_EncodeTones_91) (K' := K_spec_EncodeTones_91) (st' := s_spec_EncodeTones_91 p0 i25_0 b79_1 i79_2 l79_3) [.bit false, .num l79_3.length] 1000 (And.intro h79_0 (And.intro (lens l79_3.length l79_3.length rfl) True.intro)) ?_ (by kernel_rfl)
    exact hout (b79_1, i79_2, l79_3) (Option.some.inj hm).symm

theorem ok_spec_EncodeTones_73 (i25_0 : Int) (p0 : S_Tones) (b52_0 : Bool) (i52_1 : Int) (l52_2 : (List Int)) (i73_0 : Int) (y : (Int × Bool × Int × (List Int)) ⊕ ((Bool × Int × (List Int)))) (hm : m_spec_EncodeTones_73 i25_0 p0 b52_0 i52_1 l52_2 i73_0 = some y) (Q : VX → St → Prop)
    (hin : ∀ s, y = .inl s → EvU ext tbl (.c c_spec_EncodeTones_25) K_spec_EncodeTones_25 (s_spec_EncodeTones_25 p0 s.1 s.2.1 s.2.2.1 s.2.2.2) Q) (hout : ∀ e, y = .inr e → O_spec_EncodeTones_25 Q e) : EvU ext tbl (.c c_spec_EncodeTones_73) K_spec_EncodeTones_73 (s_spec_EncodeTones_73 i25_0 p0 b52_0 i52_1 l52_2 i73_0) Q := by
  obtain ⟨x73_0, h73_0, hm⟩ := bind_some hm
  obtain ⟨x73_1, h73_1, hm⟩ := bind_some hm
  refine go_on (u' := .c c_spec_EncodeTones_79) (K' := K_spec_EncodeTones_79) (st' := s_spec_EncodeTones_79 i73_0 p0 i25_0 x73_1 0 x73_0.high x73_0.n x73_0.out) [.rows (List.map (rI .u8) l52_2), .res (res_spec_l1Sink_put x73_0), .num x73_0.out.length, .row ((rL (rI .i64)) x73_1), .num x73_1.length, .num x73_0.out.length] 1000 (And.intro (all_le0 (rI .u8) l52_2 rfl) (And.intro (all_t (rI .u8) l52_2 rfl) (And.intro (ok_spec_l1Sink_put (S_l1Sink.mk b52_0 l52_2 i52_1) 5 (wr .u64 i73_0) x73_0 h73_0) (And.intro (len_map (rI .u8) (show x73_0.out.length = x73_0.out.length from rfl)) (And.intro (rd_nn h73_1) (And.intro (at_row (rL (rI .i64)) (rd_get h73_1)) (And.intro (len_map (rI .i64) (show x73_1.length = x73_1.length from rfl)) (And.intro (lens x73_0.out.length x73_0.out.length rfl) True.intro)))))))) ?_ (by kernel_rfl)
  obtain ⟨e, he, hm⟩ := bind_some hm
  refine loop_rule (u := .c c_spec_EncodeTones_79) (K := K_spec_EncodeTones_79) (Q := Q) (b := lp_spec_EncodeTones_79 i73_0 p0 i25_0 x73_1) (We := O_spec_EncodeTones_79 p0 i25_0 Q) (stJ := fun s => s_spec_EncodeTones_79 i73_0 p0 i25_0 x73_1 s.1 s.2.1 s.2.2.1 s.2.2.2) (s := (0, x73_0.high, x73_0.n, x73_0.out)) (fun s y hb hin hout => ok_spec_EncodeTones_79 i73_0 p0 i25_0 x73_1 s.1 s.2.1 s.2.2.1 s.2.2.2 y hb Q hin hout) he ?_
  show EvU ext tbl (.c c_spec_EncodeTones_91) K_spec_EncodeTones_91 (s_spec_EncodeTones_91 p0 i25_0 e.1 e.2.1 e.2.2) _
  exact ok_spec_EncodeTones_91 p0 i25_0 e.1 e.2.1 e.2.2 y hm Q hin hout

theorem ok_spec_EncodeTones_59 (i25_0 : Int) (p0 : S_Tones) (b52_0 : Bool) (i52_1 : Int) (l52_2 : (List Int)) (i59_0 : Int) (i59_1 : Int) (y : (Int × Int) ⊕ ((Int))) (hm : m_spec_EncodeTones_59 i25_0 p0 b52_0 i52_1 l52_2 i59_0 i59_1 = some y) (Q : VX → St → Prop)
    (hin : ∀ s, y = .inl s → EvU ext tbl (.c c_spec_EncodeTones_59) K_spec_EncodeTones_59 (s_spec_EncodeTones_59 i25_0 p0 b52_0 i52_1 l52_2 s.1 s.2) Q) (hout : ∀ e, y = .inr e → O_spec_EncodeTones_59 i25_0 p0 b52_0 i52_1 l52_2 Q e) : EvU ext tbl (.c c_spec_EncodeTones_59) K_spec_EncodeTones_59 (s_spec_EncodeTones_59 i25_0 p0 b52_0 i52_1 l52_2 i59_0 i59_1) Q := by
  obtain ⟨h59_0, hm⟩ | ⟨h59_0, hm⟩ := split_ite hm
  · skip
    obtain ⟨x59_1, h59_1, hm⟩ := bind_some hm
    obtain ⟨x59_2, h59_2, hm⟩ := bind_some hm
    obtain ⟨x59_3, h59_3, hm⟩ := bind_some hm
    obtain ⟨h59_4, hm⟩ | ⟨h59_4, hm⟩ := split_ite hm
    · skip
      refine go_on (u' := .c c_spec_EncodeTones_59) (K' := K_spec_EncodeTones_59) (st' := s_spec_EncodeTones_59 i25_0 p0 b52_0 i52_1 l52_2 i59_1 (w64 (i59_1 + 1))) [.bit true, .row ((rL (rI .i64)) x59_1), .res (res_spec_l11KeyCost x59_2), .row ((rL (rI .i64)) x59_1), .res (res_spec_l11KeyCost x59_3), .bit true, .num l52_2.length] 1000 (And.intro h59_0 (And.intro (rd_nn h59_1) (And.intro (at_row (rL (rI .i64)) (rd_get h59_1)) (And.intro (ok_spec_l11KeyCost i59_1 x59_1 x59_2 h59_2) (And.intro (rd_nn h59_1) (And.intro (at_row (rL (rI .i64)) (rd_get h59_1)) (And.intro (ok_spec_l11KeyCost i59_0 x59_1 x59_3 h59_3) (And.intro h59_4 (And.intro (lens l52_2.length l52_2.length rfl) True.intro))))))))) ?_ (by kernel_rfl)
      exact hin (i59_1, (w64 (i59_1 + 1))) (Option.some.inj hm).symm
    · skip
      refine go_on (u' := .c c_spec_EncodeTones_59) (K' := K_spec_EncodeTones_59) (st' := s_spec_EncodeTones_59 i25_0 p0 b52_0 i52_1 l52_2 i59_0 (w64 (i59_1 + 1))) [.bit true, .row ((rL (rI .i64)) x59_1), .res (res_spec_l11KeyCost x59_2), .row ((rL (rI .i64)) x59_1), .res (res_spec_l11KeyCost x59_3), .bit false, .num l52_2.length] 1000 (And.intro h59_0 (And.intro (rd_nn h59_1) (And.intro (at_row (rL (rI .i64)) (rd_get h59_1)) (And.intro (ok_spec_l11KeyCost i59_1 x59_1 x59_2 h59_2) (And.intro (rd_nn h59_1) (And.intro (at_row (rL (rI .i64)) (rd_get h59_1)) (And.intro (ok_spec_l11KeyCost i59_0 x59_1 x59_3 h59_3) (And.intro h59_4 (And.intro (lens l52_2.length l52_2.length rfl) True.intro))))))))) ?_ (by kernel_rfl)
      exact hin (i59_0, (w64 (i59_1 + 1))) (Option.some.inj hm).symm
  · skip
    refine go_on (u' := .c c_spec_EncodeTones_73) (K' := K_spec_EncodeTones_73) (st' := s_spec_EncodeTones_73 i25_0 p0 b52_0 i52_1 l52_2 i59_0) [.bit false, .num l52_2.length] 1000 (And.intro h59_0 (And.intro (lens l52_2.length l52_2.length rfl) True.intro)) ?_ (by kernel_rfl)
    exact hout i59_0 (Option.some.inj hm).symm

theorem ok_spec_EncodeTones_52 (i25_0 : Int) (p0 : S_Tones) (b52_0 : Bool) (i52_1 : Int) (l52_2 : (List Int)) (y : (Int × Bool × Int × (List Int)) ⊕ ((Bool × Int × (List Int)))) (hm : m_spec_EncodeTones_52 i25_0 p0 b52_0 i52_1 l52_2 = some y) (Q : VX → St → Prop)
    (hin : ∀ s, y = .inl s → EvU ext tbl (.c c_spec_EncodeTones_25) K_spec_EncodeTones_25 (s_spec_EncodeTones_25 p0 s.1 s.2.1 s.2.2.1 s.2.2.2) Q) (hout : ∀ e, y = .inr e → O_spec_EncodeTones_25 Q e) : EvU ext tbl (.c c_spec_EncodeTones_52) K_spec_EncodeTones_52 (s_spec_EncodeTones_52 i25_0 p0 b52_0 i52_1 l52_2) Q := by
  refine go_on (u' := .c c_spec_EncodeTones_59) (K' := K_spec_EncodeTones_59) (st' := s_spec_EncodeTones_59 i25_0 p0 b52_0 i52_1 l52_2 0 1) [.num l52_2.length] 1000 (And.intro (lens l52_2.length l52_2.length rfl) True.intro) ?_ (by kernel_rfl)
  obtain ⟨e, he, hm⟩ := bind_some hm
  refine loop_rule (u := .c c_spec_EncodeTones_59) (K := K_spec_EncodeTones_59) (Q := Q) (b := lp_spec_EncodeTones_59 i25_0 p0 b52_0 i52_1 l52_2) (We := O_spec_EncodeTones_59 i25_0 p0 b52_0 i52_1 l52_2 Q) (stJ := fun s => s_spec_EncodeTones_59 i25_0 p0 b52_0 i52_1 l52_2 s.1 s.2) (s := (0, 1)) (fun s y hb hin hout => ok_spec_EncodeTones_59 i25_0 p0 b52_0 i52_1 l52_2 s.1 s.2 y hb Q hin hout) he ?_
  show EvU ext tbl (.c c_spec_EncodeTones_73) K_spec_EncodeTones_73 (s_spec_EncodeTones_73 i25_0 p0 b52_0 i52_1 l52_2 e) _
  exact ok_spec_EncodeTones_73 i25_0 p0 b52_0 i52_1 l52_2 e y hm Q hin hout

theorem ok_spec_EncodeTones_40 (i25_0 : Int) (p0 : S_Tones) (x25_1 : (List Int)) (i40_0 : Int) (b40_1 : Bool) (i40_2 : Int) (l40_3 : (List Int)) (y : (Int × Bool × Int × (List Int)) ⊕ ((Bool × Int × (List Int)))) (hm : m_spec_EncodeTones_40 i25_0 p0 x25_1 i40_0 b40_1 i40_2 l40_3 = some y) (Q : VX → St → Prop)
    (hin : ∀ s, y = .inl s → EvU ext tbl (.c c_spec_EncodeTones_40) K_spec_EncodeTones_40 (s_spec_EncodeTones_40 i25_0 p0 x25_1 s.1 s.2.1 s.2.2.1 s.2.2.2) Q) (hout : ∀ e, y = .inr e → O_spec_EncodeTones_40 i25_0 p0 Q e) : EvU ext tbl (.c c_spec_EncodeTones_40) K_spec_EncodeTones_40 (s_spec_EncodeTones_40 i25_0 p0 x25_1 i40_0 b40_1 i40_2 l40_3) Q := by
  obtain ⟨h40_0, hm⟩ | ⟨h40_0, hm⟩ := split_ite hm
  · skip
    obtain ⟨x40_1, h40_1, hm⟩ := bind_some hm
    obtain ⟨x40_2, h40_2, hm⟩ := bind_some hm
    refine go_on (u' := .c c_spec_EncodeTones_40) (K' := K_spec_EncodeTones_40) (st' := s_spec_EncodeTones_40 i25_0 p0 x25_1 (w64 (i40_0 + 1)) x40_2.high x40_2.n x40_2.out) [.bit true, .row ((rI .i64) x40_1), .rows (List.map (rI .u8) l40_3), .res (res_spec_l1Sink_put x40_2), .num x40_2.out.length, .num x40_2.out.length] 1000 (And.intro h40_0 (And.intro (rd_nn h40_1) (And.intro (at_row (rI .i64) (rd_get h40_1)) (And.intro (all_le0 (rI .u8) l40_3 rfl) (And.intro (all_t (rI .u8) l40_3 rfl) (And.intro (ok_spec_l1Sink_put (S_l1Sink.mk b40_1 l40_3 i40_2) 4 (wr .u64 x40_1) x40_2 h40_2) (And.intro (len_map (rI .u8) (show x40_2.out.length = x40_2.out.length from rfl)) (And.intro (lens x40_2.out.length x40_2.out.length rfl) True.intro)))))))) ?_ (by kernel_rfl)
    exact hin ((w64 (i40_0 + 1)), x40_2.high, x40_2.n, x40_2.out) (Option.some.inj hm).symm
  · skip
    refine go_on (u' := .c c_spec_EncodeTones_52) (K' := K_spec_EncodeTones_52) (st' := s_spec_EncodeTones_52 i25_0 p0 b40_1 i40_2 l40_3) [.bit false, .num l40_3.length] 1000 (And.intro h40_0 (And.intro (lens l40_3.length l40_3.length rfl) True.intro)) ?_ (by kernel_rfl)
    exact hout (b40_1, i40_2, l40_3) (Option.some.inj hm).symm

theorem ok_spec_EncodeTones_92 (b92_0 : Bool) (i92_1 : Int) (l92_2 : (List Int)) (r : (List Int)) (hm : m_spec_EncodeTones_92 b92_0 i92_1 l92_2 = some r) : EvU ext tbl (.c c_spec_EncodeTones_92) K_spec_EncodeTones_92 (s_spec_EncodeTones_92 b92_0 i92_1 l92_2) (Post vf_spec_EncodeTones (res_spec_EncodeTones r)) := by
  obtain ⟨x92_0, h92_0, hm⟩ := bind_some hm
  obtain ⟨h92_1, hm⟩ | ⟨h92_1, hm⟩ := split_ite hm
  · skip
    exact go_end [.rows (List.map (rI .u8) ([84, 79, 78, 49] : List Int)), .num 4, .rows (List.map (rI .u8) (([84, 79, 78, 49] : List Int) ++ l92_2)), .num ((([84, 79, 78, 49] : List Int) ++ l92_2).length), .bit true, .rows (List.map (rI .u8) ([] : List Int))] 1000 (And.intro (Eq.refl (List.map (rI .u8) ([84, 79, 78, 49] : List Int))) (And.intro (len_map (rI .u8) (show 4 = ([84, 79, 78, 49] : List Int).length from rfl)) (And.intro (all_le (rI .u8) l92_2 rfl) (And.intro (app_ck (rI .u8) ([84, 79, 78, 49] : List Int) l92_2 rfl rfl h92_0) (And.intro (app_tell (rI .u8) ([84, 79, 78, 49] : List Int) l92_2 rfl rfl) (And.intro (len_map (rI .u8) (show (([84, 79, 78, 49] : List Int) ++ l92_2).length = (([84, 79, 78, 49] : List Int) ++ l92_2).length from rfl)) (And.intro h92_1 (And.intro (all_le0 (rI .u8) ([] : List Int) rfl) (And.intro (all_t (rI .u8) ([] : List Int) rfl) True.intro))))))))) (congrArg res_spec_EncodeTones (Option.some.inj hm)) (by kernel_rfl)
  · skip
    exact go_end [.rows (List.map (rI .u8) ([84, 79, 78, 49] : List Int)), .num 4, .rows (List.map (rI .u8) (([84, 79, 78, 49] : List Int) ++ l92_2)), .num ((([84, 79, 78, 49] : List Int) ++ l92_2).length), .bit false, .rows (List.map (rI .u8) (([84, 79, 78, 49] : List Int) ++ l92_2))] 1000 (And.intro (Eq.refl (List.map (rI .u8) ([84, 79, 78, 49] : List Int))) (And.intro (len_map (rI .u8) (show 4 = ([84, 79, 78, 49] : List Int).length from rfl)) (And.intro (all_le (rI .u8) l92_2 rfl) (And.intro (app_ck (rI .u8) ([84, 79, 78, 49] : List Int) l92_2 rfl rfl h92_0) (And.intro (app_tell (rI .u8) ([84, 79, 78, 49] : List Int) l92_2 rfl rfl) (And.intro (len_map (rI .u8) (show (([84, 79, 78, 49] : List Int) ++ l92_2).length = (([84, 79, 78, 49] : List Int) ++ l92_2).length from rfl)) (And.intro h92_1 (And.intro (all_le0 (rI .u8) (([84, 79, 78, 49] : List Int) ++ l92_2) rfl) (And.intro (all_t (rI .u8) (([84, 79, 78, 49] : List Int) ++ l92_2) rfl) True.intro))))))))) (congrArg res_spec_EncodeTones (Option.some.inj hm)) (by kernel_rfl)

theorem ok_spec_EncodeTones_25 (p0 : S_Tones) (i25_0 : Int) (b25_1 : Bool) (i25_2 : Int) (l25_3 : (List Int)) (y : (Int × Bool × Int × (List Int)) ⊕ ((Bool × Int × (List Int)))) (hm : m_spec_EncodeTones_25 p0 i25_0 b25_1 i25_2 l25_3 = some y) (Q : VX → St → Prop)
    (hin : ∀ s, y = .inl s → EvU ext tbl (.c c_spec_EncodeTones_25) K_spec_EncodeTones_25 (s_spec_EncodeTones_25 p0 s.1 s.2.1 s.2.2.1 s.2.2.2) Q) (hout : ∀ e, y = .inr e → O_spec_EncodeTones_25 Q e) : EvU ext tbl (.c c_spec_EncodeTones_25) K_spec_EncodeTones_25 (s_spec_EncodeTones_25 p0 i25_0 b25_1 i25_2 l25_3) Q := by
  obtain ⟨h25_0, hm⟩ | ⟨h25_0, hm⟩ := split_ite hm
  · skip
    obtain ⟨x25_1, h25_1, hm⟩ := bind_some hm
    refine go_on (u' := .c c_spec_EncodeTones_40) (K' := K_spec_EncodeTones_40) (st' := s_spec_EncodeTones_40 i25_0 p0 x25_1 0 b25_1 i25_2 l25_3) [.bit true, .row ((rL (rI .i64)) x25_1), .num x25_1.length, .num l25_3.length] 1000 (And.intro h25_0 (And.intro (rd_nn h25_1) (And.intro (at_row (rL (rI .i64)) (rd_get h25_1)) (And.intro (len_map (rI .i64) (show x25_1.length = x25_1.length from rfl)) (And.intro (lens l25_3.length l25_3.length rfl) True.intro))))) ?_ (by kernel_rfl)
    obtain ⟨e, he, hm⟩ := bind_some hm
    refine loop_rule (u := .c c_spec_EncodeTones_40) (K := K_spec_EncodeTones_40) (Q := Q) (b := lp_spec_EncodeTones_40 i25_0 p0 x25_1) (We := O_spec_EncodeTones_40 i25_0 p0 Q) (stJ := fun s => s_spec_EncodeTones_40 i25_0 p0 x25_1 s.1 s.2.1 s.2.2.1 s.2.2.2) (s := (0, b25_1, i25_2, l25_3)) (fun s y hb hin hout => ok_spec_EncodeTones_40 i25_0 p0 x25_1 s.1 s.2.1 s.2.2.1 s.2.2.2 y hb Q hin hout) he ?_
    show EvU ext tbl (.c c_spec_EncodeTones_52) K_spec_EncodeTones_52 (s_spec_EncodeTones_52 i25_0 p0 e.1 e.2.1 e.2.2) _
    exact ok_spec_EncodeTones_52 i25_0 p0 e.1 e.2.1 e.2.2 y hm Q hin hout
  · skip
    refine go_on (u' := .c c_spec_EncodeTones_92) (K' := K_spec_EncodeTones_92) (st' := s_spec_EncodeTones_92 b25_1 i25_2 l25_3) [.bit false, .num l25_3.length] 1000 (And.intro h25_0 (And.intro (lens l25_3.length l25_3.length rfl) True.intro)) ?_ (by kernel_rfl)
    exact hout (b25_1, i25_2, l25_3) (Option.some.inj hm).symm

theorem ok_spec_EncodeTones_0 (p0 : S_Tones) (r : (List Int)) (hm : m_spec_EncodeTones_0 p0 = some r) : EvU ext tbl (.c c_spec_EncodeTones_0) K_spec_EncodeTones_0 (s_spec_EncodeTones_0 p0) (Post vf_spec_EncodeTones (res_spec_EncodeTones r)) := by
  obtain ⟨x0_0, h0_0, hm⟩ := bind_some hm
  obtain ⟨h0_1, hm⟩ | ⟨h0_1, hm⟩ := split_ite hm
  · skip
    obtain ⟨x0_2, h0_2, hm⟩ := bind_some hm
    obtain ⟨x0_3, h0_3, hm⟩ := bind_some hm
    obtain ⟨x0_4, h0_4, hm⟩ := bind_some hm
    obtain ⟨x0_5, h0_5, hm⟩ := bind_some hm
    refine go_on (u' := .c c_spec_EncodeTones_25) (K' := K_spec_EncodeTones_25) (st' := s_spec_EncodeTones_25 p0 0 x0_5.high x0_5.n x0_5.out) [.res (res_spec_GoodTones x0_0), .bit false, .rows (List.map (rI .u8) ([] : List Int)), .res (res_spec_l1Sink_put x0_2), .num x0_2.out.length, .rows (List.map (rI .u8) x0_2.out), .res (res_spec_l1Sink_put x0_3), .num x0_3.out.length, .rows (List.map (rI .u8) x0_3.out), .res (res_spec_l1Sink_put x0_4), .num x0_4.out.length, .rows (List.map (rI .u8) x0_4.out), .res (res_spec_l1Sink_put x0_5), .num x0_5.out.length, .num p0.slots.length, .num x0_5.out.length] 1000 (And.intro (ok_spec_GoodTones p0 x0_0 h0_0) (And.intro (not_f h0_1) (And.intro (all_le0 (rI .u8) ([] : List Int) rfl) (And.intro (all_t (rI .u8) ([] : List Int) rfl) (And.intro (ok_spec_l1Sink_put (S_l1Sink.mk true ([] : List Int) 0) 20 (wr .u64 p0.rate) x0_2 h0_2) (And.intro (len_map (rI .u8) (show x0_2.out.length = x0_2.out.length from rfl)) (And.intro (all_le0 (rI .u8) x0_2.out rfl) (And.intro (all_t (rI .u8) x0_2.out rfl) (And.intro (ok_spec_l1Sink_put x0_2 4 (wr .u64 p0.quality) x0_3 h0_3) (And.intro (len_map (rI .u8) (show x0_3.out.length = x0_3.out.length from rfl)) (And.intro (all_le0 (rI .u8) x0_3.out rfl) (And.intro (all_t (rI .u8) x0_3.out rfl) (And.intro (ok_spec_l1Sink_put x0_3 12 (wr .u64 p0.length) x0_4 h0_4) (And.intro (len_map (rI .u8) (show x0_4.out.length = x0_4.out.length from rfl)) (And.intro (all_le0 (rI .u8) x0_4.out rfl) (And.intro (all_t (rI .u8) x0_4.out rfl) (And.intro (ok_spec_l1Sink_put x0_4 4 0 x0_5 h0_5) (And.intro (len_map (rI .u8) (show x0_5.out.length = x0_5.out.length from rfl)) (And.intro (len_map (rL (rI .i64)) (show p0.slots.length = p0.slots.length from rfl)) (And.intro (lens x0_5.out.length x0_5.out.length rfl) True.intro)))))))))))))))))))) ?_ (by kernel_rfl)
    obtain ⟨e, he, hm⟩ := bind_some hm
    refine loop_rule (u := .c c_spec_EncodeTones_25) (K := K_spec_EncodeTones_25) (Q := (Post vf_spec_EncodeTones (res_spec_EncodeTones r))) (b := lp_spec_EncodeTones_25 p0) (We := O_spec_EncodeTones_25 (Post vf_spec_EncodeTones (res_spec_EncodeTones r))) (stJ := fun s => s_spec_EncodeTones_25 p0 s.1 s.2.1 s.2.2.1 s.2.2.2) (s := (0, x0_5.high, x0_5.n, x0_5.out)) (fun s y hb hin hout => ok_spec_EncodeTones_25 p0 s.1 s.2.1 s.2.2.1 s.2.2.2 y hb (Post vf_spec_EncodeTones (res_spec_EncodeTones r)) hin hout) he ?_
    show EvU ext tbl (.c c_spec_EncodeTones_92) K_spec_EncodeTones_92 (s_spec_EncodeTones_92 e.1 e.2.1 e.2.2) _
    exact ok_spec_EncodeTones_92 e.1 e.2.1 e.2.2 r hm
  · skip
    exact go_end [.res (res_spec_GoodTones x0_0), .bit true, .rows (List.map (rI .u8) ([] : List Int))] 1000 (And.intro (ok_spec_GoodTones p0 x0_0 h0_0) (And.intro (not_t h0_1) (And.intro (all_le0 (rI .u8) ([] : List Int) rfl) (And.intro (all_t (rI .u8) ([] : List Int) rfl) True.intro)))) (congrArg res_spec_EncodeTones (Option.some.inj hm)) (by kernel_rfl)

theorem ok_spec_EncodeTones (p0 : S_Tones) (r : (List Int)) (hm : m_spec_EncodeTones p0 = some r) : Runs ext tbl 13 (as_spec_EncodeTones p0) (res_spec_EncodeTones r) :=
  runs_of (vf := vf_spec_EncodeTones) (by kernel_rfl) rfl (st := (enter vf_spec_EncodeTones (as_spec_EncodeTones p0)).getD default) (by kernel_rfl) (go_on [] 1000 True.intro (ok_spec_EncodeTones_0 p0 r hm) (by kernel_rfl))
def O_impl_zrange_15 (Q : VX → St → Prop) (e : (Bool) ⊕ ((Unit))) : Prop := match e with | .inl e => Q = Post vf_impl_zrange (res_impl_zrange e) | .inr e => EvU ext tbl (.c c_impl_zrange_33) K_impl_zrange_33 (s_impl_zrange_33) Q
theorem ok_impl_zrange_33 (r : Bool) (hm : m_impl_zrange_33 = some r) : EvU ext tbl (.c c_impl_zrange_33) K_impl_zrange_33 (s_impl_zrange_33) (Post vf_impl_zrange (res_impl_zrange r)) := by
  exact go_end [] 1000 True.intro (congrArg res_impl_zrange (Option.some.inj hm)) (by kernel_rfl)

theorem ok_impl_zrange_15 (p1 : Int) (p2 : Int) (p0 : (List Int)) (i15_0 : Int) (y : (Int) ⊕ ((Bool) ⊕ ((Unit)))) (hm : m_impl_zrange_15 p1 p2 p0 i15_0 = some y) (Q : VX → St → Prop)
    (hin : ∀ s, y = .inl s → EvU ext tbl (.c c_impl_zrange_15) K_impl_zrange_15 (s_impl_zrange_15 p1 p2 p0 s) Q) (hout : ∀ e, y = .inr e → O_impl_zrange_15 Q e) : EvU ext tbl (.c c_impl_zrange_15) K_impl_zrange_15 (s_impl_zrange_15 p1 p2 p0 i15_0) Q := by
  obtain ⟨h15_0, hm⟩ | ⟨h15_0, hm⟩ := split_ite hm
  · skip
    obtain ⟨x15_1, h15_1, hm⟩ := bind_some hm
    obtain ⟨h15_2, hm⟩ | ⟨h15_2, hm⟩ := split_ite hm
    · skip
      have hQ : Q = Post vf_impl_zrange (res_impl_zrange false) := hout (.inl false) (Option.some.inj hm).symm
      subst hQ
      exact go_end [.bit true, .row ((rI .i64) x15_1), .bit true, .bit true, .bit true, .bit true, .bit true] 1000 (And.intro h15_0 (And.intro (rd_nn h15_1) (And.intro (at_row (rI .i64) (rd_get h15_1)) (And.intro h15_2 (And.intro h15_2 (And.intro h15_2 (And.intro h15_2 (And.intro (Eq.refl true) True.intro)))))))) (rfl : res_impl_zrange false = res_impl_zrange false) (by kernel_rfl)
    · skip
      obtain ⟨h15_3, hm⟩ | ⟨h15_3, hm⟩ := split_ite hm
      · skip
        have hQ : Q = Post vf_impl_zrange (res_impl_zrange false) := hout (.inl false) (Option.some.inj hm).symm
        subst hQ
        exact go_end [.bit true, .row ((rI .i64) x15_1), .bit false, .bit false, .bit false, .bit false, .bit true] 1000 (And.intro h15_0 (And.intro (rd_nn h15_1) (And.intro (at_row (rI .i64) (rd_get h15_1)) (And.intro h15_2 (And.intro h15_2 (And.intro h15_2 (And.intro h15_2 (And.intro h15_3 True.intro)))))))) (rfl : res_impl_zrange false = res_impl_zrange false) (by kernel_rfl)
      · skip
        refine go_on (u' := .c c_impl_zrange_15) (K' := K_impl_zrange_15) (st' := s_impl_zrange_15 p1 p2 p0 (w64 (i15_0 + 1))) [.bit true, .row ((rI .i64) x15_1), .bit false, .bit false, .bit false, .bit false, .bit false] 1000 (And.intro h15_0 (And.intro (rd_nn h15_1) (And.intro (at_row (rI .i64) (rd_get h15_1)) (And.intro h15_2 (And.intro h15_2 (And.intro h15_2 (And.intro h15_2 (And.intro h15_3 True.intro)))))))) ?_ (by kernel_rfl)
        exact hin (w64 (i15_0 + 1)) (Option.some.inj hm).symm
  · skip
    refine go_on (u' := .c c_impl_zrange_33) (K' := K_impl_zrange_33) (st' := s_impl_zrange_33) [.bit false] 1000 (And.intro h15_0 True.intro) ?_ (by kernel_rfl)
    exact hout (.inr ()) (Option.some.inj hm).symm

theorem ok_impl_zrange_0 (p0 : (List Int)) (p1 : Int) (p2 : Int) (p3 : Int) (r : Bool) (hm : m_impl_zrange_0 p0 p1 p2 p3 = some r) : EvU ext tbl (.c c_impl_zrange_0) K_impl_zrange_0 (s_impl_zrange_0 p0 p1 p2 p3) (Post vf_impl_zrange (res_impl_zrange r)) := by
  obtain ⟨h0_0, hm⟩ | ⟨h0_0, hm⟩ := split_ite hm
  · skip
    exact go_end [.num p0.length, .bit true] 1000 (And.intro (len_map (rI .i64) (show p0.length = p0.length from rfl)) (And.intro h0_0 True.intro)) (congrArg res_impl_zrange (Option.some.inj hm)) (by kernel_rfl)
  · skip
    refine go_on (u' := .c c_impl_zrange_15) (K' := K_impl_zrange_15) (st' := s_impl_zrange_15 p1 p2 p0 0) [.num p0.length, .bit false, .num p0.length] 1000 (And.intro (len_map (rI .i64) (show p0.length = p0.length from rfl)) (And.intro h0_0 (And.intro (len_map (rI .i64) (show p0.length = p0.length from rfl)) True.intro))) ?_ (by kernel_rfl)
    obtain ⟨e, he, hm⟩ := bind_some hm
    refine loop_rule (u := .c c_impl_zrange_15) (K := K_impl_zrange_15) (Q := (Post vf_impl_zrange (res_impl_zrange r))) (b := lp_impl_zrange_15 p1 p2 p0) (We := O_impl_zrange_15 (Post vf_impl_zrange (res_impl_zrange r))) (stJ := fun s => s_impl_zrange_15 p1 p2 p0 s) (s := 0) (fun s y hb hin hout => ok_impl_zrange_15 p1 p2 p0 s y hb (Post vf_impl_zrange (res_impl_zrange r)) hin hout) he ?_
    rcases e with e | e
    · skip
      exact congrArg (fun r => Post vf_impl_zrange (res_impl_zrange r)) (Option.some.inj hm).symm
    · skip
      show EvU ext tbl (.c c_impl_zrange_33) K_impl_zrange_33 (s_impl_zrange_33) _
      exact ok_impl_zrange_33 r hm

theorem ok_impl_zrange (p0 : (List Int)) (p1 : Int) (p2 : Int) (p3 : Int) (r : Bool) (hm : m_impl_zrange p0 p1 p2 p3 = some r) : Runs ext tbl 115 (as_impl_zrange p0 p1 p2 p3) (res_impl_zrange r) :=
  runs_of (vf := vf_impl_zrange) (by kernel_rfl) rfl (st := (enter vf_impl_zrange (as_impl_zrange p0 p1 p2 p3)).getD default) (by kernel_rfl) (go_on [] 1000 True.intro (ok_impl_zrange_0 p0 p1 p2 p3 r hm) (by kernel_rfl))
def O_impl_GoodTones_17 (Q : VX → St → Prop) (e : (Bool) ⊕ ((Unit))) : Prop := match e with | .inl e => Q = Post vf_impl_GoodTones (res_impl_GoodTones e) | .inr e => EvU ext tbl (.c c_impl_GoodTones_35) K_impl_GoodTones_35 (s_impl_GoodTones_35) Q
theorem ok_impl_GoodTones_35 (r : Bool) (hm : m_impl_GoodTones_35 = some r) : EvU ext tbl (.c c_impl_GoodTones_35) K_impl_GoodTones_35 (s_impl_GoodTones_35) (Post vf_impl_GoodTones (res_impl_GoodTones r)) := by
  exact go_end [] 1000 True.intro (congrArg res_impl_GoodTones (Option.some.inj hm)) (by kernel_rfl)

theorem ok_impl_GoodTones_17 (p0 : S_Tones) (i17_0 : Int) (y : (Int) ⊕ ((Bool) ⊕ ((Unit)))) (hm : m_impl_GoodTones_17 p0 i17_0 = some y) (Q : VX → St → Prop)
    (hin : ∀ s, y = .inl s → EvU ext tbl (.c c_impl_GoodTones_17) K_impl_GoodTones_17 (s_impl_GoodTones_17 p0 s) Q) (hout : ∀ e, y = .inr e → O_impl_GoodTones_17 Q e) : EvU ext tbl (.c c_impl_GoodTones_17) K_impl_GoodTones_17 (s_impl_GoodTones_17 p0 i17_0) Q := by
  obtain ⟨h17_0, hm⟩ | ⟨h17_0, hm⟩ := split_ite hm
  · skip
    obtain ⟨x17_1, h17_1, hm⟩ := bind_some hm
    obtain ⟨h17_2, hm⟩ | ⟨h17_2, hm⟩ := split_ite hm
    · skip
      have hQ : Q = Post vf_impl_GoodTones (res_impl_GoodTones false) := hout (.inl false) (Option.some.inj hm).symm
      subst hQ
      exact go_end [.bit true, .row ((rL (rI .i64)) x17_1), .num x17_1.length, .bit true, .bit true, .bit true, .bit true, .bit true, .bit true, .bit true, .bit true, .bit true, .bit true, .bit true, .bit true, .bit true, .bit true, .bit true, .bit true, .bit true, .bit true, .bit true, .bit true, .bit true, .bit true, .bit true, .bit true, .bit true] 1000 (And.intro h17_0 (And.intro (rd_nn h17_1) (And.intro (at_row (rL (rI .i64)) (rd_get h17_1)) (And.intro (len_map (rI .i64) (show x17_1.length = x17_1.length from rfl)) (And.intro h17_2 (And.intro h17_2 (And.intro h17_2 (And.intro h17_2 (And.intro h17_2 (And.intro h17_2 (And.intro h17_2 (And.intro h17_2 (And.intro (Eq.refl true) (And.intro (Eq.refl true) (And.intro (Eq.refl true) (And.intro (Eq.refl true) (And.intro (Eq.refl true) (And.intro (Eq.refl true) (And.intro (Eq.refl true) (And.intro (Eq.refl true) (And.intro (Eq.refl true) (And.intro (Eq.refl true) (And.intro (Eq.refl true) (And.intro (Eq.refl true) (And.intro (Eq.refl true) (And.intro (Eq.refl true) (And.intro (Eq.refl true) (And.intro (Eq.refl true) (And.intro (Eq.refl true) True.intro))))))))))))))))))))))))))))) (rfl : res_impl_GoodTones false = res_impl_GoodTones false) (by kernel_rfl)
    · skip
      obtain ⟨x17_3, h17_3, hm⟩ := bind_some hm
      obtain ⟨h17_4, hm⟩ | ⟨h17_4, hm⟩ := split_ite hm
      · skip
        obtain ⟨x17_5, h17_5, hm⟩ := bind_some hm
        obtain ⟨h17_6, hm⟩ | ⟨h17_6, hm⟩ := split_ite hm
        · skip
          have hQ : Q = Post vf_impl_GoodTones (res_impl_GoodTones false) := hout (.inl false) (Option.some.inj hm).symm
          subst hQ
          exact go_end [.bit true, .row ((rL (rI .i64)) x17_1), .num x17_1.length, .bit false, .bit false, .bit false, .bit false, .row ((rL (rI .i64)) x17_1), .bit false, .bit false, .res (res_impl_zrange x17_3), .bit false, .bit false, .bit false, .bit false, .bit false, .bit false, .row ((rL (rI .i64)) x17_5), .bit false, .bit false, .num x17_5.length, .bit false, .bit false, .bit true, .bit true, .bit true, .bit true, .bit true, .bit true, .bit true, .bit true, .bit true] 1000 (And.intro h17_0 (And.intro (rd_nn h17_1) (And.intro (at_row (rL (rI .i64)) (rd_get h17_1)) (And.intro (len_map (rI .i64) (show x17_1.length = x17_1.length from rfl)) (And.intro h17_2 (And.intro h17_2 (And.intro h17_2 (And.intro h17_2 (And.intro (rd_nn h17_1) (And.intro (at_row (rL (rI .i64)) (rd_get h17_1)) (And.intro h17_2 (And.intro h17_2 (And.intro (ok_impl_zrange x17_1 (-1048576) 1048575 16 x17_3 h17_3) (And.intro h17_2 (And.intro h17_2 (And.intro (not_f h17_4) (And.intro (not_f h17_4) (And.intro (not_f h17_4) (And.intro (not_f h17_4) (And.intro (rd_nn h17_5) (And.intro (at_row (rL (rI .i64)) (rd_get h17_5)) (And.intro (not_f h17_4) (And.intro (not_f h17_4) (And.intro (len_map (rI .i64) (show x17_5.length = x17_5.length from rfl)) (And.intro (not_f h17_4) (And.intro (not_f h17_4) (And.intro h17_6 (And.intro h17_6 (And.intro h17_6 (And.intro h17_6 (And.intro h17_6 (And.intro h17_6 (And.intro h17_6 (And.intro h17_6 (And.intro (Eq.refl true) True.intro))))))))))))))))))))))))))))))))))) (rfl : res_impl_GoodTones false = res_impl_GoodTones false) (by kernel_rfl)
        · skip
          obtain ⟨x17_7, h17_7, hm⟩ := bind_some hm
          obtain ⟨h17_8, hm⟩ | ⟨h17_8, hm⟩ := split_ite hm
          · skip
            refine go_on (u' := .c c_impl_GoodTones_17) (K' := K_impl_GoodTones_17) (st' := s_impl_GoodTones_17 p0 (w64 (i17_0 + 1))) [.bit true, .row ((rL (rI .i64)) x17_1), .num x17_1.length, .bit false, .bit false, .bit false, .bit false, .row ((rL (rI .i64)) x17_1), .bit false, .bit false, .res (res_impl_zrange x17_3), .bit false, .bit false, .bit false, .bit false, .bit false, .bit false, .row ((rL (rI .i64)) x17_5), .bit false, .bit false, .num x17_5.length, .bit false, .bit false, .bit false, .bit false, .bit false, .bit false, .row ((rL (rI .i64)) x17_5), .bit false, .bit false, .res (res_impl_zrange x17_7), .bit false, .bit false, .bit false] 1000 (And.intro h17_0 (And.intro (rd_nn h17_1) (And.intro (at_row (rL (rI .i64)) (rd_get h17_1)) (And.intro (len_map (rI .i64) (show x17_1.length = x17_1.length from rfl)) (And.intro h17_2 (And.intro h17_2 (And.intro h17_2 (And.intro h17_2 (And.intro (rd_nn h17_1) (And.intro (at_row (rL (rI .i64)) (rd_get h17_1)) (And.intro h17_2 (And.intro h17_2 (And.intro (ok_impl_zrange x17_1 (-1048576) 1048575 16 x17_3 h17_3) (And.intro h17_2 (And.intro h17_2 (And.intro (not_f h17_4) (And.intro (not_f h17_4) (And.intro (not_f h17_4) (And.intro (not_f h17_4) (And.intro (rd_nn h17_5) (And.intro (at_row (rL (rI .i64)) (rd_get h17_5)) (And.intro (not_f h17_4) (And.intro (not_f h17_4) (And.intro (len_map (rI .i64) (show x17_5.length = x17_5.length from rfl)) (And.intro (not_f h17_4) (And.intro (not_f h17_4) (And.intro h17_6 (And.intro h17_6 (And.intro h17_6 (And.intro h17_6 (And.intro (rd_nn h17_5) (And.intro (at_row (rL (rI .i64)) (rd_get h17_5)) (And.intro h17_6 (And.intro h17_6 (And.intro (ok_impl_zrange x17_5 0 12 8 x17_7 h17_7) (And.intro h17_6 (And.intro h17_6 (And.intro (not_f h17_8) True.intro)))))))))))))))))))))))))))))))))))))) ?_ (by kernel_rfl)
            exact hin (w64 (i17_0 + 1)) (Option.some.inj hm).symm
          · skip
            have hQ : Q = Post vf_impl_GoodTones (res_impl_GoodTones false) := hout (.inl false) (Option.some.inj hm).symm
            subst hQ
            exact go_end [.bit true, .row ((rL (rI .i64)) x17_1), .num x17_1.length, .bit false, .bit false, .bit false, .bit false, .row ((rL (rI .i64)) x17_1), .bit false, .bit false, .res (res_impl_zrange x17_3), .bit false, .bit false, .bit false, .bit false, .bit false, .bit false, .row ((rL (rI .i64)) x17_5), .bit false, .bit false, .num x17_5.length, .bit false, .bit false, .bit false, .bit false, .bit false, .bit false, .row ((rL (rI .i64)) x17_5), .bit false, .bit false, .res (res_impl_zrange x17_7), .bit false, .bit false, .bit true] 1000 (And.intro h17_0 (And.intro (rd_nn h17_1) (And.intro (at_row (rL (rI .i64)) (rd_get h17_1)) (And.intro (len_map (rI .i64) (show x17_1.length = x17_1.length from rfl)) (And.intro h17_2 (And.intro h17_2 (And.intro h17_2 (And.intro h17_2 (And.intro (rd_nn h17_1) (And.intro (at_row (rL (rI .i64)) (rd_get h17_1)) (And.intro h17_2 (And.intro h17_2 (And.intro (ok_impl_zrange x17_1 (-1048576) 1048575 16 x17_3 h17_3) (And.intro h17_2 (And.intro h17_2 (And.intro (not_f h17_4) (And.intro (not_f h17_4) (And.intro (not_f h17_4) (And.intro (not_f h17_4) (And.intro (rd_nn h17_5) (And.intro (at_row (rL (rI .i64)) (rd_get h17_5)) (And.intro (not_f h17_4) (And.intro (not_f h17_4) (And.intro (len_map (rI .i64) (show x17_5.length = x17_5.length from rfl)) (And.intro (not_f h17_4) (And.intro (not_f h17_4) (And.intro h17_6 (And.intro h17_6 (And.intro h17_6 (And.intro h17_6 (And.intro (rd_nn h17_5) (And.intro (at_row (rL (rI .i64)) (rd_get h17_5)) (And.intro h17_6 (And.intro h17_6 (And.intro (ok_impl_zrange x17_5 0 12 8 x17_7 h17_7) (And.intro h17_6 (And.intro h17_6 (And.intro (not_t h17_8) True.intro)))))))))))))))))))))))))))))))))))))) (rfl : res_impl_GoodTones false = res_impl_GoodTones false) (by kernel_rfl)
      · skip
        have hQ : Q = Post vf_impl_GoodTones (res_impl_GoodTones false) := hout (.inl false) (Option.some.inj hm).symm
        subst hQ
        exact go_end [.bit true, .row ((rL (rI .i64)) x17_1), .num x17_1.length, .bit false, .bit false, .bit false, .bit false, .row ((rL (rI .i64)) x17_1), .bit false, .bit false, .res (res_impl_zrange x17_3), .bit false, .bit false, .bit true, .bit true, .bit true, .bit true, .bit true, .bit true, .bit true, .bit true, .bit true, .bit true, .bit true, .bit true, .bit true, .bit true, .bit true, .bit true, .bit true] 1000 (And.intro h17_0 (And.intro (rd_nn h17_1) (And.intro (at_row (rL (rI .i64)) (rd_get h17_1)) (And.intro (len_map (rI .i64) (show x17_1.length = x17_1.length from rfl)) (And.intro h17_2 (And.intro h17_2 (And.intro h17_2 (And.intro h17_2 (And.intro (rd_nn h17_1) (And.intro (at_row (rL (rI .i64)) (rd_get h17_1)) (And.intro h17_2 (And.intro h17_2 (And.intro (ok_impl_zrange x17_1 (-1048576) 1048575 16 x17_3 h17_3) (And.intro h17_2 (And.intro h17_2 (And.intro (not_t h17_4) (And.intro (not_t h17_4) (And.intro (not_t h17_4) (And.intro (not_t h17_4) (And.intro (not_t h17_4) (And.intro (not_t h17_4) (And.intro (not_t h17_4) (And.intro (not_t h17_4) (And.intro (Eq.refl true) (And.intro (Eq.refl true) (And.intro (Eq.refl true) (And.intro (Eq.refl true) (And.intro (Eq.refl true) (And.intro (Eq.refl true) (And.intro (Eq.refl true) (And.intro (Eq.refl true) (And.intro (Eq.refl true) True.intro)))))))))))))))))))))))))))))))) (rfl : res_impl_GoodTones false = res_impl_GoodTones false) (by kernel_rfl)
  · skip
    refine go_on (u' := .c c_impl_GoodTones_35) (K' := K_impl_GoodTones_35) (st' := s_impl_GoodTones_35) [.bit false] 1000 (And.intro h17_0 True.intro) ?_ (by kernel_rfl)
    exact hout (.inr ()) (Option.some.inj hm).symm

theorem ok_impl_GoodTones_0 (p0 : S_Tones) (r : Bool) (hm : m_impl_GoodTones_0 p0 = some r) : EvU ext tbl (.c c_impl_GoodTones_0) K_impl_GoodTones_0 (s_impl_GoodTones_0 p0) (Post vf_impl_GoodTones (res_impl_GoodTones r)) := by
  obtain ⟨h0_0, hm⟩ | ⟨h0_0, hm⟩ := split_ite hm
  · skip
    exact go_end [.bit true, .bit true, .bit true, .bit true, .bit true, .bit true, .bit true, .bit true, .bit true, .bit true, .bit true, .bit true, .bit true, .bit true, .bit true, .bit true, .bit true, .bit true, .bit true, .bit true, .bit true, .bit true, .bit true, .bit true, .bit true, .bit true, .bit true, .bit true, .bit true, .bit true, .bit true, .bit true, .bit true] 1000 (And.intro (by decide : (16 : Int) ≠ 0) (And.intro h0_0 (And.intro h0_0 (And.intro h0_0 (And.intro h0_0 (And.intro (Eq.refl true) (And.intro (Eq.refl true) (And.intro (Eq.refl true) (And.intro (Eq.refl true) (And.intro (Eq.refl true) (And.intro (Eq.refl true) (And.intro (Eq.refl true) (And.intro (Eq.refl true) (And.intro (Eq.refl true) (And.intro (Eq.refl true) (And.intro (Eq.refl true) (And.intro (Eq.refl true) (And.intro (Eq.refl true) (And.intro (Eq.refl true) (And.intro (Eq.refl true) (And.intro (Eq.refl true) (And.intro (Eq.refl true) (And.intro (Eq.refl true) (And.intro (Eq.refl true) (And.intro (Eq.refl true) (And.intro (Eq.refl true) (And.intro (Eq.refl true) (And.intro (Eq.refl true) (And.intro (Eq.refl true) (And.intro (Eq.refl true) (And.intro (Eq.refl true) (And.intro (Eq.refl true) (And.intro (Eq.refl true) (And.intro (Eq.refl true) True.intro)))))))))))))))))))))))))))))))))) (congrArg res_impl_GoodTones (Option.some.inj hm)) (by kernel_rfl)
  · skip
    obtain ⟨h0_1, hm⟩ | ⟨h0_1, hm⟩ := split_ite hm
    · skip
      exact go_end [.bit false, .bit false, .bit false, .bit false, .bit true, .bit true, .bit true, .bit true, .bit true, .bit true, .bit true, .bit true, .bit true, .bit true, .bit true, .bit true, .bit true, .bit true, .bit true, .bit true, .bit true, .bit true, .bit true, .bit true, .bit true, .bit true, .bit true, .bit true, .bit true, .bit true, .bit true, .bit true, .bit true] 1000 (And.intro (by decide : (16 : Int) ≠ 0) (And.intro h0_0 (And.intro h0_0 (And.intro h0_0 (And.intro h0_0 (And.intro h0_1 (And.intro h0_1 (And.intro h0_1 (And.intro h0_1 (And.intro (Eq.refl true) (And.intro (Eq.refl true) (And.intro (Eq.refl true) (And.intro (Eq.refl true) (And.intro (Eq.refl true) (And.intro (Eq.refl true) (And.intro (Eq.refl true) (And.intro (Eq.refl true) (And.intro (Eq.refl true) (And.intro (Eq.refl true) (And.intro (Eq.refl true) (And.intro (Eq.refl true) (And.intro (Eq.refl true) (And.intro (Eq.refl true) (And.intro (Eq.refl true) (And.intro (Eq.refl true) (And.intro (Eq.refl true) (And.intro (Eq.refl true) (And.intro (Eq.refl true) (And.intro (Eq.refl true) (And.intro (Eq.refl true) (And.intro (Eq.refl true) (And.intro (Eq.refl true) (And.intro (Eq.refl true) (And.intro (Eq.refl true) True.intro)))))))))))))))))))))))))))))))))) (congrArg res_impl_GoodTones (Option.some.inj hm)) (by kernel_rfl)
    · skip
      obtain ⟨h0_2, hm⟩ | ⟨h0_2, hm⟩ := split_ite hm
      · skip
        exact go_end [.bit false, .bit false, .bit false, .bit false, .bit false, .bit false, .bit false, .bit false, .bit true, .bit true, .bit true, .bit true, .bit true, .bit true, .bit true, .bit true, .bit true, .bit true, .bit true, .bit true, .bit true, .bit true, .bit true, .bit true, .bit true, .bit true, .bit true, .bit true, .bit true, .bit true, .bit true, .bit true, .bit true] 1000 (And.intro (by decide : (16 : Int) ≠ 0) (And.intro h0_0 (And.intro h0_0 (And.intro h0_0 (And.intro h0_0 (And.intro h0_1 (And.intro h0_1 (And.intro h0_1 (And.intro h0_1 (And.intro h0_2 (And.intro h0_2 (And.intro h0_2 (And.intro h0_2 (And.intro (Eq.refl true) (And.intro (Eq.refl true) (And.intro (Eq.refl true) (And.intro (Eq.refl true) (And.intro (Eq.refl true) (And.intro (Eq.refl true) (And.intro (Eq.refl true) (And.intro (Eq.refl true) (And.intro (Eq.refl true) (And.intro (Eq.refl true) (And.intro (Eq.refl true) (And.intro (Eq.refl true) (And.intro (Eq.refl true) (And.intro (Eq.refl true) (And.intro (Eq.refl true) (And.intro (Eq.refl true) (And.intro (Eq.refl true) (And.intro (Eq.refl true) (And.intro (Eq.refl true) (And.intro (Eq.refl true) (And.intro (Eq.refl true) True.intro)))))))))))))))))))))))))))))))))) (congrArg res_impl_GoodTones (Option.some.inj hm)) (by kernel_rfl)
      · skip
        obtain ⟨h0_3, hm⟩ | ⟨h0_3, hm⟩ := split_ite hm
        · skip
          exact go_end [.bit false, .bit false, .bit false, .bit false, .bit false, .bit false, .bit false, .bit false, .bit false, .bit false, .bit false, .bit false, .bit true, .bit true, .bit true, .bit true, .bit true, .bit true, .bit true, .bit true, .bit true, .bit true, .bit true, .bit true, .bit true, .bit true, .bit true, .bit true, .bit true, .bit true, .bit true, .bit true, .bit true] 1000 (And.intro (by decide : (16 : Int) ≠ 0) (And.intro h0_0 (And.intro h0_0 (And.intro h0_0 (And.intro h0_0 (And.intro h0_1 (And.intro h0_1 (And.intro h0_1 (And.intro h0_1 (And.intro h0_2 (And.intro h0_2 (And.intro h0_2 (And.intro h0_2 (And.intro h0_3 (And.intro h0_3 (And.intro h0_3 (And.intro h0_3 (And.intro (Eq.refl true) (And.intro (Eq.refl true) (And.intro (Eq.refl true) (And.intro (Eq.refl true) (And.intro (Eq.refl true) (And.intro (Eq.refl true) (And.intro (Eq.refl true) (And.intro (Eq.refl true) (And.intro (Eq.refl true) (And.intro (Eq.refl true) (And.intro (Eq.refl true) (And.intro (Eq.refl true) (And.intro (Eq.refl true) (And.intro (Eq.refl true) (And.intro (Eq.refl true) (And.intro (Eq.refl true) (And.intro (Eq.refl true) True.intro)))))))))))))))))))))))))))))))))) (congrArg res_impl_GoodTones (Option.some.inj hm)) (by kernel_rfl)
        · skip
          obtain ⟨h0_4, hm⟩ | ⟨h0_4, hm⟩ := split_ite hm
          · skip
            exact go_end [.bit false, .bit false, .bit false, .bit false, .bit false, .bit false, .bit false, .bit false, .bit false, .bit false, .bit false, .bit false, .bit false, .bit false, .bit false, .bit false, .bit true, .bit true, .bit true, .bit true, .bit true, .bit true, .bit true, .bit true, .bit true, .bit true, .bit true, .bit true, .bit true, .bit true, .bit true, .bit true, .bit true] 1000 (And.intro (by decide : (16 : Int) ≠ 0) (And.intro h0_0 (And.intro h0_0 (And.intro h0_0 (And.intro h0_0 (And.intro h0_1 (And.intro h0_1 (And.intro h0_1 (And.intro h0_1 (And.intro h0_2 (And.intro h0_2 (And.intro h0_2 (And.intro h0_2 (And.intro h0_3 (And.intro h0_3 (And.intro h0_3 (And.intro h0_3 (And.intro h0_4 (And.intro h0_4 (And.intro h0_4 (And.intro h0_4 (And.intro (Eq.refl true) (And.intro (Eq.refl true) (And.intro (Eq.refl true) (And.intro (Eq.refl true) (And.intro (Eq.refl true) (And.intro (Eq.refl true) (And.intro (Eq.refl true) (And.intro (Eq.refl true) (And.intro (Eq.refl true) (And.intro (Eq.refl true) (And.intro (Eq.refl true) (And.intro (Eq.refl true) (And.intro (Eq.refl true) True.intro)))))))))))))))))))))))))))))))))) (congrArg res_impl_GoodTones (Option.some.inj hm)) (by kernel_rfl)
          · skip
            obtain ⟨h0_5, hm⟩ | ⟨h0_5, hm⟩ := split_ite hm
            · skip
              exact go_end [.bit false, .bit false, .bit false, .bit false, .bit false, .bit false, .bit false, .bit false, .bit false, .bit false, .bit false, .bit false, .bit false, .bit false, .bit false, .bit false, .bit false, .bit false, .bit false, .bit false, .bit true, .bit true, .bit true, .bit true, .bit true, .bit true, .bit true, .bit true, .bit true, .bit true, .bit true, .bit true, .bit true] 1000 (And.intro (by decide : (16 : Int) ≠ 0) (And.intro h0_0 (And.intro h0_0 (And.intro h0_0 (And.intro h0_0 (And.intro h0_1 (And.intro h0_1 (And.intro h0_1 (And.intro h0_1 (And.intro h0_2 (And.intro h0_2 (And.intro h0_2 (And.intro h0_2 (And.intro h0_3 (And.intro h0_3 (And.intro h0_3 (And.intro h0_3 (And.intro h0_4 (And.intro h0_4 (And.intro h0_4 (And.intro h0_4 (And.intro h0_5 (And.intro h0_5 (And.intro h0_5 (And.intro h0_5 (And.intro h0_5 (And.intro h0_5 (And.intro (Eq.refl true) (And.intro (Eq.refl true) (And.intro (Eq.refl true) (And.intro (Eq.refl true) (And.intro (Eq.refl true) (And.intro (Eq.refl true) (And.intro (Eq.refl true) True.intro)))))))))))))))))))))))))))))))))) (congrArg res_impl_GoodTones (Option.some.inj hm)) (by kernel_rfl)
            · skip
              obtain ⟨h0_6, hm⟩ | ⟨h0_6, hm⟩ := split_ite hm
              · skip
                exact go_end [.bit false, .bit false, .bit false, .bit false, .bit false, .bit false, .bit false, .bit false, .bit false, .bit false, .bit false, .bit false, .bit false, .bit false, .bit false, .bit false, .bit false, .bit false, .bit false, .bit false, .bit false, .bit false, .bit false, .num p0.slots.length, .bit false, .bit false, .bit false, .bit true, .bit true, .bit true, .bit true, .bit true, .bit true, .bit true] 1000 (And.intro (by decide : (16 : Int) ≠ 0) (And.intro h0_0 (And.intro h0_0 (And.intro h0_0 (And.intro h0_0 (And.intro h0_1 (And.intro h0_1 (And.intro h0_1 (And.intro h0_1 (And.intro h0_2 (And.intro h0_2 (And.intro h0_2 (And.intro h0_2 (And.intro h0_3 (And.intro h0_3 (And.intro h0_3 (And.intro h0_3 (And.intro h0_4 (And.intro h0_4 (And.intro h0_4 (And.intro h0_4 (And.intro h0_5 (And.intro h0_5 (And.intro h0_5 (And.intro (len_map (rL (rI .i64)) (show p0.slots.length = p0.slots.length from rfl)) (And.intro h0_5 (And.intro h0_5 (And.intro h0_5 (And.intro h0_6 (And.intro h0_6 (And.intro h0_6 (And.intro h0_6 (And.intro h0_6 (And.intro h0_6 (And.intro (Eq.refl true) True.intro))))))))))))))))))))))))))))))))))) (congrArg res_impl_GoodTones (Option.some.inj hm)) (by kernel_rfl)
              · skip
                obtain ⟨h0_7, hm⟩ | ⟨h0_7, hm⟩ := split_ite hm
                · skip
                  exact go_end [.bit false, .bit false, .bit false, .bit false, .bit false, .bit false, .bit false, .bit false, .bit false, .bit false, .bit false, .bit false, .bit false, .bit false, .bit false, .bit false, .bit false, .bit false, .bit false, .bit false, .bit false, .bit false, .bit false, .num p0.slots.length, .bit false, .bit false, .bit false, .bit false, .bit false, .bit false, .num p0.grades.length, .bit false, .bit false, .bit false, .bit true] 1000 (And.intro (by decide : (16 : Int) ≠ 0) (And.intro h0_0 (And.intro h0_0 (And.intro h0_0 (And.intro h0_0 (And.intro h0_1 (And.intro h0_1 (And.intro h0_1 (And.intro h0_1 (And.intro h0_2 (And.intro h0_2 (And.intro h0_2 (And.intro h0_2 (And.intro h0_3 (And.intro h0_3 (And.intro h0_3 (And.intro h0_3 (And.intro h0_4 (And.intro h0_4 (And.intro h0_4 (And.intro h0_4 (And.intro h0_5 (And.intro h0_5 (And.intro h0_5 (And.intro (len_map (rL (rI .i64)) (show p0.slots.length = p0.slots.length from rfl)) (And.intro h0_5 (And.intro h0_5 (And.intro h0_5 (And.intro h0_6 (And.intro h0_6 (And.intro h0_6 (And.intro (len_map (rL (rI .i64)) (show p0.grades.length = p0.grades.length from rfl)) (And.intro h0_6 (And.intro h0_6 (And.intro h0_6 (And.intro h0_7 True.intro)))))))))))))))))))))))))))))))))))) (congrArg res_impl_GoodTones (Option.some.inj hm)) (by kernel_rfl)
                · skip
                  refine go_on (u' := .c c_impl_GoodTones_17) (K' := K_impl_GoodTones_17) (st' := s_impl_GoodTones_17 p0 0) [.bit false, .bit false, .bit false, .bit false, .bit false, .bit false, .bit false, .bit false, .bit false, .bit false, .bit false, .bit false, .bit false, .bit false, .bit false, .bit false, .bit false, .bit false, .bit false, .bit false, .bit false, .bit false, .bit false, .num p0.slots.length, .bit false, .bit false, .bit false, .bit false, .bit false, .bit false, .num p0.grades.length, .bit false, .bit false, .bit false, .bit false, .num p0.slots.length] 1000 (And.intro (by decide : (16 : Int) ≠ 0) (And.intro h0_0 (And.intro h0_0 (And.intro h0_0 (And.intro h0_0 (And.intro h0_1 (And.intro h0_1 (And.intro h0_1 (And.intro h0_1 (And.intro h0_2 (And.intro h0_2 (And.intro h0_2 (And.intro h0_2 (And.intro h0_3 (And.intro h0_3 (And.intro h0_3 (And.intro h0_3 (And.intro h0_4 (And.intro h0_4 (And.intro h0_4 (And.intro h0_4 (And.intro h0_5 (And.intro h0_5 (And.intro h0_5 (And.intro (len_map (rL (rI .i64)) (show p0.slots.length = p0.slots.length from rfl)) (And.intro h0_5 (And.intro h0_5 (And.intro h0_5 (And.intro h0_6 (And.intro h0_6 (And.intro h0_6 (And.intro (len_map (rL (rI .i64)) (show p0.grades.length = p0.grades.length from rfl)) (And.intro h0_6 (And.intro h0_6 (And.intro h0_6 (And.intro h0_7 (And.intro (len_map (rL (rI .i64)) (show p0.slots.length = p0.slots.length from rfl)) True.intro))))))))))))))))))))))))))))))))))))) ?_ (by kernel_rfl)
                  obtain ⟨e, he, hm⟩ := bind_some hm
                  refine loop_rule (u := .c c_impl_GoodTones_17) (K := K_impl_GoodTones_17) (Q := (Post vf_impl_GoodTones (res_impl_GoodTones r))) (b := lp_impl_GoodTones_17 p0) (We := O_impl_GoodTones_17 (Post vf_impl_GoodTones (res_impl_GoodTones r))) (stJ := fun s => s_impl_GoodTones_17 p0 s) (s := 0) (fun s y hb hin hout => ok_impl_GoodTones_17 p0 s y hb (Post vf_impl_GoodTones (res_impl_GoodTones r)) hin hout) he ?_
                  rcases e with e | e
                  · skip
                    exact congrArg (fun r => Post vf_impl_GoodTones (res_impl_GoodTones r)) (Option.some.inj hm).symm
                  · skip
                    show EvU ext tbl (.c c_impl_GoodTones_35) K_impl_GoodTones_35 (s_impl_GoodTones_35) _
                    exact ok_impl_GoodTones_35 r hm

theorem ok_impl_GoodTones (p0 : S_Tones) (r : Bool) (hm : m_impl_GoodTones p0 = some r) : Runs ext tbl 77 (as_impl_GoodTones p0) (res_impl_GoodTones r) :=
  runs_of (vf := vf_impl_GoodTones) (by kernel_rfl) rfl (st := (enter vf_impl_GoodTones (as_impl_GoodTones p0)).getD default) (by kernel_rfl) (go_on [] 1000 True.intro (ok_impl_GoodTones_0 p0 r hm) (by kernel_rfl))
theorem ok_impl_zbits_bit_6 (p1 : Int) (p0 : S_zbits) (l6_0 : (List Int)) (r : S_zbits) (hm : m_impl_zbits_bit_6 p1 p0 l6_0 = some r) : EvU ext tbl (.c c_impl_zbits_bit_6) K_impl_zbits_bit_6 (s_impl_zbits_bit_6 p1 p0 l6_0) (Post vf_impl_zbits_bit (res_impl_zbits_bit r)) := by
  obtain ⟨x6_0, h6_0, hm⟩ := bind_some hm
  obtain ⟨x6_1, h6_1, hm⟩ := bind_some hm
  exact go_end [.row ((rI .u8) x6_0), .rows (List.map (rI .u8) (l6_0.set (0 + Int.toNat (w64 (Int.tdiv p0.n 8))) (orI .u8 x6_0 (shlI .u8 (wr .u8 p1) (w64 (7 - (Int.tmod p0.n 8))))))), .rows (List.map (rI .u8) (l6_0.set (0 + Int.toNat (w64 (Int.tdiv p0.n 8))) (orI .u8 x6_0 (shlI .u8 (wr .u8 p1) (w64 (7 - (Int.tmod p0.n 8)))))))] 1000 (And.intro (by decide : (8 : Int) ≠ 0) (And.intro (rd_in rfl h6_0) (And.intro (at_row (rI .u8) (rd_get0 h6_0)) (And.intro (by decide : (8 : Int) ≠ 0) (And.intro (ck_p h6_1) (And.intro (rd_in rfl h6_0) (And.intro (put_ob (rI .u8) (orI .u8 x6_0 (shlI .u8 (wr .u8 p1) (w64 (7 - (Int.tmod p0.n 8))))) 0 (.lit (.int .u8 (orI .u8 x6_0 (shlI .u8 (wr .u8 p1) (w64 (7 - (Int.tmod p0.n 8))))))) (rd_get0 h6_0) (by kernel_rfl) (by kernel_rfl)) (And.intro (all_le0 (rI .u8) (l6_0.set (0 + Int.toNat (w64 (Int.tdiv p0.n 8))) (orI .u8 x6_0 (shlI .u8 (wr .u8 p1) (w64 (7 - (Int.tmod p0.n 8)))))) (set_len rfl)) (And.intro (all_t (rI .u8) (l6_0.set (0 + Int.toNat (w64 (Int.tdiv p0.n 8))) (orI .u8 x6_0 (shlI .u8 (wr .u8 p1) (w64 (7 - (Int.tmod p0.n 8)))))) (set_len rfl)) True.intro))))))))) (congrArg res_impl_zbits_bit (Option.some.inj hm)) (by kernel_rfl)

theorem ok_impl_zbits_bit_0 (p1 : Int) (p0 : S_zbits) (r : S_zbits) (hm : m_impl_zbits_bit_0 p1 p0 = some r) : EvU ext tbl (.c c_impl_zbits_bit_0) K_impl_zbits_bit_0 (s_impl_zbits_bit_0 p1 p0) (Post vf_impl_zbits_bit (res_impl_zbits_bit r)) := by
  obtain ⟨h0_0, hm⟩ | ⟨h0_0, hm⟩ := split_ite hm
  · skip
    obtain ⟨x0_1, h0_1, hm⟩ := bind_some hm
    refine go_on (u' := .c c_impl_zbits_bit_6) (K' := K_impl_zbits_bit_6) (st' := s_impl_zbits_bit_6 p1 p0 (p0.b ++ ([0] : List Int))) [.bit true, .rows (List.map (rI .u8) ([0] : List Int)), .num 1, .rows (List.map (rI .u8) (p0.b ++ ([0] : List Int))), .num ((p0.b ++ ([0] : List Int)).length), .num ((p0.b ++ ([0] : List Int)).length)] 1000 (And.intro (by decide : (8 : Int) ≠ 0) (And.intro h0_0 (And.intro (Eq.refl (List.map (rI .u8) ([0] : List Int))) (And.intro (len_map (rI .u8) (show 1 = ([0] : List Int).length from rfl)) (And.intro (all_le (rI .u8) ([0] : List Int) rfl) (And.intro (app_ck (rI .u8) p0.b ([0] : List Int) rfl rfl h0_1) (And.intro (app_tell (rI .u8) p0.b ([0] : List Int) rfl rfl) (And.intro (len_map (rI .u8) (show (p0.b ++ ([0] : List Int)).length = (p0.b ++ ([0] : List Int)).length from rfl)) (And.intro (lens ((p0.b ++ ([0] : List Int)).length) ((p0.b ++ ([0] : List Int)).length) rfl) True.intro))))))))) ?_ (by kernel_rfl)
    exact ok_impl_zbits_bit_6 p1 p0 (p0.b ++ ([0] : List Int)) r hm
  · skip
    refine go_on (u' := .c c_impl_zbits_bit_6) (K' := K_impl_zbits_bit_6) (st' := s_impl_zbits_bit_6 p1 p0 p0.b) [.bit false, .num p0.b.length] 1000 (And.intro (by decide : (8 : Int) ≠ 0) (And.intro h0_0 (And.intro (lens p0.b.length p0.b.length rfl) True.intro))) ?_ (by kernel_rfl)
    exact ok_impl_zbits_bit_6 p1 p0 p0.b r hm

theorem ok_impl_zbits_bit (p0 : S_zbits) (p1 : Int) (r : S_zbits) (hm : m_impl_zbits_bit p0 p1 = some r) : Runs ext tbl 159 (as_impl_zbits_bit p0 p1) (res_impl_zbits_bit r) :=
  runs_of (vf := vf_impl_zbits_bit) (by kernel_rfl) rfl (st := (enter vf_impl_zbits_bit (as_impl_zbits_bit p0 p1)).getD default) (by kernel_rfl) (go_on [.num p0.b.length] 1000 (And.intro (len_map (rI .u8) (rfl : p0.b.length = p0.b.length)) True.intro) (ok_impl_zbits_bit_0 p1 p0 r hm) (by kernel_rfl))
def O_impl_zbits_put_4 (Q : VX → St → Prop) (e : S_zbits) : Prop := Q = Post vf_impl_zbits_put (res_impl_zbits_put e)
theorem ok_impl_zbits_put_4 (p2 : Int) (i4_0 : Int) (i4_1 : Int) (l4_2 : (List Int)) (y : (Int × Int × (List Int)) ⊕ (S_zbits)) (hm : m_impl_zbits_put_4 p2 i4_0 i4_1 l4_2 = some y) (Q : VX → St → Prop)
    (hin : ∀ s, y = .inl s → EvU ext tbl (.c c_impl_zbits_put_4) K_impl_zbits_put_4 (s_impl_zbits_put_4 p2 s.1 s.2.1 s.2.2) Q) (hout : ∀ e, y = .inr e → O_impl_zbits_put_4 Q e) : EvU ext tbl (.c c_impl_zbits_put_4) K_impl_zbits_put_4 (s_impl_zbits_put_4 p2 i4_0 i4_1 l4_2) Q := by
  obtain ⟨h4_0, hm⟩ | ⟨h4_0, hm⟩ := split_ite hm
  · skip
    obtain ⟨x4_1, h4_1, hm⟩ := bind_some hm
    obtain ⟨x4_2, h4_2, hm⟩ := bind_some hm
    refine go_on (u' := .c c_impl_zbits_put_4) (K' := K_impl_zbits_put_4) (st' := s_impl_zbits_put_4 p2 (w64 (i4_0 - 1)) x4_2.n x4_2.b) [.bit true, .rows (List.map (rI .u8) l4_2), .res (res_impl_zbits_bit x4_2), .num x4_2.b.length, .num x4_2.b.length] 1000 (And.intro h4_0 (And.intro (ck_p h4_1) (And.intro (all_le0 (rI .u8) l4_2 rfl) (And.intro (all_t (rI .u8) l4_2 rfl) (And.intro (ok_impl_zbits_bit (S_zbits.mk l4_2 i4_1) (w64 (andI .u64 (shrI .u64 p2 i4_0) 1)) x4_2 h4_2) (And.intro (len_map (rI .u8) (show x4_2.b.length = x4_2.b.length from rfl)) (And.intro (lens x4_2.b.length x4_2.b.length rfl) True.intro))))))) ?_ (by kernel_rfl)
    exact hin ((w64 (i4_0 - 1)), x4_2.n, x4_2.b) (Option.some.inj hm).symm
  · skip
    have hQ : Q = Post vf_impl_zbits_put (res_impl_zbits_put (S_zbits.mk l4_2 i4_1)) := hout (S_zbits.mk l4_2 i4_1) (Option.some.inj hm).symm
    subst hQ
    exact go_end [.bit false, .rows (List.map (rI .u8) l4_2)] 1000 (And.intro h4_0 (And.intro (all_le0 (rI .u8) l4_2 rfl) (And.intro (all_t (rI .u8) l4_2 rfl) True.intro))) (rfl : res_impl_zbits_put (S_zbits.mk l4_2 i4_1) = res_impl_zbits_put (S_zbits.mk l4_2 i4_1)) (by kernel_rfl)

theorem ok_impl_zbits_put_0 (p1 : Int) (p2 : Int) (p0 : S_zbits) (r : S_zbits) (hm : m_impl_zbits_put_0 p1 p2 p0 = some r) : EvU ext tbl (.c c_impl_zbits_put_0) K_impl_zbits_put_0 (s_impl_zbits_put_0 p1 p2 p0) (Post vf_impl_zbits_put (res_impl_zbits_put r)) := by
  refine go_on (u' := .c c_impl_zbits_put_4) (K' := K_impl_zbits_put_4) (st' := s_impl_zbits_put_4 p2 (w64 (p1 - 1)) p0.n p0.b) [.num p0.b.length] 1000 (And.intro (lens p0.b.length p0.b.length rfl) True.intro) ?_ (by kernel_rfl)
  obtain ⟨e, he, hm⟩ := bind_some hm
  refine loop_rule (u := .c c_impl_zbits_put_4) (K := K_impl_zbits_put_4) (Q := (Post vf_impl_zbits_put (res_impl_zbits_put r))) (b := lp_impl_zbits_put_4 p2) (We := O_impl_zbits_put_4 (Post vf_impl_zbits_put (res_impl_zbits_put r))) (stJ := fun s => s_impl_zbits_put_4 p2 s.1 s.2.1 s.2.2) (s := ((w64 (p1 - 1)), p0.n, p0.b)) (fun s y hb hin hout => ok_impl_zbits_put_4 p2 s.1 s.2.1 s.2.2 y hb (Post vf_impl_zbits_put (res_impl_zbits_put r)) hin hout) he ?_
  exact congrArg (fun r => Post vf_impl_zbits_put (res_impl_zbits_put r)) (Option.some.inj hm).symm

theorem ok_impl_zbits_put (p0 : S_zbits) (p1 : Int) (p2 : Int) (r : S_zbits) (hm : m_impl_zbits_put p0 p1 p2 = some r) : Runs ext tbl 78 (as_impl_zbits_put p0 p1 p2) (res_impl_zbits_put r) :=
  runs_of (vf := vf_impl_zbits_put) (by kernel_rfl) rfl (st := (enter vf_impl_zbits_put (as_impl_zbits_put p0 p1 p2)).getD default) (by kernel_rfl) (go_on [.num p0.b.length] 1000 (And.intro (len_map (rI .u8) (rfl : p0.b.length = p0.b.length)) True.intro) (ok_impl_zbits_put_0 p1 p2 p0 r hm) (by kernel_rfl))
theorem ok_impl_Fold_0 (p0 : Int) (r : Int) (hm : m_impl_Fold_0 p0 = some r) : EvU ext tbl (.c c_impl_Fold_0) K_impl_Fold_0 (s_impl_Fold_0 p0) (Post vf_impl_Fold (res_impl_Fold r)) := by
  exact go_end [] 1000 (And.intro (by decide : (0 : Int) ≤ 1) (And.intro (by decide : (0 : Int) ≤ 63) True.intro)) (congrArg res_impl_Fold (Option.some.inj hm)) (by kernel_rfl)

theorem ok_impl_Fold (p0 : Int) (r : Int) (hm : m_impl_Fold p0 = some r) : Runs ext tbl 141 (as_impl_Fold p0) (res_impl_Fold r) :=
  runs_of (vf := vf_impl_Fold) (by kernel_rfl) rfl (st := (enter vf_impl_Fold (as_impl_Fold p0)).getD default) (by kernel_rfl) (go_on [] 1000 True.intro (ok_impl_Fold_0 p0 r hm) (by kernel_rfl))
def O_impl_zkeyCost_17 (Q : VX → St → Prop) (e : (Int)) : Prop := EvU ext tbl (.c c_impl_zkeyCost_29) K_impl_zkeyCost_29 (s_impl_zkeyCost_29 e) Q
theorem ok_impl_zkeyCost_29 (i29_0 : Int) (r : Int) (hm : m_impl_zkeyCost_29 i29_0 = some r) : EvU ext tbl (.c c_impl_zkeyCost_29) K_impl_zkeyCost_29 (s_impl_zkeyCost_29 i29_0) (Post vf_impl_zkeyCost (res_impl_zkeyCost r)) := by
  exact go_end [] 1000 True.intro (congrArg res_impl_zkeyCost (Option.some.inj hm)) (by kernel_rfl)

theorem ok_impl_zkeyCost_17 (p0 : Int) (p1 : (List Int)) (i17_0 : Int) (i17_1 : Int) (y : (Int × Int) ⊕ ((Int))) (hm : m_impl_zkeyCost_17 p0 p1 i17_0 i17_1 = some y) (Q : VX → St → Prop)
    (hin : ∀ s, y = .inl s → EvU ext tbl (.c c_impl_zkeyCost_17) K_impl_zkeyCost_17 (s_impl_zkeyCost_17 p0 p1 s.1 s.2) Q) (hout : ∀ e, y = .inr e → O_impl_zkeyCost_17 Q e) : EvU ext tbl (.c c_impl_zkeyCost_17) K_impl_zkeyCost_17 (s_impl_zkeyCost_17 p0 p1 i17_0 i17_1) Q := by
  obtain ⟨h17_0, hm⟩ | ⟨h17_0, hm⟩ := split_ite hm
  · skip
    obtain ⟨x17_1, h17_1, hm⟩ := bind_some hm
    obtain ⟨x17_2, h17_2, hm⟩ := bind_some hm
    obtain ⟨x17_3, h17_3, hm⟩ := bind_some hm
    refine go_on (u' := .c c_impl_zkeyCost_17) (K' := K_impl_zkeyCost_17) (st' := s_impl_zkeyCost_17 p0 p1 (w64 (i17_0 + (w64 ((w64 ((w64 (shrI .u64 x17_2 p0)) + 1)) + p0)))) (w64 (i17_1 + 1))) [.bit true, .row ((rI .i64) x17_1), .res (res_impl_Fold x17_2)] 1000 (And.intro h17_0 (And.intro (rd_nn h17_1) (And.intro (at_row (rI .i64) (rd_get h17_1)) (And.intro (ok_impl_Fold x17_1 x17_2 h17_2) (And.intro (ck_p h17_3) True.intro))))) ?_ (by kernel_rfl)
    exact hin ((w64 (i17_0 + (w64 ((w64 ((w64 (shrI .u64 x17_2 p0)) + 1)) + p0)))), (w64 (i17_1 + 1))) (Option.some.inj hm).symm
  · skip
    refine go_on (u' := .c c_impl_zkeyCost_29) (K' := K_impl_zkeyCost_29) (st' := s_impl_zkeyCost_29 i17_0) [.bit false] 1000 (And.intro h17_0 True.intro) ?_ (by kernel_rfl)
    exact hout i17_0 (Option.some.inj hm).symm

theorem ok_impl_zkeyCost_0 (p0 : Int) (p1 : (List Int)) (r : Int) (hm : m_impl_zkeyCost_0 p0 p1 = some r) : EvU ext tbl (.c c_impl_zkeyCost_0) K_impl_zkeyCost_0 (s_impl_zkeyCost_0 p0 p1) (Post vf_impl_zkeyCost (res_impl_zkeyCost r)) := by
  obtain ⟨h0_0, hm⟩ | ⟨h0_0, hm⟩ := split_ite hm
  · skip
    exact go_end [.bit true, .num p1.length] 1000 (And.intro h0_0 (And.intro (len_map (rI .i64) (show p1.length = p1.length from rfl)) True.intro)) (congrArg res_impl_zkeyCost (Option.some.inj hm)) (by kernel_rfl)
  · skip
    refine go_on (u' := .c c_impl_zkeyCost_17) (K' := K_impl_zkeyCost_17) (st' := s_impl_zkeyCost_17 p0 p1 5 0) [.bit false, .num p1.length] 1000 (And.intro h0_0 (And.intro (len_map (rI .i64) (show p1.length = p1.length from rfl)) True.intro)) ?_ (by kernel_rfl)
    obtain ⟨e, he, hm⟩ := bind_some hm
    refine loop_rule (u := .c c_impl_zkeyCost_17) (K := K_impl_zkeyCost_17) (Q := (Post vf_impl_zkeyCost (res_impl_zkeyCost r))) (b := lp_impl_zkeyCost_17 p0 p1) (We := O_impl_zkeyCost_17 (Post vf_impl_zkeyCost (res_impl_zkeyCost r))) (stJ := fun s => s_impl_zkeyCost_17 p0 p1 s.1 s.2) (s := (5, 0)) (fun s y hb hin hout => ok_impl_zkeyCost_17 p0 p1 s.1 s.2 y hb (Post vf_impl_zkeyCost (res_impl_zkeyCost r)) hin hout) he ?_
    show EvU ext tbl (.c c_impl_zkeyCost_29) K_impl_zkeyCost_29 (s_impl_zkeyCost_29 e) _
    exact ok_impl_zkeyCost_29 e r hm

theorem ok_impl_zkeyCost (p0 : Int) (p1 : (List Int)) (r : Int) (hm : m_impl_zkeyCost p0 p1 = some r) : Runs ext tbl 79 (as_impl_zkeyCost p0 p1) (res_impl_zkeyCost r) :=
  runs_of (vf := vf_impl_zkeyCost) (by kernel_rfl) rfl (st := (enter vf_impl_zkeyCost (as_impl_zkeyCost p0 p1)).getD default) (by kernel_rfl) (go_on [] 1000 True.intro (ok_impl_zkeyCost_0 p0 p1 r hm) (by kernel_rfl))
def O_impl_zbits_rice_7 (p2 : Int) (x0_0 : Int) (Q : VX → St → Prop) (e : (Int × (List Int))) : Prop := EvU ext tbl (.c c_impl_zbits_rice_17) K_impl_zbits_rice_17 (s_impl_zbits_rice_17 p2 x0_0 e.1 e.2) Q
theorem ok_impl_zbits_rice_17 (p2 : Int) (x0_0 : Int) (i17_0 : Int) (l17_1 : (List Int)) (r : S_zbits) (hm : m_impl_zbits_rice_17 p2 x0_0 i17_0 l17_1 = some r) : EvU ext tbl (.c c_impl_zbits_rice_17) K_impl_zbits_rice_17 (s_impl_zbits_rice_17 p2 x0_0 i17_0 l17_1) (Post vf_impl_zbits_rice (res_impl_zbits_rice r)) := by
  obtain ⟨x17_0, h17_0, hm⟩ := bind_some hm
  obtain ⟨x17_1, h17_1, hm⟩ := bind_some hm
  exact go_end [.rows (List.map (rI .u8) l17_1), .res (res_impl_zbits_bit x17_0), .num x17_0.b.length, .rows (List.map (rI .u8) x17_0.b), .res (res_impl_zbits_put x17_1), .num x17_1.b.length, .rows (List.map (rI .u8) x17_1.b)] 1000 (And.intro (all_le0 (rI .u8) l17_1 rfl) (And.intro (all_t (rI .u8) l17_1 rfl) (And.intro (ok_impl_zbits_bit (S_zbits.mk l17_1 i17_0) 1 x17_0 h17_0) (And.intro (len_map (rI .u8) (show x17_0.b.length = x17_0.b.length from rfl)) (And.intro (all_le0 (rI .u8) x17_0.b rfl) (And.intro (all_t (rI .u8) x17_0.b rfl) (And.intro (ok_impl_zbits_put x17_0 p2 x0_0 x17_1 h17_1) (And.intro (len_map (rI .u8) (show x17_1.b.length = x17_1.b.length from rfl)) (And.intro (all_le0 (rI .u8) x17_1.b rfl) (And.intro (all_t (rI .u8) x17_1.b rfl) True.intro)))))))))) (congrArg res_impl_zbits_rice (Option.some.inj hm)) (by kernel_rfl)

theorem ok_impl_zbits_rice_7 (p2 : Int) (x0_0 : Int) (i7_0 : Int) (i7_1 : Int) (i7_2 : Int) (l7_3 : (List Int)) (y : (Int × Int × Int × (List Int)) ⊕ ((Int × (List Int)))) (hm : m_impl_zbits_rice_7 p2 x0_0 i7_0 i7_1 i7_2 l7_3 = some y) (Q : VX → St → Prop)
    (hin : ∀ s, y = .inl s → EvU ext tbl (.c c_impl_zbits_rice_7) K_impl_zbits_rice_7 (s_impl_zbits_rice_7 p2 x0_0 s.1 s.2.1 s.2.2.1 s.2.2.2) Q) (hout : ∀ e, y = .inr e → O_impl_zbits_rice_7 p2 x0_0 Q e) : EvU ext tbl (.c c_impl_zbits_rice_7) K_impl_zbits_rice_7 (s_impl_zbits_rice_7 p2 x0_0 i7_0 i7_1 i7_2 l7_3) Q := by
  obtain ⟨h7_0, hm⟩ | ⟨h7_0, hm⟩ := split_ite hm
  · skip
    obtain ⟨x7_1, h7_1, hm⟩ := bind_some hm
    refine go_on (u' := .c c_impl_zbits_rice_7) (K' := K_impl_zbits_rice_7) (st' := s_impl_zbits_rice_7 p2 x0_0 i7_0 (wr .u64 (i7_1 + 1)) x7_1.n x7_1.b) [.bit true, .rows (List.map (rI .u8) l7_3), .res (res_impl_zbits_bit x7_1), .num x7_1.b.length, .num x7_1.b.length] 1000 (And.intro h7_0 (And.intro (all_le0 (rI .u8) l7_3 rfl) (And.intro (all_t (rI .u8) l7_3 rfl) (And.intro (ok_impl_zbits_bit (S_zbits.mk l7_3 i7_2) 0 x7_1 h7_1) (And.intro (len_map (rI .u8) (show x7_1.b.length = x7_1.b.length from rfl)) (And.intro (lens x7_1.b.length x7_1.b.length rfl) True.intro)))))) ?_ (by kernel_rfl)
    exact hin (i7_0, (wr .u64 (i7_1 + 1)), x7_1.n, x7_1.b) (Option.some.inj hm).symm
  · skip
    refine go_on (u' := .c c_impl_zbits_rice_17) (K' := K_impl_zbits_rice_17) (st' := s_impl_zbits_rice_17 p2 x0_0 i7_2 l7_3) [.bit false, .num l7_3.length] 1000 (And.intro h7_0 (And.intro (lens l7_3.length l7_3.length rfl) True.intro)) ?_ (by kernel_rfl)
    exact hout (i7_2, l7_3) (Option.some.inj hm).symm

theorem ok_impl_zbits_rice_0 (p1 : Int) (p2 : Int) (p0 : S_zbits) (r : S_zbits) (hm : m_impl_zbits_rice_0 p1 p2 p0 = some r) : EvU ext tbl (.c c_impl_zbits_rice_0) K_impl_zbits_rice_0 (s_impl_zbits_rice_0 p1 p2 p0) (Post vf_impl_zbits_rice (res_impl_zbits_rice r)) := by
  obtain ⟨x0_0, h0_0, hm⟩ := bind_some hm
  obtain ⟨x0_1, h0_1, hm⟩ := bind_some hm
  refine go_on (u' := .c c_impl_zbits_rice_7) (K' := K_impl_zbits_rice_7) (st' := s_impl_zbits_rice_7 p2 x0_0 (shrI .u64 x0_0 p2) 0 p0.n p0.b) [.res (res_impl_Fold x0_0), .num p0.b.length] 1000 (And.intro (ok_impl_Fold p1 x0_0 h0_0) (And.intro (ck_p h0_1) (And.intro (lens p0.b.length p0.b.length rfl) True.intro))) ?_ (by kernel_rfl)
  obtain ⟨e, he, hm⟩ := bind_some hm
  refine loop_rule (u := .c c_impl_zbits_rice_7) (K := K_impl_zbits_rice_7) (Q := (Post vf_impl_zbits_rice (res_impl_zbits_rice r))) (b := lp_impl_zbits_rice_7 p2 x0_0) (We := O_impl_zbits_rice_7 p2 x0_0 (Post vf_impl_zbits_rice (res_impl_zbits_rice r))) (stJ := fun s => s_impl_zbits_rice_7 p2 x0_0 s.1 s.2.1 s.2.2.1 s.2.2.2) (s := ((shrI .u64 x0_0 p2), 0, p0.n, p0.b)) (fun s y hb hin hout => ok_impl_zbits_rice_7 p2 x0_0 s.1 s.2.1 s.2.2.1 s.2.2.2 y hb (Post vf_impl_zbits_rice (res_impl_zbits_rice r)) hin hout) he ?_
  show EvU ext tbl (.c c_impl_zbits_rice_17) K_impl_zbits_rice_17 (s_impl_zbits_rice_17 p2 x0_0 e.1 e.2) _
  exact ok_impl_zbits_rice_17 p2 x0_0 e.1 e.2 r hm

theorem ok_impl_zbits_rice (p0 : S_zbits) (p1 : Int) (p2 : Int) (r : S_zbits) (hm : m_impl_zbits_rice p0 p1 p2 = some r) : Runs ext tbl 80 (as_impl_zbits_rice p0 p1 p2) (res_impl_zbits_rice r) :=
  runs_of (vf := vf_impl_zbits_rice) (by kernel_rfl) rfl (st := (enter vf_impl_zbits_rice (as_impl_zbits_rice p0 p1 p2)).getD default) (by kernel_rfl) (go_on [.num p0.b.length] 1000 (And.intro (len_map (rI .u8) (rfl : p0.b.length = p0.b.length)) True.intro) (ok_impl_zbits_rice_0 p1 p2 p0 r hm) (by kernel_rfl))
def O_impl_EncodeTones_98 (p0 : S_Tones) (i42_0 : Int) (Q : VX → St → Prop) (e : (Int × (List Int))) : Prop := EvU ext tbl (.c c_impl_EncodeTones_110) K_impl_EncodeTones_110 (s_impl_EncodeTones_110 p0 i42_0 e.1 e.2) Q
def O_impl_EncodeTones_76 (x42_1 : (List Int)) (p0 : S_Tones) (i42_0 : Int) (i69_0 : Int) (l69_1 : (List Int)) (Q : VX → St → Prop) (e : (Int)) : Prop := EvU ext tbl (.c c_impl_EncodeTones_92) K_impl_EncodeTones_92 (s_impl_EncodeTones_92 x42_1 p0 i42_0 i69_0 l69_1 e) Q
def O_impl_EncodeTones_57 (x42_1 : (List Int)) (p0 : S_Tones) (i42_0 : Int) (Q : VX → St → Prop) (e : (Int × (List Int))) : Prop := EvU ext tbl (.c c_impl_EncodeTones_69) K_impl_EncodeTones_69 (s_impl_EncodeTones_69 x42_1 p0 i42_0 e.1 e.2) Q
def O_impl_EncodeTones_42 (Q : VX → St → Prop) (e : (Int × (List Int))) : Prop := EvU ext tbl (.c c_impl_EncodeTones_111) K_impl_EncodeTones_111 (s_impl_EncodeTones_111 e.1 e.2) Q
def O_impl_EncodeTones_17 (p0 : S_Tones) (Q : VX → St → Prop) (e : (Int × (List Int))) : Prop := EvU ext tbl (.c c_impl_EncodeTones_29) K_impl_EncodeTones_29 (s_impl_EncodeTones_29 p0 e.1 e.2) Q
theorem ok_impl_EncodeTones_88 (x42_1 : (List Int)) (i76_0 : Int) (i76_1 : Int) (i76_2 : Int) (x76_1 : Int) (p0 : S_Tones) (i42_0 : Int) (i69_0 : Int) (l69_1 : (List Int)) (b88_0 : Bool) (y : (Int × Int × Int) ⊕ ((Int))) (hm : m_impl_EncodeTones_88 x42_1 i76_0 i76_1 i76_2 x76_1 p0 i42_0 i69_0 l69_1 b88_0 = some y) (Q : VX → St → Prop)
    (hin : ∀ s, y = .inl s → EvU ext tbl (.c c_impl_EncodeTones_76) K_impl_EncodeTones_76 (s_impl_EncodeTones_76 x42_1 p0 i42_0 i69_0 l69_1 s.1 s.2.1 s.2.2) Q) (hout : ∀ e, y = .inr e → O_impl_EncodeTones_76 x42_1 p0 i42_0 i69_0 l69_1 Q e) : EvU ext tbl (.c c_impl_EncodeTones_88) K_impl_EncodeTones_88 (s_impl_EncodeTones_88 x42_1 i76_0 i76_1 i76_2 x76_1 p0 i42_0 i69_0 l69_1 b88_0) Q := by
  obtain ⟨h88_0, hm⟩ | ⟨h88_0, hm⟩ := split_ite hm
  · skip
    refine go_on (u' := .c c_impl_EncodeTones_76) (K' := K_impl_EncodeTones_76) (st' := s_impl_EncodeTones_76 x42_1 p0 i42_0 i69_0 l69_1 i76_2 x76_1 (w64 (i76_2 + 1))) [.bit true, .num l69_1.length] 1000 (And.intro h88_0 (And.intro (lens l69_1.length l69_1.length rfl) True.intro)) ?_ (by kernel_rfl)
    exact hin (i76_2, x76_1, (w64 (i76_2 + 1))) (Option.some.inj hm).symm
  · skip
    refine go_on (u' := .c c_impl_EncodeTones_76) (K' := K_impl_EncodeTones_76) (st' := s_impl_EncodeTones_76 x42_1 p0 i42_0 i69_0 l69_1 i76_0 i76_1 (w64 (i76_2 + 1))) [.bit false, .num l69_1.length] 1000 (And.intro h88_0 (And.intro (lens l69_1.length l69_1.length rfl) True.intro)) ?_ (by kernel_rfl)
    exact hin (i76_0, i76_1, (w64 (i76_2 + 1))) (Option.some.inj hm).symm

theorem ok_impl_EncodeTones_110 (p0 : S_Tones) (i42_0 : Int) (i110_0 : Int) (l110_1 : (List Int)) (y : (Int × Int × (List Int)) ⊕ ((Int × (List Int)))) (hm : m_impl_EncodeTones_110 p0 i42_0 i110_0 l110_1 = some y) (Q : VX → St → Prop)
    (hin : ∀ s, y = .inl s → EvU ext tbl (.c c_impl_EncodeTones_42) K_impl_EncodeTones_42 (s_impl_EncodeTones_42 p0 s.1 s.2.1 s.2.2) Q) (hout : ∀ e, y = .inr e → O_impl_EncodeTones_42 Q e) : EvU ext tbl (.c c_impl_EncodeTones_110) K_impl_EncodeTones_110 (s_impl_EncodeTones_110 p0 i42_0 i110_0 l110_1) Q := by
  refine go_on (u' := .c c_impl_EncodeTones_42) (K' := K_impl_EncodeTones_42) (st' := s_impl_EncodeTones_42 p0 (w64 (i42_0 + 1)) i110_0 l110_1) [.num l110_1.length] 1000 (And.intro (lens l110_1.length l110_1.length rfl) True.intro) ?_ (by kernel_rfl)
  exact hin ((w64 (i42_0 + 1)), i110_0, l110_1) (Option.some.inj hm).symm

theorem ok_impl_EncodeTones_98 (i92_0 : Int) (p0 : S_Tones) (i42_0 : Int) (x42_1 : (List Int)) (i98_0 : Int) (i98_1 : Int) (l98_2 : (List Int)) (y : (Int × Int × (List Int)) ⊕ ((Int × (List Int)))) (hm : m_impl_EncodeTones_98 i92_0 p0 i42_0 x42_1 i98_0 i98_1 l98_2 = some y) (Q : VX → St → Prop)
    (hin : ∀ s, y = .inl s → EvU ext tbl (.c c_impl_EncodeTones_98) K_impl_EncodeTones_98 (s_impl_EncodeTones_98 i92_0 p0 i42_0 x42_1 s.1 s.2.1 s.2.2) Q) (hout : ∀ e, y = .inr e → O_impl_EncodeTones_98 p0 i42_0 Q e) : EvU ext tbl (.c c_impl_EncodeTones_98) K_impl_EncodeTones_98 (s_impl_EncodeTones_98 i92_0 p0 i42_0 x42_1 i98_0 i98_1 l98_2) Q := by
  obtain ⟨h98_0, hm⟩ | ⟨h98_0, hm⟩ := split_ite hm
  · skip
    obtain ⟨x98_1, h98_1, hm⟩ := bind_some hm
    obtain ⟨x98_2, h98_2, hm⟩ := bind_some hm
    refine go_on (u' := .c c_impl_EncodeTones_98) (K' := K_impl_EncodeTones_98) (st' := s_impl_EncodeTones_98 i92_0 p0 i42_0 x42_1 (w64 (i98_0 + 1)) x98_2.n x98_2.b) [.bit true, .row ((rI .i64) x98_1), .rows (List.map (rI .u8) l98_2), .res (res_impl_zbits_rice x98_2), .num x98_2.b.length, .num x98_2.b.length] 1000 (And.intro h98_0 (And.intro (rd_nn h98_1) (And.intro (at_row (rI .i64) (rd_get h98_1)) (And.intro (all_le0 (rI .u8) l98_2 rfl) (And.intro (all_t (rI .u8) l98_2 rfl) (And.intro (ok_impl_zbits_rice (S_zbits.mk l98_2 i98_1) x98_1 i92_0 x98_2 h98_2) (And.intro (len_map (rI .u8) (show x98_2.b.length = x98_2.b.length from rfl)) (And.intro (lens x98_2.b.length x98_2.b.length rfl) True.intro)))))))) ?_ (by kernel_rfl)
    exact hin ((w64 (i98_0 + 1)), x98_2.n, x98_2.b) (Option.some.inj hm).symm
  · skip
    refine go_on (u' := .c c_impl_EncodeTones_110) (K' := K_impl_EncodeTones_110) (st' := s_impl_EncodeTones_110 p0 i42_0 i98_1 l98_2) [.bit false, .num l98_2.length] 1000 (And.intro h98_0 (And.intro (lens l98_2.length l98_2.length rfl) True.intro)) ?_ (by kernel_rfl)
    exact hout (i98_1, l98_2) (Option.some.inj hm).symm

theorem ok_impl_EncodeTones_92 (x42_1 : (List Int)) (p0 : S_Tones) (i42_0 : Int) (i69_0 : Int) (l69_1 : (List Int)) (i92_0 : Int) (y : (Int × Int × (List Int)) ⊕ ((Int × (List Int)))) (hm : m_impl_EncodeTones_92 x42_1 p0 i42_0 i69_0 l69_1 i92_0 = some y) (Q : VX → St → Prop)
    (hin : ∀ s, y = .inl s → EvU ext tbl (.c c_impl_EncodeTones_42) K_impl_EncodeTones_42 (s_impl_EncodeTones_42 p0 s.1 s.2.1 s.2.2) Q) (hout : ∀ e, y = .inr e → O_impl_EncodeTones_42 Q e) : EvU ext tbl (.c c_impl_EncodeTones_92) K_impl_EncodeTones_92 (s_impl_EncodeTones_92 x42_1 p0 i42_0 i69_0 l69_1 i92_0) Q := by
  obtain ⟨x92_0, h92_0, hm⟩ := bind_some hm
  refine go_on (u' := .c c_impl_EncodeTones_98) (K' := K_impl_EncodeTones_98) (st' := s_impl_EncodeTones_98 i92_0 p0 i42_0 x42_1 0 x92_0.n x92_0.b) [.rows (List.map (rI .u8) l69_1), .res (res_impl_zbits_put x92_0), .num x92_0.b.length, .num x42_1.length, .num x92_0.b.length] 1000 (And.intro (all_le0 (rI .u8) l69_1 rfl) (And.intro (all_t (rI .u8) l69_1 rfl) (And.intro (ok_impl_zbits_put (S_zbits.mk l69_1 i69_0) 5 (wr .u64 i92_0) x92_0 h92_0) (And.intro (len_map (rI .u8) (show x92_0.b.length = x92_0.b.length from rfl)) (And.intro (len_map (rI .i64) (show x42_1.length = x42_1.length from rfl)) (And.intro (lens x92_0.b.length x92_0.b.length rfl) True.intro)))))) ?_ (by kernel_rfl)
  obtain ⟨e, he, hm⟩ := bind_some hm
  refine loop_rule (u := .c c_impl_EncodeTones_98) (K := K_impl_EncodeTones_98) (Q := Q) (b := lp_impl_EncodeTones_98 i92_0 p0 i42_0 x42_1) (We := O_impl_EncodeTones_98 p0 i42_0 Q) (stJ := fun s => s_impl_EncodeTones_98 i92_0 p0 i42_0 x42_1 s.1 s.2.1 s.2.2) (s := (0, x92_0.n, x92_0.b)) (fun s y hb hin hout => ok_impl_EncodeTones_98 i92_0 p0 i42_0 x42_1 s.1 s.2.1 s.2.2 y hb Q hin hout) he ?_
  show EvU ext tbl (.c c_impl_EncodeTones_110) K_impl_EncodeTones_110 (s_impl_EncodeTones_110 p0 i42_0 e.1 e.2) _
  exact ok_impl_EncodeTones_110 p0 i42_0 e.1 e.2 y hm Q hin hout

theorem ok_impl_EncodeTones_76 (x42_1 : (List Int)) (p0 : S_Tones) (i42_0 : Int) (i69_0 : Int) (l69_1 : (List Int)) (i76_0 : Int) (i76_1 : Int) (i76_2 : Int) (y : (Int × Int × Int) ⊕ ((Int))) (hm : m_impl_EncodeTones_76 x42_1 p0 i42_0 i69_0 l69_1 i76_0 i76_1 i76_2 = some y) (Q : VX → St → Prop)
    (hin : ∀ s, y = .inl s → EvU ext tbl (.c c_impl_EncodeTones_76) K_impl_EncodeTones_76 (s_impl_EncodeTones_76 x42_1 p0 i42_0 i69_0 l69_1 s.1 s.2.1 s.2.2) Q) (hout : ∀ e, y = .inr e → O_impl_EncodeTones_76 x42_1 p0 i42_0 i69_0 l69_1 Q e) : EvU ext tbl (.c c_impl_EncodeTones_76) K_impl_EncodeTones_76 (s_impl_EncodeTones_76 x42_1 p0 i42_0 i69_0 l69_1 i76_0 i76_1 i76_2) Q := by
  obtain ⟨h76_0, hm⟩ | ⟨h76_0, hm⟩ := split_ite hm
  · skip
    obtain ⟨x76_1, h76_1, hm⟩ := bind_some hm
    obtain ⟨h76_2, hm⟩ | ⟨h76_2, hm⟩ := split_ite hm
    · skip
      refine go_on (u' := .c c_impl_EncodeTones_88) (K' := K_impl_EncodeTones_88) (st' := s_impl_EncodeTones_88 x42_1 i76_0 i76_1 i76_2 x76_1 p0 i42_0 i69_0 l69_1 true) [.bit true, .res (res_impl_zkeyCost x76_1), .bit true, .bit true, .bit true, .bit true, .num l69_1.length] 1000 (And.intro h76_0 (And.intro (ok_impl_zkeyCost i76_2 x42_1 x76_1 h76_1) (And.intro h76_2 (And.intro h76_2 (And.intro h76_2 (And.intro h76_2 (And.intro (lens l69_1.length l69_1.length rfl) True.intro))))))) ?_ (by kernel_rfl)
      exact ok_impl_EncodeTones_88 x42_1 i76_0 i76_1 i76_2 x76_1 p0 i42_0 i69_0 l69_1 true y hm Q hin hout
    · skip
      refine go_on (u' := .c c_impl_EncodeTones_88) (K' := K_impl_EncodeTones_88) (st' := s_impl_EncodeTones_88 x42_1 i76_0 i76_1 i76_2 x76_1 p0 i42_0 i69_0 l69_1 (decide (x76_1 < i76_1))) [.bit true, .res (res_impl_zkeyCost x76_1), .bit false, .bit false, .bit false, .bit false, .num l69_1.length] 1000 (And.intro h76_0 (And.intro (ok_impl_zkeyCost i76_2 x42_1 x76_1 h76_1) (And.intro h76_2 (And.intro h76_2 (And.intro h76_2 (And.intro h76_2 (And.intro (lens l69_1.length l69_1.length rfl) True.intro))))))) ?_ (by kernel_rfl)
      exact ok_impl_EncodeTones_88 x42_1 i76_0 i76_1 i76_2 x76_1 p0 i42_0 i69_0 l69_1 (decide (x76_1 < i76_1)) y hm Q hin hout
  · skip
    refine go_on (u' := .c c_impl_EncodeTones_92) (K' := K_impl_EncodeTones_92) (st' := s_impl_EncodeTones_92 x42_1 p0 i42_0 i69_0 l69_1 i76_0) [.bit false, .num l69_1.length] 1000 (And.intro h76_0 (And.intro (lens l69_1.length l69_1.length rfl) True.intro)) ?_ (by kernel_rfl)
    exact hout i76_0 (Option.some.inj hm).symm

theorem ok_impl_EncodeTones_69 (x42_1 : (List Int)) (p0 : S_Tones) (i42_0 : Int) (i69_0 : Int) (l69_1 : (List Int)) (y : (Int × Int × (List Int)) ⊕ ((Int × (List Int)))) (hm : m_impl_EncodeTones_69 x42_1 p0 i42_0 i69_0 l69_1 = some y) (Q : VX → St → Prop)
    (hin : ∀ s, y = .inl s → EvU ext tbl (.c c_impl_EncodeTones_42) K_impl_EncodeTones_42 (s_impl_EncodeTones_42 p0 s.1 s.2.1 s.2.2) Q) (hout : ∀ e, y = .inr e → O_impl_EncodeTones_42 Q e) : EvU ext tbl (.c c_impl_EncodeTones_69) K_impl_EncodeTones_69 (s_impl_EncodeTones_69 x42_1 p0 i42_0 i69_0 l69_1) Q := by
  refine go_on (u' := .c c_impl_EncodeTones_76) (K' := K_impl_EncodeTones_76) (st' := s_impl_EncodeTones_76 x42_1 p0 i42_0 i69_0 l69_1 0 (-1) 0) [.num l69_1.length] 1000 (And.intro (lens l69_1.length l69_1.length rfl) True.intro) ?_ (by kernel_rfl)
  obtain ⟨e, he, hm⟩ := bind_some hm
  refine loop_rule (u := .c c_impl_EncodeTones_76) (K := K_impl_EncodeTones_76) (Q := Q) (b := lp_impl_EncodeTones_76 x42_1 p0 i42_0 i69_0 l69_1) (We := O_impl_EncodeTones_76 x42_1 p0 i42_0 i69_0 l69_1 Q) (stJ := fun s => s_impl_EncodeTones_76 x42_1 p0 i42_0 i69_0 l69_1 s.1 s.2.1 s.2.2) (s := (0, (-1), 0)) (fun s y hb hin hout => ok_impl_EncodeTones_76 x42_1 p0 i42_0 i69_0 l69_1 s.1 s.2.1 s.2.2 y hb Q hin hout) he ?_
  show EvU ext tbl (.c c_impl_EncodeTones_92) K_impl_EncodeTones_92 (s_impl_EncodeTones_92 x42_1 p0 i42_0 i69_0 l69_1 e) _
  exact ok_impl_EncodeTones_92 x42_1 p0 i42_0 i69_0 l69_1 e y hm Q hin hout

theorem ok_impl_EncodeTones_57 (x42_1 : (List Int)) (p0 : S_Tones) (i42_0 : Int) (x42_2 : (List Int)) (i57_0 : Int) (i57_1 : Int) (l57_2 : (List Int)) (y : (Int × Int × (List Int)) ⊕ ((Int × (List Int)))) (hm : m_impl_EncodeTones_57 x42_1 p0 i42_0 x42_2 i57_0 i57_1 l57_2 = some y) (Q : VX → St → Prop)
    (hin : ∀ s, y = .inl s → EvU ext tbl (.c c_impl_EncodeTones_57) K_impl_EncodeTones_57 (s_impl_EncodeTones_57 x42_1 p0 i42_0 x42_2 s.1 s.2.1 s.2.2) Q) (hout : ∀ e, y = .inr e → O_impl_EncodeTones_57 x42_1 p0 i42_0 Q e) : EvU ext tbl (.c c_impl_EncodeTones_57) K_impl_EncodeTones_57 (s_impl_EncodeTones_57 x42_1 p0 i42_0 x42_2 i57_0 i57_1 l57_2) Q := by
  obtain ⟨h57_0, hm⟩ | ⟨h57_0, hm⟩ := split_ite hm
  · skip
    obtain ⟨x57_1, h57_1, hm⟩ := bind_some hm
    obtain ⟨x57_2, h57_2, hm⟩ := bind_some hm
    refine go_on (u' := .c c_impl_EncodeTones_57) (K' := K_impl_EncodeTones_57) (st' := s_impl_EncodeTones_57 x42_1 p0 i42_0 x42_2 (w64 (i57_0 + 1)) x57_2.n x57_2.b) [.bit true, .row ((rI .i64) x57_1), .rows (List.map (rI .u8) l57_2), .res (res_impl_zbits_put x57_2), .num x57_2.b.length, .num x57_2.b.length] 1000 (And.intro h57_0 (And.intro (rd_nn h57_1) (And.intro (at_row (rI .i64) (rd_get h57_1)) (And.intro (all_le0 (rI .u8) l57_2 rfl) (And.intro (all_t (rI .u8) l57_2 rfl) (And.intro (ok_impl_zbits_put (S_zbits.mk l57_2 i57_1) 4 (wr .u64 x57_1) x57_2 h57_2) (And.intro (len_map (rI .u8) (show x57_2.b.length = x57_2.b.length from rfl)) (And.intro (lens x57_2.b.length x57_2.b.length rfl) True.intro)))))))) ?_ (by kernel_rfl)
    exact hin ((w64 (i57_0 + 1)), x57_2.n, x57_2.b) (Option.some.inj hm).symm
  · skip
    refine go_on (u' := .c c_impl_EncodeTones_69) (K' := K_impl_EncodeTones_69) (st' := s_impl_EncodeTones_69 x42_1 p0 i42_0 i57_1 l57_2) [.bit false, .num l57_2.length] 1000 (And.intro h57_0 (And.intro (lens l57_2.length l57_2.length rfl) True.intro)) ?_ (by kernel_rfl)
    exact hout (i57_1, l57_2) (Option.some.inj hm).symm

theorem ok_impl_EncodeTones_111 (i111_0 : Int) (l111_1 : (List Int)) (r : (List Int)) (hm : m_impl_EncodeTones_111 i111_0 l111_1 = some r) : EvU ext tbl (.c c_impl_EncodeTones_111) K_impl_EncodeTones_111 (s_impl_EncodeTones_111 i111_0 l111_1) (Post vf_impl_EncodeTones (res_impl_EncodeTones r)) := by
  obtain ⟨h111_0, hm⟩ | ⟨h111_0, hm⟩ := split_ite hm
  · skip
    exact go_end [.bit true, .rows (List.map (rI .u8) ([] : List Int))] 1000 (And.intro h111_0 (And.intro (all_le0 (rI .u8) ([] : List Int) rfl) (And.intro (all_t (rI .u8) ([] : List Int) rfl) True.intro))) (congrArg res_impl_EncodeTones (Option.some.inj hm)) (by kernel_rfl)
  · skip
    exact go_end [.bit false, .rows (List.map (rI .u8) l111_1)] 1000 (And.intro h111_0 (And.intro (all_le0 (rI .u8) l111_1 rfl) (And.intro (all_t (rI .u8) l111_1 rfl) True.intro))) (congrArg res_impl_EncodeTones (Option.some.inj hm)) (by kernel_rfl)

theorem ok_impl_EncodeTones_42 (p0 : S_Tones) (i42_0 : Int) (i42_1 : Int) (l42_2 : (List Int)) (y : (Int × Int × (List Int)) ⊕ ((Int × (List Int)))) (hm : m_impl_EncodeTones_42 p0 i42_0 i42_1 l42_2 = some y) (Q : VX → St → Prop)
    (hin : ∀ s, y = .inl s → EvU ext tbl (.c c_impl_EncodeTones_42) K_impl_EncodeTones_42 (s_impl_EncodeTones_42 p0 s.1 s.2.1 s.2.2) Q) (hout : ∀ e, y = .inr e → O_impl_EncodeTones_42 Q e) : EvU ext tbl (.c c_impl_EncodeTones_42) K_impl_EncodeTones_42 (s_impl_EncodeTones_42 p0 i42_0 i42_1 l42_2) Q := by
  obtain ⟨h42_0, hm⟩ | ⟨h42_0, hm⟩ := split_ite hm
  · skip
    obtain ⟨x42_1, h42_1, hm⟩ := bind_some hm
    obtain ⟨x42_2, h42_2, hm⟩ := bind_some hm
    refine go_on (u' := .c c_impl_EncodeTones_57) (K' := K_impl_EncodeTones_57) (st' := s_impl_EncodeTones_57 x42_1 p0 i42_0 x42_2 0 i42_1 l42_2) [.bit true, .row ((rL (rI .i64)) x42_1), .row ((rL (rI .i64)) x42_2), .num x42_2.length, .num l42_2.length] 1000 (And.intro h42_0 (And.intro (rd_nn h42_1) (And.intro (at_row (rL (rI .i64)) (rd_get h42_1)) (And.intro (rd_nn h42_2) (And.intro (at_row (rL (rI .i64)) (rd_get h42_2)) (And.intro (len_map (rI .i64) (show x42_2.length = x42_2.length from rfl)) (And.intro (lens l42_2.length l42_2.length rfl) True.intro))))))) ?_ (by kernel_rfl)
    obtain ⟨e, he, hm⟩ := bind_some hm
    refine loop_rule (u := .c c_impl_EncodeTones_57) (K := K_impl_EncodeTones_57) (Q := Q) (b := lp_impl_EncodeTones_57 x42_1 p0 i42_0 x42_2) (We := O_impl_EncodeTones_57 x42_1 p0 i42_0 Q) (stJ := fun s => s_impl_EncodeTones_57 x42_1 p0 i42_0 x42_2 s.1 s.2.1 s.2.2) (s := (0, i42_1, l42_2)) (fun s y hb hin hout => ok_impl_EncodeTones_57 x42_1 p0 i42_0 x42_2 s.1 s.2.1 s.2.2 y hb Q hin hout) he ?_
    show EvU ext tbl (.c c_impl_EncodeTones_69) K_impl_EncodeTones_69 (s_impl_EncodeTones_69 x42_1 p0 i42_0 e.1 e.2) _
    exact ok_impl_EncodeTones_69 x42_1 p0 i42_0 e.1 e.2 y hm Q hin hout
  · skip
    refine go_on (u' := .c c_impl_EncodeTones_111) (K' := K_impl_EncodeTones_111) (st' := s_impl_EncodeTones_111 i42_1 l42_2) [.bit false, .num l42_2.length] 1000 (And.intro h42_0 (And.intro (lens l42_2.length l42_2.length rfl) True.intro)) ?_ (by kernel_rfl)
    exact hout (i42_1, l42_2) (Option.some.inj hm).symm

theorem ok_impl_EncodeTones_29 (p0 : S_Tones) (i29_0 : Int) (l29_1 : (List Int)) (r : (List Int)) (hm : m_impl_EncodeTones_29 p0 i29_0 l29_1 = some r) : EvU ext tbl (.c c_impl_EncodeTones_29) K_impl_EncodeTones_29 (s_impl_EncodeTones_29 p0 i29_0 l29_1) (Post vf_impl_EncodeTones (res_impl_EncodeTones r)) := by
  obtain ⟨x29_0, h29_0, hm⟩ := bind_some hm
  obtain ⟨x29_1, h29_1, hm⟩ := bind_some hm
  obtain ⟨x29_2, h29_2, hm⟩ := bind_some hm
  obtain ⟨x29_3, h29_3, hm⟩ := bind_some hm
  refine go_on (u' := .c c_impl_EncodeTones_42) (K' := K_impl_EncodeTones_42) (st' := s_impl_EncodeTones_42 p0 0 x29_3.n x29_3.b) [.rows (List.map (rI .u8) l29_1), .res (res_impl_zbits_put x29_0), .num x29_0.b.length, .rows (List.map (rI .u8) x29_0.b), .res (res_impl_zbits_put x29_1), .num x29_1.b.length, .rows (List.map (rI .u8) x29_1.b), .res (res_impl_zbits_put x29_2), .num x29_2.b.length, .rows (List.map (rI .u8) x29_2.b), .res (res_impl_zbits_put x29_3), .num x29_3.b.length, .num p0.slots.length, .num x29_3.b.length] 1000 (And.intro (all_le0 (rI .u8) l29_1 rfl) (And.intro (all_t (rI .u8) l29_1 rfl) (And.intro (ok_impl_zbits_put (S_zbits.mk l29_1 i29_0) 20 (wr .u64 p0.rate) x29_0 h29_0) (And.intro (len_map (rI .u8) (show x29_0.b.length = x29_0.b.length from rfl)) (And.intro (all_le0 (rI .u8) x29_0.b rfl) (And.intro (all_t (rI .u8) x29_0.b rfl) (And.intro (ok_impl_zbits_put x29_0 4 (wr .u64 p0.quality) x29_1 h29_1) (And.intro (len_map (rI .u8) (show x29_1.b.length = x29_1.b.length from rfl)) (And.intro (all_le0 (rI .u8) x29_1.b rfl) (And.intro (all_t (rI .u8) x29_1.b rfl) (And.intro (ok_impl_zbits_put x29_1 12 (wr .u64 p0.length) x29_2 h29_2) (And.intro (len_map (rI .u8) (show x29_2.b.length = x29_2.b.length from rfl)) (And.intro (all_le0 (rI .u8) x29_2.b rfl) (And.intro (all_t (rI .u8) x29_2.b rfl) (And.intro (ok_impl_zbits_put x29_2 4 0 x29_3 h29_3) (And.intro (len_map (rI .u8) (show x29_3.b.length = x29_3.b.length from rfl)) (And.intro (len_map (rL (rI .i64)) (show p0.slots.length = p0.slots.length from rfl)) (And.intro (lens x29_3.b.length x29_3.b.length rfl) True.intro)))))))))))))))))) ?_ (by kernel_rfl)
  obtain ⟨e, he, hm⟩ := bind_some hm
  refine loop_rule (u := .c c_impl_EncodeTones_42) (K := K_impl_EncodeTones_42) (Q := (Post vf_impl_EncodeTones (res_impl_EncodeTones r))) (b := lp_impl_EncodeTones_42 p0) (We := O_impl_EncodeTones_42 (Post vf_impl_EncodeTones (res_impl_EncodeTones r))) (stJ := fun s => s_impl_EncodeTones_42 p0 s.1 s.2.1 s.2.2) (s := (0, x29_3.n, x29_3.b)) (fun s y hb hin hout => ok_impl_EncodeTones_42 p0 s.1 s.2.1 s.2.2 y hb (Post vf_impl_EncodeTones (res_impl_EncodeTones r)) hin hout) he ?_
  show EvU ext tbl (.c c_impl_EncodeTones_111) K_impl_EncodeTones_111 (s_impl_EncodeTones_111 e.1 e.2) _
  exact ok_impl_EncodeTones_111 e.1 e.2 r hm

theorem ok_impl_EncodeTones_17 (p0 : S_Tones) (i17_0 : Int) (i17_1 : Int) (l17_2 : (List Int)) (l17_3 : (List Int)) (y : (Int × Int × (List Int) × (List Int)) ⊕ ((Int × (List Int)))) (hm : m_impl_EncodeTones_17 p0 i17_0 i17_1 l17_2 l17_3 = some y) (Q : VX → St → Prop)
    (hin : ∀ s, y = .inl s → EvU ext tbl (.c c_impl_EncodeTones_17) K_impl_EncodeTones_17 (s_impl_EncodeTones_17 p0 s.1 s.2.1 s.2.2.1 s.2.2.2) Q) (hout : ∀ e, y = .inr e → O_impl_EncodeTones_17 p0 Q e) : EvU ext tbl (.c c_impl_EncodeTones_17) K_impl_EncodeTones_17 (s_impl_EncodeTones_17 p0 i17_0 i17_1 l17_2 l17_3) Q := by
  obtain ⟨h17_0, hm⟩ | ⟨h17_0, hm⟩ := split_ite hm
  · skip
    obtain ⟨x17_1, h17_1, hm⟩ := bind_some hm
    obtain ⟨x17_2, h17_2, hm⟩ := bind_some hm
    refine go_on (u' := .c c_impl_EncodeTones_17) (K' := K_impl_EncodeTones_17) (st' := s_impl_EncodeTones_17 p0 (w64 (i17_0 + 1)) x17_2.n l17_2 x17_2.b) [.bit true, .row ((rI .u8) x17_1), .rows (List.map (rI .u8) l17_3), .res (res_impl_zbits_put x17_2), .num x17_2.b.length, .num l17_2.length, .num x17_2.b.length] 1000 (And.intro h17_0 (And.intro (rd_in rfl h17_1) (And.intro (at_row (rI .u8) (rd_get0 h17_1)) (And.intro (all_le0 (rI .u8) l17_3 rfl) (And.intro (all_t (rI .u8) l17_3 rfl) (And.intro (ok_impl_zbits_put (S_zbits.mk l17_3 i17_1) 8 (wr .u64 x17_1) x17_2 h17_2) (And.intro (len_map (rI .u8) (show x17_2.b.length = x17_2.b.length from rfl)) (And.intro (lens l17_2.length l17_2.length rfl) (And.intro (lens x17_2.b.length x17_2.b.length rfl) True.intro))))))))) ?_ (by kernel_rfl)
    exact hin ((w64 (i17_0 + 1)), x17_2.n, l17_2, x17_2.b) (Option.some.inj hm).symm
  · skip
    refine go_on (u' := .c c_impl_EncodeTones_29) (K' := K_impl_EncodeTones_29) (st' := s_impl_EncodeTones_29 p0 i17_1 l17_3) [.bit false, .num l17_3.length] 1000 (And.intro h17_0 (And.intro (lens l17_3.length l17_3.length rfl) True.intro)) ?_ (by kernel_rfl)
    exact hout (i17_1, l17_3) (Option.some.inj hm).symm

theorem ok_impl_EncodeTones_0 (p0 : S_Tones) (r : (List Int)) (hm : m_impl_EncodeTones_0 p0 = some r) : EvU ext tbl (.c c_impl_EncodeTones_0) K_impl_EncodeTones_0 (s_impl_EncodeTones_0 p0) (Post vf_impl_EncodeTones (res_impl_EncodeTones r)) := by
  obtain ⟨x0_0, h0_0, hm⟩ := bind_some hm
  obtain ⟨h0_1, hm⟩ | ⟨h0_1, hm⟩ := split_ite hm
  · skip
    refine go_on (u' := .c c_impl_EncodeTones_17) (K' := K_impl_EncodeTones_17) (st' := s_impl_EncodeTones_17 p0 0 0 ([84, 79, 78, 49] : List Int) ([] : List Int)) [.res (res_impl_GoodTones x0_0), .bit false, .rows (List.map (rI .u8) ([84, 79, 78, 49] : List Int)), .num 4, .num (([84, 79, 78, 49] : List Int).length), .num (([] : List Int).length)] 1000 (And.intro (ok_impl_GoodTones p0 x0_0 h0_0) (And.intro (not_f h0_1) (And.intro (Eq.refl (List.map (rI .u8) ([84, 79, 78, 49] : List Int))) (And.intro (len_map (rI .u8) (show 4 = ([84, 79, 78, 49] : List Int).length from rfl)) (And.intro (lens 4 (([84, 79, 78, 49] : List Int).length) rfl) (And.intro (lens 0 (([] : List Int).length) rfl) True.intro)))))) ?_ (by kernel_rfl)
    obtain ⟨e, he, hm⟩ := bind_some hm
    refine loop_rule (u := .c c_impl_EncodeTones_17) (K := K_impl_EncodeTones_17) (Q := (Post vf_impl_EncodeTones (res_impl_EncodeTones r))) (b := lp_impl_EncodeTones_17 p0) (We := O_impl_EncodeTones_17 p0 (Post vf_impl_EncodeTones (res_impl_EncodeTones r))) (stJ := fun s => s_impl_EncodeTones_17 p0 s.1 s.2.1 s.2.2.1 s.2.2.2) (s := (0, 0, ([84, 79, 78, 49] : List Int), ([] : List Int))) (fun s y hb hin hout => ok_impl_EncodeTones_17 p0 s.1 s.2.1 s.2.2.1 s.2.2.2 y hb (Post vf_impl_EncodeTones (res_impl_EncodeTones r)) hin hout) he ?_
    show EvU ext tbl (.c c_impl_EncodeTones_29) K_impl_EncodeTones_29 (s_impl_EncodeTones_29 p0 e.1 e.2) _
    exact ok_impl_EncodeTones_29 p0 e.1 e.2 r hm
  · skip
    exact go_end [.res (res_impl_GoodTones x0_0), .bit true, .rows (List.map (rI .u8) ([] : List Int))] 1000 (And.intro (ok_impl_GoodTones p0 x0_0 h0_0) (And.intro (not_t h0_1) (And.intro (all_le0 (rI .u8) ([] : List Int) rfl) (And.intro (all_t (rI .u8) ([] : List Int) rfl) True.intro)))) (congrArg res_impl_EncodeTones (Option.some.inj hm)) (by kernel_rfl)

theorem ok_impl_EncodeTones (p0 : S_Tones) (r : (List Int)) (hm : m_impl_EncodeTones p0 = some r) : Runs ext tbl 15 (as_impl_EncodeTones p0) (res_impl_EncodeTones r) :=
  runs_of (vf := vf_impl_EncodeTones) (by kernel_rfl) rfl (st := (enter vf_impl_EncodeTones (as_impl_EncodeTones p0)).getD default) (by kernel_rfl) (go_on [] 1000 True.intro (ok_impl_EncodeTones_0 p0 r hm) (by kernel_rfl))
def O_laws_eqByteS_15 (Q : VX → St → Prop) (e : (Bool) ⊕ ((Unit))) : Prop := match e with | .inl e => Q = Post vf_laws_eqByteS (res_laws_eqByteS e) | .inr e => EvU ext tbl (.c c_laws_eqByteS_31) K_laws_eqByteS_31 (s_laws_eqByteS_31) Q
theorem ok_laws_eqByteS_31 (r : Bool) (hm : m_laws_eqByteS_31 = some r) : EvU ext tbl (.c c_laws_eqByteS_31) K_laws_eqByteS_31 (s_laws_eqByteS_31) (Post vf_laws_eqByteS (res_laws_eqByteS r)) := by
  exact go_end [] 1000 True.intro (congrArg res_laws_eqByteS (Option.some.inj hm)) (by kernel_rfl)

theorem ok_laws_eqByteS_15 (p0 : (List Int)) (p1 : (List Int)) (i15_0 : Int) (y : (Int) ⊕ ((Bool) ⊕ ((Unit)))) (hm : m_laws_eqByteS_15 p0 p1 i15_0 = some y) (Q : VX → St → Prop)
    (hin : ∀ s, y = .inl s → EvU ext tbl (.c c_laws_eqByteS_15) K_laws_eqByteS_15 (s_laws_eqByteS_15 p0 p1 s) Q) (hout : ∀ e, y = .inr e → O_laws_eqByteS_15 Q e) : EvU ext tbl (.c c_laws_eqByteS_15) K_laws_eqByteS_15 (s_laws_eqByteS_15 p0 p1 i15_0) Q := by
  obtain ⟨h15_0, hm⟩ | ⟨h15_0, hm⟩ := split_ite hm
  · skip
    obtain ⟨x15_1, h15_1, hm⟩ := bind_some hm
    obtain ⟨x15_2, h15_2, hm⟩ := bind_some hm
    obtain ⟨h15_3, hm⟩ | ⟨h15_3, hm⟩ := split_ite hm
    · skip
      have hQ : Q = Post vf_laws_eqByteS (res_laws_eqByteS false) := hout (.inl false) (Option.some.inj hm).symm
      subst hQ
      exact go_end [.num p0.length, .bit true, .row ((rI .u8) x15_1), .row ((rI .u8) x15_2), .bit true] 1000 (And.intro (len_map (rI .u8) (show p0.length = p0.length from rfl)) (And.intro h15_0 (And.intro (rd_nn h15_1) (And.intro (at_row (rI .u8) (rd_get h15_1)) (And.intro (rd_nn h15_2) (And.intro (at_row (rI .u8) (rd_get h15_2)) (And.intro h15_3 True.intro))))))) (rfl : res_laws_eqByteS false = res_laws_eqByteS false) (by kernel_rfl)
    · skip
      refine go_on (u' := .c c_laws_eqByteS_15) (K' := K_laws_eqByteS_15) (st' := s_laws_eqByteS_15 p0 p1 (w64 (i15_0 + 1))) [.num p0.length, .bit true, .row ((rI .u8) x15_1), .row ((rI .u8) x15_2), .bit false] 1000 (And.intro (len_map (rI .u8) (show p0.length = p0.length from rfl)) (And.intro h15_0 (And.intro (rd_nn h15_1) (And.intro (at_row (rI .u8) (rd_get h15_1)) (And.intro (rd_nn h15_2) (And.intro (at_row (rI .u8) (rd_get h15_2)) (And.intro h15_3 True.intro))))))) ?_ (by kernel_rfl)
      exact hin (w64 (i15_0 + 1)) (Option.some.inj hm).symm
  · skip
    refine go_on (u' := .c c_laws_eqByteS_31) (K' := K_laws_eqByteS_31) (st' := s_laws_eqByteS_31) [.num p0.length, .bit false] 1000 (And.intro (len_map (rI .u8) (show p0.length = p0.length from rfl)) (And.intro h15_0 True.intro)) ?_ (by kernel_rfl)
    exact hout (.inr ()) (Option.some.inj hm).symm

theorem ok_laws_eqByteS_0 (p0 : (List Int)) (p1 : (List Int)) (r : Bool) (hm : m_laws_eqByteS_0 p0 p1 = some r) : EvU ext tbl (.c c_laws_eqByteS_0) K_laws_eqByteS_0 (s_laws_eqByteS_0 p0 p1) (Post vf_laws_eqByteS (res_laws_eqByteS r)) := by
  obtain ⟨h0_0, hm⟩ | ⟨h0_0, hm⟩ := split_ite hm
  · skip
    exact go_end [.num p0.length, .num p1.length, .bit true] 1000 (And.intro (len_map (rI .u8) (show p0.length = p0.length from rfl)) (And.intro (len_map (rI .u8) (show p1.length = p1.length from rfl)) (And.intro h0_0 True.intro))) (congrArg res_laws_eqByteS (Option.some.inj hm)) (by kernel_rfl)
  · skip
    refine go_on (u' := .c c_laws_eqByteS_15) (K' := K_laws_eqByteS_15) (st' := s_laws_eqByteS_15 p0 p1 0) [.num p0.length, .num p1.length, .bit false] 1000 (And.intro (len_map (rI .u8) (show p0.length = p0.length from rfl)) (And.intro (len_map (rI .u8) (show p1.length = p1.length from rfl)) (And.intro h0_0 True.intro))) ?_ (by kernel_rfl)
    obtain ⟨e, he, hm⟩ := bind_some hm
    refine loop_rule (u := .c c_laws_eqByteS_15) (K := K_laws_eqByteS_15) (Q := (Post vf_laws_eqByteS (res_laws_eqByteS r))) (b := lp_laws_eqByteS_15 p0 p1) (We := O_laws_eqByteS_15 (Post vf_laws_eqByteS (res_laws_eqByteS r))) (stJ := fun s => s_laws_eqByteS_15 p0 p1 s) (s := 0) (fun s y hb hin hout => ok_laws_eqByteS_15 p0 p1 s y hb (Post vf_laws_eqByteS (res_laws_eqByteS r)) hin hout) he ?_
    rcases e with e | e
    · skip
      exact congrArg (fun r => Post vf_laws_eqByteS (res_laws_eqByteS r)) (Option.some.inj hm).symm
    · skip
      show EvU ext tbl (.c c_laws_eqByteS_31) K_laws_eqByteS_31 (s_laws_eqByteS_31) _
      exact ok_laws_eqByteS_31 r hm

theorem ok_laws_eqByteS (p0 : (List Int)) (p1 : (List Int)) (r : Bool) (hm : m_laws_eqByteS p0 p1 = some r) : Runs ext tbl 16 (as_laws_eqByteS p0 p1) (res_laws_eqByteS r) :=
  runs_of (vf := vf_laws_eqByteS) (by kernel_rfl) rfl (st := (enter vf_laws_eqByteS (as_laws_eqByteS p0 p1)).getD default) (by kernel_rfl) (go_on [] 1000 True.intro (ok_laws_eqByteS_0 p0 p1 r hm) (by kernel_rfl))
def O_laws_eqIntS_15 (Q : VX → St → Prop) (e : (Bool) ⊕ ((Unit))) : Prop := match e with | .inl e => Q = Post vf_laws_eqIntS (res_laws_eqIntS e) | .inr e => EvU ext tbl (.c c_laws_eqIntS_31) K_laws_eqIntS_31 (s_laws_eqIntS_31) Q
theorem ok_laws_eqIntS_31 (r : Bool) (hm : m_laws_eqIntS_31 = some r) : EvU ext tbl (.c c_laws_eqIntS_31) K_laws_eqIntS_31 (s_laws_eqIntS_31) (Post vf_laws_eqIntS (res_laws_eqIntS r)) := by
  exact go_end [] 1000 True.intro (congrArg res_laws_eqIntS (Option.some.inj hm)) (by kernel_rfl)

theorem ok_laws_eqIntS_15 (p0 : (List Int)) (p1 : (List Int)) (i15_0 : Int) (y : (Int) ⊕ ((Bool) ⊕ ((Unit)))) (hm : m_laws_eqIntS_15 p0 p1 i15_0 = some y) (Q : VX → St → Prop)
    (hin : ∀ s, y = .inl s → EvU ext tbl (.c c_laws_eqIntS_15) K_laws_eqIntS_15 (s_laws_eqIntS_15 p0 p1 s) Q) (hout : ∀ e, y = .inr e → O_laws_eqIntS_15 Q e) : EvU ext tbl (.c c_laws_eqIntS_15) K_laws_eqIntS_15 (s_laws_eqIntS_15 p0 p1 i15_0) Q := by
  obtain ⟨h15_0, hm⟩ | ⟨h15_0, hm⟩ := split_ite hm
  · skip
    obtain ⟨x15_1, h15_1, hm⟩ := bind_some hm
    obtain ⟨x15_2, h15_2, hm⟩ := bind_some hm
    obtain ⟨h15_3, hm⟩ | ⟨h15_3, hm⟩ := split_ite hm
    · skip
      have hQ : Q = Post vf_laws_eqIntS (res_laws_eqIntS false) := hout (.inl false) (Option.some.inj hm).symm
      subst hQ
      exact go_end [.num p0.length, .bit true, .row ((rI .i64) x15_1), .row ((rI .i64) x15_2), .bit true] 1000 (And.intro (len_map (rI .i64) (show p0.length = p0.length from rfl)) (And.intro h15_0 (And.intro (rd_nn h15_1) (And.intro (at_row (rI .i64) (rd_get h15_1)) (And.intro (rd_nn h15_2) (And.intro (at_row (rI .i64) (rd_get h15_2)) (And.intro h15_3 True.intro))))))) (rfl : res_laws_eqIntS false = res_laws_eqIntS false) (by kernel_rfl)
    · skip
      refine go_on (u' := .c c_laws_eqIntS_15) (K' := K_laws_eqIntS_15) (st' := s_laws_eqIntS_15 p0 p1 (w64 (i15_0 + 1))) [.num p0.length, .bit true, .row ((rI .i64) x15_1), .row ((rI .i64) x15_2), .bit false] 1000 (And.intro (len_map (rI .i64) (show p0.length = p0.length from rfl)) (And.intro h15_0 (And.intro (rd_nn h15_1) (And.intro (at_row (rI .i64) (rd_get h15_1)) (And.intro (rd_nn h15_2) (And.intro (at_row (rI .i64) (rd_get h15_2)) (And.intro h15_3 True.intro))))))) ?_ (by kernel_rfl)
      exact hin (w64 (i15_0 + 1)) (Option.some.inj hm).symm
  · skip
    refine go_on (u' := .c c_laws_eqIntS_31) (K' := K_laws_eqIntS_31) (st' := s_laws_eqIntS_31) [.num p0.length, .bit false] 1000 (And.intro (len_map (rI .i64) (show p0.length = p0.length from rfl)) (And.intro h15_0 True.intro)) ?_ (by kernel_rfl)
    exact hout (.inr ()) (Option.some.inj hm).symm

theorem ok_laws_eqIntS_0 (p0 : (List Int)) (p1 : (List Int)) (r : Bool) (hm : m_laws_eqIntS_0 p0 p1 = some r) : EvU ext tbl (.c c_laws_eqIntS_0) K_laws_eqIntS_0 (s_laws_eqIntS_0 p0 p1) (Post vf_laws_eqIntS (res_laws_eqIntS r)) := by
  obtain ⟨h0_0, hm⟩ | ⟨h0_0, hm⟩ := split_ite hm
  · skip
    exact go_end [.num p0.length, .num p1.length, .bit true] 1000 (And.intro (len_map (rI .i64) (show p0.length = p0.length from rfl)) (And.intro (len_map (rI .i64) (show p1.length = p1.length from rfl)) (And.intro h0_0 True.intro))) (congrArg res_laws_eqIntS (Option.some.inj hm)) (by kernel_rfl)
  · skip
    refine go_on (u' := .c c_laws_eqIntS_15) (K' := K_laws_eqIntS_15) (st' := s_laws_eqIntS_15 p0 p1 0) [.num p0.length, .num p1.length, .bit false] 1000 (And.intro (len_map (rI .i64) (show p0.length = p0.length from rfl)) (And.intro (len_map (rI .i64) (show p1.length = p1.length from rfl)) (And.intro h0_0 True.intro))) ?_ (by kernel_rfl)
    obtain ⟨e, he, hm⟩ := bind_some hm
    refine loop_rule (u := .c c_laws_eqIntS_15) (K := K_laws_eqIntS_15) (Q := (Post vf_laws_eqIntS (res_laws_eqIntS r))) (b := lp_laws_eqIntS_15 p0 p1) (We := O_laws_eqIntS_15 (Post vf_laws_eqIntS (res_laws_eqIntS r))) (stJ := fun s => s_laws_eqIntS_15 p0 p1 s) (s := 0) (fun s y hb hin hout => ok_laws_eqIntS_15 p0 p1 s y hb (Post vf_laws_eqIntS (res_laws_eqIntS r)) hin hout) he ?_
    rcases e with e | e
    · skip
      exact congrArg (fun r => Post vf_laws_eqIntS (res_laws_eqIntS r)) (Option.some.inj hm).symm
    · skip
      show EvU ext tbl (.c c_laws_eqIntS_31) K_laws_eqIntS_31 (s_laws_eqIntS_31) _
      exact ok_laws_eqIntS_31 r hm

theorem ok_laws_eqIntS (p0 : (List Int)) (p1 : (List Int)) (r : Bool) (hm : m_laws_eqIntS p0 p1 = some r) : Runs ext tbl 62 (as_laws_eqIntS p0 p1) (res_laws_eqIntS r) :=
  runs_of (vf := vf_laws_eqIntS) (by kernel_rfl) rfl (st := (enter vf_laws_eqIntS (as_laws_eqIntS p0 p1)).getD default) (by kernel_rfl) (go_on [] 1000 True.intro (ok_laws_eqIntS_0 p0 p1 r hm) (by kernel_rfl))
def O_laws_eqIntSS_15 (Q : VX → St → Prop) (e : (Bool) ⊕ ((Unit))) : Prop := match e with | .inl e => Q = Post vf_laws_eqIntSS (res_laws_eqIntSS e) | .inr e => EvU ext tbl (.c c_laws_eqIntSS_31) K_laws_eqIntSS_31 (s_laws_eqIntSS_31) Q
theorem ok_laws_eqIntSS_31 (r : Bool) (hm : m_laws_eqIntSS_31 = some r) : EvU ext tbl (.c c_laws_eqIntSS_31) K_laws_eqIntSS_31 (s_laws_eqIntSS_31) (Post vf_laws_eqIntSS (res_laws_eqIntSS r)) := by
  exact go_end [] 1000 True.intro (congrArg res_laws_eqIntSS (Option.some.inj hm)) (by kernel_rfl)

theorem ok_laws_eqIntSS_15 (p0 : (List (List Int))) (p1 : (List (List Int))) (i15_0 : Int) (y : (Int) ⊕ ((Bool) ⊕ ((Unit)))) (hm : m_laws_eqIntSS_15 p0 p1 i15_0 = some y) (Q : VX → St → Prop)
    (hin : ∀ s, y = .inl s → EvU ext tbl (.c c_laws_eqIntSS_15) K_laws_eqIntSS_15 (s_laws_eqIntSS_15 p0 p1 s) Q) (hout : ∀ e, y = .inr e → O_laws_eqIntSS_15 Q e) : EvU ext tbl (.c c_laws_eqIntSS_15) K_laws_eqIntSS_15 (s_laws_eqIntSS_15 p0 p1 i15_0) Q := by
  obtain ⟨h15_0, hm⟩ | ⟨h15_0, hm⟩ := split_ite hm
  · skip
    obtain ⟨x15_1, h15_1, hm⟩ := bind_some hm
    obtain ⟨x15_2, h15_2, hm⟩ := bind_some hm
    obtain ⟨x15_3, h15_3, hm⟩ := bind_some hm
    obtain ⟨h15_4, hm⟩ | ⟨h15_4, hm⟩ := split_ite hm
    · skip
      refine go_on (u' := .c c_laws_eqIntSS_15) (K' := K_laws_eqIntSS_15) (st' := s_laws_eqIntSS_15 p0 p1 (w64 (i15_0 + 1))) [.num p0.length, .bit true, .row ((rL (rI .i64)) x15_1), .row ((rL (rI .i64)) x15_2), .res (res_laws_eqIntS x15_3), .bit false] 1000 (And.intro (len_map (rL (rI .i64)) (show p0.length = p0.length from rfl)) (And.intro h15_0 (And.intro (rd_nn h15_1) (And.intro (at_row (rL (rI .i64)) (rd_get h15_1)) (And.intro (rd_nn h15_2) (And.intro (at_row (rL (rI .i64)) (rd_get h15_2)) (And.intro (ok_laws_eqIntS x15_1 x15_2 x15_3 h15_3) (And.intro (not_f h15_4) True.intro)))))))) ?_ (by kernel_rfl)
      exact hin (w64 (i15_0 + 1)) (Option.some.inj hm).symm
    · skip
      have hQ : Q = Post vf_laws_eqIntSS (res_laws_eqIntSS false) := hout (.inl false) (Option.some.inj hm).symm
      subst hQ
      exact go_end [.num p0.length, .bit true, .row ((rL (rI .i64)) x15_1), .row ((rL (rI .i64)) x15_2), .res (res_laws_eqIntS x15_3), .bit true] 1000 (And.intro (len_map (rL (rI .i64)) (show p0.length = p0.length from rfl)) (And.intro h15_0 (And.intro (rd_nn h15_1) (And.intro (at_row (rL (rI .i64)) (rd_get h15_1)) (And.intro (rd_nn h15_2) (And.intro (at_row (rL (rI .i64)) (rd_get h15_2)) (And.intro (ok_laws_eqIntS x15_1 x15_2 x15_3 h15_3) (And.intro (not_t h15_4) True.intro)))))))) (rfl : res_laws_eqIntSS false = res_laws_eqIntSS false) (by kernel_rfl)
  · skip
    refine go_on (u' := .c c_laws_eqIntSS_31) (K' := K_laws_eqIntSS_31) (st' := s_laws_eqIntSS_31) [.num p0.length, .bit false] 1000 (And.intro (len_map (rL (rI .i64)) (show p0.length = p0.length from rfl)) (And.intro h15_0 True.intro)) ?_ (by kernel_rfl)
    exact hout (.inr ()) (Option.some.inj hm).symm

theorem ok_laws_eqIntSS_0 (p0 : (List (List Int))) (p1 : (List (List Int))) (r : Bool) (hm : m_laws_eqIntSS_0 p0 p1 = some r) : EvU ext tbl (.c c_laws_eqIntSS_0) K_laws_eqIntSS_0 (s_laws_eqIntSS_0 p0 p1) (Post vf_laws_eqIntSS (res_laws_eqIntSS r)) := by
  obtain ⟨h0_0, hm⟩ | ⟨h0_0, hm⟩ := split_ite hm
  · skip
    exact go_end [.num p0.length, .num p1.length, .bit true] 1000 (And.intro (len_map (rL (rI .i64)) (show p0.length = p0.length from rfl)) (And.intro (len_map (rL (rI .i64)) (show p1.length = p1.length from rfl)) (And.intro h0_0 True.intro))) (congrArg res_laws_eqIntSS (Option.some.inj hm)) (by kernel_rfl)
  · skip
    refine go_on (u' := .c c_laws_eqIntSS_15) (K' := K_laws_eqIntSS_15) (st' := s_laws_eqIntSS_15 p0 p1 0) [.num p0.length, .num p1.length, .bit false] 1000 (And.intro (len_map (rL (rI .i64)) (show p0.length = p0.length from rfl)) (And.intro (len_map (rL (rI .i64)) (show p1.length = p1.length from rfl)) (And.intro h0_0 True.intro))) ?_ (by kernel_rfl)
    obtain ⟨e, he, hm⟩ := bind_some hm
    refine loop_rule (u := .c c_laws_eqIntSS_15) (K := K_laws_eqIntSS_15) (Q := (Post vf_laws_eqIntSS (res_laws_eqIntSS r))) (b := lp_laws_eqIntSS_15 p0 p1) (We := O_laws_eqIntSS_15 (Post vf_laws_eqIntSS (res_laws_eqIntSS r))) (stJ := fun s => s_laws_eqIntSS_15 p0 p1 s) (s := 0) (fun s y hb hin hout => ok_laws_eqIntSS_15 p0 p1 s y hb (Post vf_laws_eqIntSS (res_laws_eqIntSS r)) hin hout) he ?_
    rcases e with e | e
    · skip
      exact congrArg (fun r => Post vf_laws_eqIntSS (res_laws_eqIntSS r)) (Option.some.inj hm).symm
    · skip
      show EvU ext tbl (.c c_laws_eqIntSS_31) K_laws_eqIntSS_31 (s_laws_eqIntSS_31) _
      exact ok_laws_eqIntSS_31 r hm

theorem ok_laws_eqIntSS (p0 : (List (List Int))) (p1 : (List (List Int))) (r : Bool) (hm : m_laws_eqIntSS p0 p1 = some r) : Runs ext tbl 40 (as_laws_eqIntSS p0 p1) (res_laws_eqIntSS r) :=
  runs_of (vf := vf_laws_eqIntSS) (by kernel_rfl) rfl (st := (enter vf_laws_eqIntSS (as_laws_eqIntSS p0 p1)).getD default) (by kernel_rfl) (go_on [] 1000 True.intro (ok_laws_eqIntSS_0 p0 p1 r hm) (by kernel_rfl))
theorem ok_laws_eqTones_0 (p0 : S_Tones) (p1 : S_Tones) (r : Bool) (hm : m_laws_eqTones_0 p0 p1 = some r) : EvU ext tbl (.c c_laws_eqTones_0) K_laws_eqTones_0 (s_laws_eqTones_0 p0 p1) (Post vf_laws_eqTones (res_laws_eqTones r)) := by
  obtain ⟨h0_0, hm⟩ | ⟨h0_0, hm⟩ := split_ite hm
  · skip
    exact go_end [.bit true] 1000 (And.intro h0_0 True.intro) (congrArg res_laws_eqTones (Option.some.inj hm)) (by kernel_rfl)
  · skip
    obtain ⟨h0_1, hm⟩ | ⟨h0_1, hm⟩ := split_ite hm
    · skip
      exact go_end [.bit false, .bit true] 1000 (And.intro h0_0 (And.intro h0_1 True.intro)) (congrArg res_laws_eqTones (Option.some.inj hm)) (by kernel_rfl)
    · skip
      obtain ⟨h0_2, hm⟩ | ⟨h0_2, hm⟩ := split_ite hm
      · skip
        exact go_end [.bit false, .bit false, .bit true] 1000 (And.intro h0_0 (And.intro h0_1 (And.intro h0_2 True.intro))) (congrArg res_laws_eqTones (Option.some.inj hm)) (by kernel_rfl)
      · skip
        obtain ⟨x0_3, h0_3, hm⟩ := bind_some hm
        obtain ⟨h0_4, hm⟩ | ⟨h0_4, hm⟩ := split_ite hm
        · skip
          obtain ⟨x0_5, h0_5, hm⟩ := bind_some hm
          obtain ⟨h0_6, hm⟩ | ⟨h0_6, hm⟩ := split_ite hm
          · skip
            exact go_end [.bit false, .bit false, .bit false, .res (res_laws_eqIntSS x0_3), .bit false, .res (res_laws_eqIntSS x0_5), .bit false] 1000 (And.intro h0_0 (And.intro h0_1 (And.intro h0_2 (And.intro (ok_laws_eqIntSS p0.slots p1.slots x0_3 h0_3) (And.intro (not_f h0_4) (And.intro (ok_laws_eqIntSS p0.grades p1.grades x0_5 h0_5) (And.intro (not_f h0_6) True.intro))))))) (congrArg res_laws_eqTones (Option.some.inj hm)) (by kernel_rfl)
          · skip
            exact go_end [.bit false, .bit false, .bit false, .res (res_laws_eqIntSS x0_3), .bit false, .res (res_laws_eqIntSS x0_5), .bit true] 1000 (And.intro h0_0 (And.intro h0_1 (And.intro h0_2 (And.intro (ok_laws_eqIntSS p0.slots p1.slots x0_3 h0_3) (And.intro (not_f h0_4) (And.intro (ok_laws_eqIntSS p0.grades p1.grades x0_5 h0_5) (And.intro (not_t h0_6) True.intro))))))) (congrArg res_laws_eqTones (Option.some.inj hm)) (by kernel_rfl)
        · skip
          exact go_end [.bit false, .bit false, .bit false, .res (res_laws_eqIntSS x0_3), .bit true] 1000 (And.intro h0_0 (And.intro h0_1 (And.intro h0_2 (And.intro (ok_laws_eqIntSS p0.slots p1.slots x0_3 h0_3) (And.intro (not_t h0_4) True.intro))))) (congrArg res_laws_eqTones (Option.some.inj hm)) (by kernel_rfl)

theorem ok_laws_eqTones (p0 : S_Tones) (p1 : S_Tones) (r : Bool) (hm : m_laws_eqTones p0 p1 = some r) : Runs ext tbl 17 (as_laws_eqTones p0 p1) (res_laws_eqTones r) :=
  runs_of (vf := vf_laws_eqTones) (by kernel_rfl) rfl (st := (enter vf_laws_eqTones (as_laws_eqTones p0 p1)).getD default) (by kernel_rfl) (go_on [] 1000 True.intro (ok_laws_eqTones_0 p0 p1 r hm) (by kernel_rfl))
def O_laws_markIntS_7 (Q : VX → St → Prop) (e : (Int × (List Int))) : Prop := EvU ext tbl (.c c_laws_markIntS_19) K_laws_markIntS_19 (s_laws_markIntS_19 e.1 e.2) Q
theorem ok_laws_markIntS_19 (i19_0 : Int) (l19_1 : (List Int)) (r : Int × (List Int)) (hm : m_laws_markIntS_19 i19_0 l19_1 = some r) : EvU ext tbl (.c c_laws_markIntS_19) K_laws_markIntS_19 (s_laws_markIntS_19 i19_0 l19_1) (Post vf_laws_markIntS (res_laws_markIntS r)) := by
  exact go_end [] 1000 True.intro (congrArg res_laws_markIntS (Option.some.inj hm)) (by kernel_rfl)

theorem ok_laws_markIntS_7 (i7_0 : Int) (i7_1 : Int) (l7_2 : (List Int)) (y : (Int × Int × (List Int)) ⊕ ((Int × (List Int)))) (hm : m_laws_markIntS_7 i7_0 i7_1 l7_2 = some y) (Q : VX → St → Prop)
    (hin : ∀ s, y = .inl s → EvU ext tbl (.c c_laws_markIntS_7) K_laws_markIntS_7 (s_laws_markIntS_7 s.1 s.2.1 s.2.2) Q) (hout : ∀ e, y = .inr e → O_laws_markIntS_7 Q e) : EvU ext tbl (.c c_laws_markIntS_7) K_laws_markIntS_7 (s_laws_markIntS_7 i7_0 i7_1 l7_2) Q := by
  obtain ⟨h7_0, hm⟩ | ⟨h7_0, hm⟩ := split_ite hm
  · skip
    obtain ⟨x7_1, h7_1, hm⟩ := bind_some hm
    refine go_on (u' := .c c_laws_markIntS_7) (K' := K_laws_markIntS_7) (st' := s_laws_markIntS_7 (w64 (i7_0 + 1)) (w64 (i7_1 + 1)) (l7_2.set (0 + Int.toNat i7_1) i7_0)) [.bit true, .rows (List.map (rI .i64) (l7_2.set (0 + Int.toNat i7_1) i7_0)), .num ((l7_2.set (0 + Int.toNat i7_1) i7_0).length)] 1000 (And.intro h7_0 (And.intro (rd_in rfl h7_1) (And.intro (put_ob (rI .i64) i7_0 0 (.lit (.int .i64 i7_0)) (rd_get0 h7_1) (by kernel_rfl) (by kernel_rfl)) (And.intro (lens l7_2.length ((l7_2.set (0 + Int.toNat i7_1) i7_0).length) (set_len rfl)) True.intro)))) ?_ (by kernel_rfl)
    exact hin ((w64 (i7_0 + 1)), (w64 (i7_1 + 1)), (l7_2.set (0 + Int.toNat i7_1) i7_0)) (Option.some.inj hm).symm
  · skip
    refine go_on (u' := .c c_laws_markIntS_19) (K' := K_laws_markIntS_19) (st' := s_laws_markIntS_19 i7_0 l7_2) [.bit false, .num l7_2.length] 1000 (And.intro h7_0 (And.intro (lens l7_2.length l7_2.length rfl) True.intro)) ?_ (by kernel_rfl)
    exact hout (i7_0, l7_2) (Option.some.inj hm).symm

theorem ok_laws_markIntS_0 (p1 : Int) (p0 : (List Int)) (r : Int × (List Int)) (hm : m_laws_markIntS_0 p1 p0 = some r) : EvU ext tbl (.c c_laws_markIntS_0) K_laws_markIntS_0 (s_laws_markIntS_0 p1 p0) (Post vf_laws_markIntS (res_laws_markIntS r)) := by
  refine go_on (u' := .c c_laws_markIntS_7) (K' := K_laws_markIntS_7) (st' := s_laws_markIntS_7 p1 0 p0) [.num p0.length] 1000 (And.intro (lens p0.length p0.length rfl) True.intro) ?_ (by kernel_rfl)
  obtain ⟨e, he, hm⟩ := bind_some hm
  refine loop_rule (u := .c c_laws_markIntS_7) (K := K_laws_markIntS_7) (Q := (Post vf_laws_markIntS (res_laws_markIntS r))) (b := lp_laws_markIntS_7) (We := O_laws_markIntS_7 (Post vf_laws_markIntS (res_laws_markIntS r))) (stJ := fun s => s_laws_markIntS_7 s.1 s.2.1 s.2.2) (s := (p1, 0, p0)) (fun s y hb hin hout => ok_laws_markIntS_7 s.1 s.2.1 s.2.2 y hb (Post vf_laws_markIntS (res_laws_markIntS r)) hin hout) he ?_
  show EvU ext tbl (.c c_laws_markIntS_19) K_laws_markIntS_19 (s_laws_markIntS_19 e.1 e.2) _
  exact ok_laws_markIntS_19 e.1 e.2 r hm

theorem ok_laws_markIntS (p0 : (List Int)) (p1 : Int) (r : Int × (List Int)) (hm : m_laws_markIntS p0 p1 = some r) : Runs ext tbl 63 (as_laws_markIntS p0 p1) (res_laws_markIntS r) :=
  runs_of (vf := vf_laws_markIntS) (by kernel_rfl) rfl (st := (enter vf_laws_markIntS (as_laws_markIntS p0 p1)).getD default) (by kernel_rfl) (go_on [.num p0.length] 1000 (And.intro (len_map (rI .i64) (rfl : p0.length = p0.length)) True.intro) (ok_laws_markIntS_0 p1 p0 r hm) (by kernel_rfl))
def O_laws_markIntSS_7 (Q : VX → St → Prop) (e : (Int × (List (List Int)))) : Prop := EvU ext tbl (.c c_laws_markIntSS_17) K_laws_markIntSS_17 (s_laws_markIntSS_17 e.1 e.2) Q
theorem ok_laws_markIntSS_17 (i17_0 : Int) (l17_1 : (List (List Int))) (r : Int × (List (List Int))) (hm : m_laws_markIntSS_17 i17_0 l17_1 = some r) : EvU ext tbl (.c c_laws_markIntSS_17) K_laws_markIntSS_17 (s_laws_markIntSS_17 i17_0 l17_1) (Post vf_laws_markIntSS (res_laws_markIntSS r)) := by
  exact go_end [] 1000 True.intro (congrArg res_laws_markIntSS (Option.some.inj hm)) (by kernel_rfl)

theorem ok_laws_markIntSS_7 (i7_0 : Int) (i7_1 : Int) (l7_2 : (List (List Int))) (y : (Int × Int × (List (List Int))) ⊕ ((Int × (List (List Int))))) (hm : m_laws_markIntSS_7 i7_0 i7_1 l7_2 = some y) (Q : VX → St → Prop)
    (hin : ∀ s, y = .inl s → EvU ext tbl (.c c_laws_markIntSS_7) K_laws_markIntSS_7 (s_laws_markIntSS_7 s.1 s.2.1 s.2.2) Q) (hout : ∀ e, y = .inr e → O_laws_markIntSS_7 Q e) : EvU ext tbl (.c c_laws_markIntSS_7) K_laws_markIntSS_7 (s_laws_markIntSS_7 i7_0 i7_1 l7_2) Q := by
  obtain ⟨h7_0, hm⟩ | ⟨h7_0, hm⟩ := split_ite hm
  · skip
    obtain ⟨x7_1, h7_1, hm⟩ := bind_some hm
    obtain ⟨x7_2, h7_2, hm⟩ := bind_some hm
    obtain ⟨x7_3, h7_3, hm⟩ := bind_some hm
    refine go_on (u' := .c c_laws_markIntSS_7) (K' := K_laws_markIntSS_7) (st' := s_laws_markIntSS_7 x7_2.1 (w64 (i7_1 + 1)) (l7_2.set (0 + Int.toNat i7_1) x7_2.2)) [.bit true, .row ((rL (rI .i64)) x7_1), .num x7_1.length, .row ((rL (rI .i64)) x7_1), .res (res_laws_markIntS x7_2), .row ((rL (rI .i64)) x7_1), .row ((rL (rI .i64)) x7_1), .rows (List.map (rL (rI .i64)) (l7_2.set (0 + Int.toNat i7_1) x7_2.2)), .num ((l7_2.set (0 + Int.toNat i7_1) x7_2.2).length)] 1000 (And.intro h7_0 (And.intro (rd_in rfl h7_1) (And.intro (at_row (rL (rI .i64)) (rd_get0 h7_1)) (And.intro (len_map (rI .i64) (show x7_1.length = x7_1.length from rfl)) (And.intro (at_row (rL (rI .i64)) (rd_get0 h7_1)) (And.intro (all_eq (rI .i64) x7_1 rfl) (And.intro (ok_laws_markIntS x7_1 i7_0 x7_2 h7_2) (And.intro (at_row (rL (rI .i64)) (rd_get0 h7_1)) (And.intro (len2 (rI .i64) x7_2.2 x7_1 (ck_p h7_3)) (And.intro (at_row (rL (rI .i64)) (rd_get0 h7_1)) (And.intro (upd_ob (rL (rI .i64)) l7_2 (0 + Int.toNat i7_1) x7_1 x7_2.2 0 (.sl (x7_2.2.map (rI .i64))) (by kernel_rfl)) (And.intro (lens l7_2.length ((l7_2.set (0 + Int.toNat i7_1) x7_2.2).length) (set_len rfl)) True.intro)))))))))))) ?_ (by kernel_rfl)
    exact hin (x7_2.1, (w64 (i7_1 + 1)), (l7_2.set (0 + Int.toNat i7_1) x7_2.2)) (Option.some.inj hm).symm
  · skip
    refine go_on (u' := .c c_laws_markIntSS_17) (K' := K_laws_markIntSS_17) (st' := s_laws_markIntSS_17 i7_0 l7_2) [.bit false, .num l7_2.length] 1000 (And.intro h7_0 (And.intro (lens l7_2.length l7_2.length rfl) True.intro)) ?_ (by kernel_rfl)
    exact hout (i7_0, l7_2) (Option.some.inj hm).symm

theorem ok_laws_markIntSS_0 (p1 : Int) (p0 : (List (List Int))) (r : Int × (List (List Int))) (hm : m_laws_markIntSS_0 p1 p0 = some r) : EvU ext tbl (.c c_laws_markIntSS_0) K_laws_markIntSS_0 (s_laws_markIntSS_0 p1 p0) (Post vf_laws_markIntSS (res_laws_markIntSS r)) := by
  refine go_on (u' := .c c_laws_markIntSS_7) (K' := K_laws_markIntSS_7) (st' := s_laws_markIntSS_7 p1 0 p0) [.num p0.length] 1000 (And.intro (lens p0.length p0.length rfl) True.intro) ?_ (by kernel_rfl)
  obtain ⟨e, he, hm⟩ := bind_some hm
  refine loop_rule (u := .c c_laws_markIntSS_7) (K := K_laws_markIntSS_7) (Q := (Post vf_laws_markIntSS (res_laws_markIntSS r))) (b := lp_laws_markIntSS_7) (We := O_laws_markIntSS_7 (Post vf_laws_markIntSS (res_laws_markIntSS r))) (stJ := fun s => s_laws_markIntSS_7 s.1 s.2.1 s.2.2) (s := (p1, 0, p0)) (fun s y hb hin hout => ok_laws_markIntSS_7 s.1 s.2.1 s.2.2 y hb (Post vf_laws_markIntSS (res_laws_markIntSS r)) hin hout) he ?_
  show EvU ext tbl (.c c_laws_markIntSS_17) K_laws_markIntSS_17 (s_laws_markIntSS_17 e.1 e.2) _
  exact ok_laws_markIntSS_17 e.1 e.2 r hm

theorem ok_laws_markIntSS (p0 : (List (List Int))) (p1 : Int) (r : Int × (List (List Int))) (hm : m_laws_markIntSS p0 p1 = some r) : Runs ext tbl 43 (as_laws_markIntSS p0 p1) (res_laws_markIntSS r) :=
  runs_of (vf := vf_laws_markIntSS) (by kernel_rfl) rfl (st := (enter vf_laws_markIntSS (as_laws_markIntSS p0 p1)).getD default) (by kernel_rfl) (go_on [.num p0.length] 1000 (And.intro (len_map (rL (rI .i64)) (rfl : p0.length = p0.length)) True.intro) (ok_laws_markIntSS_0 p1 p0 r hm) (by kernel_rfl))
theorem ok_laws_markTones_0 (p0 : S_Tones) (p1 : Int) (r : Int) (hm : m_laws_markTones_0 p0 p1 = some r) : EvU ext tbl (.c c_laws_markTones_0) K_laws_markTones_0 (s_laws_markTones_0 p0 p1) (Post vf_laws_markTones (res_laws_markTones r)) := by
  obtain ⟨x0_0, h0_0, hm⟩ := bind_some hm
  obtain ⟨x0_1, h0_1, hm⟩ := bind_some hm
  obtain ⟨x0_2, h0_2, hm⟩ := bind_some hm
  obtain ⟨x0_3, h0_3, hm⟩ := bind_some hm
  exact go_end [.res (res_laws_markIntSS x0_0), .res (res_laws_markIntSS x0_2)] 1000 (And.intro (all_eq (rL (rI .i64)) p0.slots rfl) (And.intro (ok_laws_markIntSS p0.slots p1 x0_0 h0_0) (And.intro (len2 (rL (rI .i64)) x0_0.2 p0.slots (ck_p h0_1)) (And.intro (all_eq (rL (rI .i64)) p0.grades rfl) (And.intro (ok_laws_markIntSS p0.grades x0_0.1 x0_2 h0_2) (And.intro (len2 (rL (rI .i64)) x0_2.2 p0.grades (ck_p h0_3)) True.intro)))))) (congrArg res_laws_markTones (Option.some.inj hm)) (by kernel_rfl)

theorem ok_laws_markTones (p0 : S_Tones) (p1 : Int) (r : Int) (hm : m_laws_markTones p0 p1 = some r) : Runs ext tbl 18 (as_laws_markTones p0 p1) (res_laws_markTones r) :=
  runs_of (vf := vf_laws_markTones) (by kernel_rfl) rfl (st := (enter vf_laws_markTones (as_laws_markTones p0 p1)).getD default) (by kernel_rfl) (go_on [.num p0.slots.length, .num p0.grades.length] 1000 (And.intro (len_map (rL (rI .i64)) (rfl : p0.slots.length = p0.slots.length)) (And.intro (len_map (rL (rI .i64)) (rfl : p0.grades.length = p0.grades.length)) True.intro)) (ok_laws_markTones_0 p0 p1 r hm) (by kernel_rfl))
def O_laws_markByteS_7 (Q : VX → St → Prop) (e : (Int × (List Int))) : Prop := EvU ext tbl (.c c_laws_markByteS_19) K_laws_markByteS_19 (s_laws_markByteS_19 e.1 e.2) Q
theorem ok_laws_markByteS_19 (i19_0 : Int) (l19_1 : (List Int)) (r : Int × (List Int)) (hm : m_laws_markByteS_19 i19_0 l19_1 = some r) : EvU ext tbl (.c c_laws_markByteS_19) K_laws_markByteS_19 (s_laws_markByteS_19 i19_0 l19_1) (Post vf_laws_markByteS (res_laws_markByteS r)) := by
  exact go_end [] 1000 True.intro (congrArg res_laws_markByteS (Option.some.inj hm)) (by kernel_rfl)

theorem ok_laws_markByteS_7 (i7_0 : Int) (i7_1 : Int) (l7_2 : (List Int)) (y : (Int × Int × (List Int)) ⊕ ((Int × (List Int)))) (hm : m_laws_markByteS_7 i7_0 i7_1 l7_2 = some y) (Q : VX → St → Prop)
    (hin : ∀ s, y = .inl s → EvU ext tbl (.c c_laws_markByteS_7) K_laws_markByteS_7 (s_laws_markByteS_7 s.1 s.2.1 s.2.2) Q) (hout : ∀ e, y = .inr e → O_laws_markByteS_7 Q e) : EvU ext tbl (.c c_laws_markByteS_7) K_laws_markByteS_7 (s_laws_markByteS_7 i7_0 i7_1 l7_2) Q := by
  obtain ⟨h7_0, hm⟩ | ⟨h7_0, hm⟩ := split_ite hm
  · skip
    obtain ⟨x7_1, h7_1, hm⟩ := bind_some hm
    refine go_on (u' := .c c_laws_markByteS_7) (K' := K_laws_markByteS_7) (st' := s_laws_markByteS_7 (w64 (i7_0 + 1)) (w64 (i7_1 + 1)) (l7_2.set (0 + Int.toNat i7_1) (wr .u8 i7_0))) [.bit true, .rows (List.map (rI .u8) (l7_2.set (0 + Int.toNat i7_1) (wr .u8 i7_0))), .num ((l7_2.set (0 + Int.toNat i7_1) (wr .u8 i7_0)).length)] 1000 (And.intro h7_0 (And.intro (rd_in rfl h7_1) (And.intro (put_ob (rI .u8) (wr .u8 i7_0) 0 (.lit (.int .u8 (wr .u8 i7_0))) (rd_get0 h7_1) (by kernel_rfl) (by kernel_rfl)) (And.intro (lens l7_2.length ((l7_2.set (0 + Int.toNat i7_1) (wr .u8 i7_0)).length) (set_len rfl)) True.intro)))) ?_ (by kernel_rfl)
    exact hin ((w64 (i7_0 + 1)), (w64 (i7_1 + 1)), (l7_2.set (0 + Int.toNat i7_1) (wr .u8 i7_0))) (Option.some.inj hm).symm
  · skip
    refine go_on (u' := .c c_laws_markByteS_19) (K' := K_laws_markByteS_19) (st' := s_laws_markByteS_19 i7_0 l7_2) [.bit false, .num l7_2.length] 1000 (And.intro h7_0 (And.intro (lens l7_2.length l7_2.length rfl) True.intro)) ?_ (by kernel_rfl)
    exact hout (i7_0, l7_2) (Option.some.inj hm).symm

theorem ok_laws_markByteS_0 (p1 : Int) (p0 : (List Int)) (r : Int × (List Int)) (hm : m_laws_markByteS_0 p1 p0 = some r) : EvU ext tbl (.c c_laws_markByteS_0) K_laws_markByteS_0 (s_laws_markByteS_0 p1 p0) (Post vf_laws_markByteS (res_laws_markByteS r)) := by
  refine go_on (u' := .c c_laws_markByteS_7) (K' := K_laws_markByteS_7) (st' := s_laws_markByteS_7 p1 0 p0) [.num p0.length] 1000 (And.intro (lens p0.length p0.length rfl) True.intro) ?_ (by kernel_rfl)
  obtain ⟨e, he, hm⟩ := bind_some hm
  refine loop_rule (u := .c c_laws_markByteS_7) (K := K_laws_markByteS_7) (Q := (Post vf_laws_markByteS (res_laws_markByteS r))) (b := lp_laws_markByteS_7) (We := O_laws_markByteS_7 (Post vf_laws_markByteS (res_laws_markByteS r))) (stJ := fun s => s_laws_markByteS_7 s.1 s.2.1 s.2.2) (s := (p1, 0, p0)) (fun s y hb hin hout => ok_laws_markByteS_7 s.1 s.2.1 s.2.2 y hb (Post vf_laws_markByteS (res_laws_markByteS r)) hin hout) he ?_
  show EvU ext tbl (.c c_laws_markByteS_19) K_laws_markByteS_19 (s_laws_markByteS_19 e.1 e.2) _
  exact ok_laws_markByteS_19 e.1 e.2 r hm

theorem ok_laws_markByteS (p0 : (List Int)) (p1 : Int) (r : Int × (List Int)) (hm : m_laws_markByteS p0 p1 = some r) : Runs ext tbl 19 (as_laws_markByteS p0 p1) (res_laws_markByteS r) :=
  runs_of (vf := vf_laws_markByteS) (by kernel_rfl) rfl (st := (enter vf_laws_markByteS (as_laws_markByteS p0 p1)).getD default) (by kernel_rfl) (go_on [.num p0.length] 1000 (And.intro (len_map (rI .u8) (rfl : p0.length = p0.length)) True.intro) (ok_laws_markByteS_0 p1 p0 r hm) (by kernel_rfl))
def O_laws_heldByteS_7 (Q : VX → St → Prop) (e : (Int) ⊕ ((Int))) : Prop := match e with | .inl e => Q = Post vf_laws_heldByteS (res_laws_heldByteS e) | .inr e => EvU ext tbl (.c c_laws_heldByteS_25) K_laws_heldByteS_25 (s_laws_heldByteS_25 e) Q
theorem ok_laws_heldByteS_25 (i25_0 : Int) (r : Int) (hm : m_laws_heldByteS_25 i25_0 = some r) : EvU ext tbl (.c c_laws_heldByteS_25) K_laws_heldByteS_25 (s_laws_heldByteS_25 i25_0) (Post vf_laws_heldByteS (res_laws_heldByteS r)) := by
  exact go_end [] 1000 True.intro (congrArg res_laws_heldByteS (Option.some.inj hm)) (by kernel_rfl)

theorem ok_laws_heldByteS_7 (p0 : (List Int)) (i7_0 : Int) (i7_1 : Int) (y : (Int × Int) ⊕ ((Int) ⊕ ((Int)))) (hm : m_laws_heldByteS_7 p0 i7_0 i7_1 = some y) (Q : VX → St → Prop)
    (hin : ∀ s, y = .inl s → EvU ext tbl (.c c_laws_heldByteS_7) K_laws_heldByteS_7 (s_laws_heldByteS_7 p0 s.1 s.2) Q) (hout : ∀ e, y = .inr e → O_laws_heldByteS_7 Q e) : EvU ext tbl (.c c_laws_heldByteS_7) K_laws_heldByteS_7 (s_laws_heldByteS_7 p0 i7_0 i7_1) Q := by
  obtain ⟨h7_0, hm⟩ | ⟨h7_0, hm⟩ := split_ite hm
  · skip
    obtain ⟨x7_1, h7_1, hm⟩ := bind_some hm
    obtain ⟨h7_2, hm⟩ | ⟨h7_2, hm⟩ := split_ite hm
    · skip
      have hQ : Q = Post vf_laws_heldByteS (res_laws_heldByteS (-1)) := hout (.inl (-1)) (Option.some.inj hm).symm
      subst hQ
      exact go_end [.num p0.length, .bit true, .row ((rI .u8) x7_1), .bit true] 1000 (And.intro (len_map (rI .u8) (show p0.length = p0.length from rfl)) (And.intro h7_0 (And.intro (rd_nn h7_1) (And.intro (at_row (rI .u8) (rd_get h7_1)) (And.intro h7_2 True.intro))))) (rfl : res_laws_heldByteS (-1) = res_laws_heldByteS (-1)) (by kernel_rfl)
    · skip
      refine go_on (u' := .c c_laws_heldByteS_7) (K' := K_laws_heldByteS_7) (st' := s_laws_heldByteS_7 p0 (w64 (i7_0 + 1)) (w64 (i7_1 + 1))) [.num p0.length, .bit true, .row ((rI .u8) x7_1), .bit false] 1000 (And.intro (len_map (rI .u8) (show p0.length = p0.length from rfl)) (And.intro h7_0 (And.intro (rd_nn h7_1) (And.intro (at_row (rI .u8) (rd_get h7_1)) (And.intro h7_2 True.intro))))) ?_ (by kernel_rfl)
      exact hin ((w64 (i7_0 + 1)), (w64 (i7_1 + 1))) (Option.some.inj hm).symm
  · skip
    refine go_on (u' := .c c_laws_heldByteS_25) (K' := K_laws_heldByteS_25) (st' := s_laws_heldByteS_25 i7_0) [.num p0.length, .bit false] 1000 (And.intro (len_map (rI .u8) (show p0.length = p0.length from rfl)) (And.intro h7_0 True.intro)) ?_ (by kernel_rfl)
    exact hout (.inr i7_0) (Option.some.inj hm).symm

theorem ok_laws_heldByteS_0 (p0 : (List Int)) (p1 : Int) (r : Int) (hm : m_laws_heldByteS_0 p0 p1 = some r) : EvU ext tbl (.c c_laws_heldByteS_0) K_laws_heldByteS_0 (s_laws_heldByteS_0 p0 p1) (Post vf_laws_heldByteS (res_laws_heldByteS r)) := by
  refine go_on (u' := .c c_laws_heldByteS_7) (K' := K_laws_heldByteS_7) (st' := s_laws_heldByteS_7 p0 p1 0) [] 1000 True.intro ?_ (by kernel_rfl)
  obtain ⟨e, he, hm⟩ := bind_some hm
  refine loop_rule (u := .c c_laws_heldByteS_7) (K := K_laws_heldByteS_7) (Q := (Post vf_laws_heldByteS (res_laws_heldByteS r))) (b := lp_laws_heldByteS_7 p0) (We := O_laws_heldByteS_7 (Post vf_laws_heldByteS (res_laws_heldByteS r))) (stJ := fun s => s_laws_heldByteS_7 p0 s.1 s.2) (s := (p1, 0)) (fun s y hb hin hout => ok_laws_heldByteS_7 p0 s.1 s.2 y hb (Post vf_laws_heldByteS (res_laws_heldByteS r)) hin hout) he ?_
  rcases e with e | e
  · skip
    exact congrArg (fun r => Post vf_laws_heldByteS (res_laws_heldByteS r)) (Option.some.inj hm).symm
  · skip
    show EvU ext tbl (.c c_laws_heldByteS_25) K_laws_heldByteS_25 (s_laws_heldByteS_25 e) _
    exact ok_laws_heldByteS_25 e r hm

theorem ok_laws_heldByteS (p0 : (List Int)) (p1 : Int) (r : Int) (hm : m_laws_heldByteS p0 p1 = some r) : Runs ext tbl 20 (as_laws_heldByteS p0 p1) (res_laws_heldByteS r) :=
  runs_of (vf := vf_laws_heldByteS) (by kernel_rfl) rfl (st := (enter vf_laws_heldByteS (as_laws_heldByteS p0 p1)).getD default) (by kernel_rfl) (go_on [] 1000 True.intro (ok_laws_heldByteS_0 p0 p1 r hm) (by kernel_rfl))
theorem ok_laws_FnExactEncodeTones_0 (p0 : S_Tones) (r : Bool) (hm : m_laws_FnExactEncodeTones_0 p0 = some r) : EvU ext tbl (.c c_laws_FnExactEncodeTones_0) K_laws_FnExactEncodeTones_0 (s_laws_FnExactEncodeTones_0 p0) (Post vf_laws_FnExactEncodeTones (res_laws_FnExactEncodeTones r)) := by
  obtain ⟨x0_0, h0_0, hm⟩ := bind_some hm
  obtain ⟨h0_1, hm⟩ | ⟨h0_1, hm⟩ := split_ite hm
  · skip
    exact go_end [.res (res_laws_szTones x0_0), .bit true] 1000 (And.intro (ok_laws_szTones p0 1048576 x0_0 h0_0) (And.intro h0_1 True.intro)) (congrArg res_laws_FnExactEncodeTones (Option.some.inj hm)) (by kernel_rfl)
  · skip
    obtain ⟨x0_2, h0_2, hm⟩ := bind_some hm
    obtain ⟨x0_3, h0_3, hm⟩ := bind_some hm
    obtain ⟨x0_4, h0_4, hm⟩ := bind_some hm
    obtain ⟨x0_5, h0_5, hm⟩ := bind_some hm
    obtain ⟨h0_6, hm⟩ | ⟨h0_6, hm⟩ := split_ite hm
    · skip
      obtain ⟨x0_7, h0_7, hm⟩ := bind_some hm
      obtain ⟨h0_8, hm⟩ | ⟨h0_8, hm⟩ := split_ite hm
      · skip
        obtain ⟨x0_9, h0_9, hm⟩ := bind_some hm
        obtain ⟨h0_10, hm⟩ | ⟨h0_10, hm⟩ := split_ite hm
        · skip
          exact go_end [.res (res_laws_szTones x0_0), .bit false, .res (res_laws_toTones x0_2), .num x0_2.slots.length, .num x0_2.grades.length, .rows (List.map (rL (rI .i64)) x0_2.slots), .rows (List.map (rL (rI .i64)) x0_2.grades), .res (res_spec_EncodeTones x0_3), .num x0_3.length, .res (res_laws_toTones x0_2), .num x0_2.slots.length, .num x0_2.grades.length, .rows (List.map (rL (rI .i64)) x0_2.slots), .rows (List.map (rL (rI .i64)) x0_2.grades), .res (res_impl_EncodeTones x0_4), .num x0_4.length, .rows (List.map (rI .u8) x0_4), .rows (List.map (rI .u8) x0_3), .res (res_laws_eqByteS x0_5), .bit false, .res (res_laws_toTones x0_2), .num x0_2.slots.length, .num x0_2.grades.length, .rows (List.map (rL (rI .i64)) x0_2.slots), .rows (List.map (rL (rI .i64)) x0_2.grades), .rows (List.map (rL (rI .i64)) x0_2.slots), .rows (List.map (rL (rI .i64)) x0_2.grades), .res (res_laws_eqTones x0_7), .bit false, .rows (List.map (rL (rI .i64)) x0_2.slots), .rows (List.map (rL (rI .i64)) x0_2.grades), .res (res_laws_markTones x0_9), .bit true, .bit true, .bit true, .bit true, .bit true, .bit true] 1000 (And.intro (ok_laws_szTones p0 1048576 x0_0 h0_0) (And.intro h0_1 (And.intro (ok_laws_toTones p0 x0_2 h0_2) (And.intro (len_map (rL (rI .i64)) (show x0_2.slots.length = x0_2.slots.length from rfl)) (And.intro (len_map (rL (rI .i64)) (show x0_2.grades.length = x0_2.grades.length from rfl)) (And.intro (all_le (rL (rI .i64)) x0_2.slots rfl) (And.intro (all_dt (rL (rI .i64)) x0_2.slots rfl) (And.intro (all_le (rL (rI .i64)) x0_2.grades rfl) (And.intro (all_dt (rL (rI .i64)) x0_2.grades rfl) (And.intro (ok_spec_EncodeTones x0_2 x0_3 h0_3) (And.intro (len_map (rI .u8) (show x0_3.length = x0_3.length from rfl)) (And.intro (ok_laws_toTones p0 x0_2 h0_2) (And.intro (len_map (rL (rI .i64)) (show x0_2.slots.length = x0_2.slots.length from rfl)) (And.intro (len_map (rL (rI .i64)) (show x0_2.grades.length = x0_2.grades.length from rfl)) (And.intro (all_le (rL (rI .i64)) x0_2.slots rfl) (And.intro (all_dt (rL (rI .i64)) x0_2.slots rfl) (And.intro (all_le (rL (rI .i64)) x0_2.grades rfl) (And.intro (all_dt (rL (rI .i64)) x0_2.grades rfl) (And.intro (ok_impl_EncodeTones x0_2 x0_4 h0_4) (And.intro (len_map (rI .u8) (show x0_4.length = x0_4.length from rfl)) (And.intro (all_le (rI .u8) x0_4 rfl) (And.intro (all_dt (rI .u8) x0_4 rfl) (And.intro (all_le (rI .u8) x0_3 rfl) (And.intro (all_dt (rI .u8) x0_3 rfl) (And.intro (ok_laws_eqByteS x0_4 x0_3 x0_5 h0_5) (And.intro (not_f h0_6) (And.intro (ok_laws_toTones p0 x0_2 h0_2) (And.intro (len_map (rL (rI .i64)) (show x0_2.slots.length = x0_2.slots.length from rfl)) (And.intro (len_map (rL (rI .i64)) (show x0_2.grades.length = x0_2.grades.length from rfl)) (And.intro (all_le (rL (rI .i64)) x0_2.slots rfl) (And.intro (all_dt (rL (rI .i64)) x0_2.slots rfl) (And.intro (all_le (rL (rI .i64)) x0_2.grades rfl) (And.intro (all_dt (rL (rI .i64)) x0_2.grades rfl) (And.intro (all_le (rL (rI .i64)) x0_2.slots rfl) (And.intro (all_dt (rL (rI .i64)) x0_2.slots rfl) (And.intro (all_le (rL (rI .i64)) x0_2.grades rfl) (And.intro (all_dt (rL (rI .i64)) x0_2.grades rfl) (And.intro (ok_laws_eqTones x0_2 x0_2 x0_7 h0_7) (And.intro (not_f h0_8) (And.intro (all_le0 (rL (rI .i64)) x0_2.slots rfl) (And.intro (all_t (rL (rI .i64)) x0_2.slots rfl) (And.intro (all_le0 (rL (rI .i64)) x0_2.grades rfl) (And.intro (all_t (rL (rI .i64)) x0_2.grades rfl) (And.intro (ok_laws_markTones x0_2 1 x0_9 h0_9) (And.intro h0_10 (And.intro h0_10 (And.intro h0_10 (And.intro h0_10 (And.intro h0_10 (And.intro (Eq.refl true) True.intro)))))))))))))))))))))))))))))))))))))))))))))))))) (congrArg res_laws_FnExactEncodeTones (Option.some.inj hm)) (by kernel_rfl)
        · skip
          obtain ⟨x0_11, h0_11, hm⟩ := bind_some hm
          obtain ⟨x0_12, h0_12, hm⟩ := bind_some hm
          obtain ⟨x0_13, h0_13, hm⟩ := bind_some hm
          obtain ⟨h0_14, hm⟩ | ⟨h0_14, hm⟩ := split_ite hm
          · skip
            exact go_end [.res (res_laws_szTones x0_0), .bit false, .res (res_laws_toTones x0_2), .num x0_2.slots.length, .num x0_2.grades.length, .rows (List.map (rL (rI .i64)) x0_2.slots), .rows (List.map (rL (rI .i64)) x0_2.grades), .res (res_spec_EncodeTones x0_3), .num x0_3.length, .res (res_laws_toTones x0_2), .num x0_2.slots.length, .num x0_2.grades.length, .rows (List.map (rL (rI .i64)) x0_2.slots), .rows (List.map (rL (rI .i64)) x0_2.grades), .res (res_impl_EncodeTones x0_4), .num x0_4.length, .rows (List.map (rI .u8) x0_4), .rows (List.map (rI .u8) x0_3), .res (res_laws_eqByteS x0_5), .bit false, .res (res_laws_toTones x0_2), .num x0_2.slots.length, .num x0_2.grades.length, .rows (List.map (rL (rI .i64)) x0_2.slots), .rows (List.map (rL (rI .i64)) x0_2.grades), .rows (List.map (rL (rI .i64)) x0_2.slots), .rows (List.map (rL (rI .i64)) x0_2.grades), .res (res_laws_eqTones x0_7), .bit false, .rows (List.map (rL (rI .i64)) x0_2.slots), .rows (List.map (rL (rI .i64)) x0_2.grades), .res (res_laws_markTones x0_9), .bit false, .bit false, .bit false, .rows (List.map (rI .u8) x0_4), .rows (List.map (rI .u8) x0_3), .res (res_laws_eqByteS x0_5), .bit false, .bit false, .bit false, .res (res_laws_markByteS x0_11), .rows (List.map (rI .u8) x0_11.2), .res (res_laws_heldByteS x0_13), .bit true] 1000 (And.intro (ok_laws_szTones p0 1048576 x0_0 h0_0) (And.intro h0_1 (And.intro (ok_laws_toTones p0 x0_2 h0_2) (And.intro (len_map (rL (rI .i64)) (show x0_2.slots.length = x0_2.slots.length from rfl)) (And.intro (len_map (rL (rI .i64)) (show x0_2.grades.length = x0_2.grades.length from rfl)) (And.intro (all_le (rL (rI .i64)) x0_2.slots rfl) (And.intro (all_dt (rL (rI .i64)) x0_2.slots rfl) (And.intro (all_le (rL (rI .i64)) x0_2.grades rfl) (And.intro (all_dt (rL (rI .i64)) x0_2.grades rfl) (And.intro (ok_spec_EncodeTones x0_2 x0_3 h0_3) (And.intro (len_map (rI .u8) (show x0_3.length = x0_3.length from rfl)) (And.intro (ok_laws_toTones p0 x0_2 h0_2) (And.intro (len_map (rL (rI .i64)) (show x0_2.slots.length = x0_2.slots.length from rfl)) (And.intro (len_map (rL (rI .i64)) (show x0_2.grades.length = x0_2.grades.length from rfl)) (And.intro (all_le (rL (rI .i64)) x0_2.slots rfl) (And.intro (all_dt (rL (rI .i64)) x0_2.slots rfl) (And.intro (all_le (rL (rI .i64)) x0_2.grades rfl) (And.intro (all_dt (rL (rI .i64)) x0_2.grades rfl) (And.intro (ok_impl_EncodeTones x0_2 x0_4 h0_4) (And.intro (len_map (rI .u8) (show x0_4.length = x0_4.length from rfl)) (And.intro (all_le (rI .u8) x0_4 rfl) (And.intro (all_dt (rI .u8) x0_4 rfl) (And.intro (all_le (rI .u8) x0_3 rfl) (And.intro (all_dt (rI .u8) x0_3 rfl) (And.intro (ok_laws_eqByteS x0_4 x0_3 x0_5 h0_5) (And.intro (not_f h0_6) (And.intro (ok_laws_toTones p0 x0_2 h0_2) (And.intro (len_map (rL (rI .i64)) (show x0_2.slots.length = x0_2.slots.length from rfl)) (And.intro (len_map (rL (rI .i64)) (show x0_2.grades.length = x0_2.grades.length from rfl)) (And.intro (all_le (rL (rI .i64)) x0_2.slots rfl) (And.intro (all_dt (rL (rI .i64)) x0_2.slots rfl) (And.intro (all_le (rL (rI .i64)) x0_2.grades rfl) (And.intro (all_dt (rL (rI .i64)) x0_2.grades rfl) (And.intro (all_le (rL (rI .i64)) x0_2.slots rfl) (And.intro (all_dt (rL (rI .i64)) x0_2.slots rfl) (And.intro (all_le (rL (rI .i64)) x0_2.grades rfl) (And.intro (all_dt (rL (rI .i64)) x0_2.grades rfl) (And.intro (ok_laws_eqTones x0_2 x0_2 x0_7 h0_7) (And.intro (not_f h0_8) (And.intro (all_le0 (rL (rI .i64)) x0_2.slots rfl) (And.intro (all_t (rL (rI .i64)) x0_2.slots rfl) (And.intro (all_le0 (rL (rI .i64)) x0_2.grades rfl) (And.intro (all_t (rL (rI .i64)) x0_2.grades rfl) (And.intro (ok_laws_markTones x0_2 1 x0_9 h0_9) (And.intro h0_10 (And.intro h0_10 (And.intro h0_10 (And.intro (all_le (rI .u8) x0_4 rfl) (And.intro (all_dt (rI .u8) x0_4 rfl) (And.intro (all_le (rI .u8) x0_3 rfl) (And.intro (all_dt (rI .u8) x0_3 rfl) (And.intro (ok_laws_eqByteS x0_4 x0_3 x0_5 h0_5) (And.intro h0_10 (And.intro h0_10 (And.intro (not_f h0_6) (And.intro (all_eq (rI .u8) x0_4 rfl) (And.intro (ok_laws_markByteS x0_4 1 x0_11 h0_11) (And.intro (len2 (rI .u8) x0_11.2 x0_4 (ck_p h0_12)) (And.intro (all_le (rI .u8) x0_11.2 (Eq.trans rfl (Eq.symm (ck_p h0_12)))) (And.intro (all_dt (rI .u8) x0_11.2 (Eq.trans rfl (Eq.symm (ck_p h0_12)))) (And.intro (ok_laws_heldByteS x0_11.2 1 x0_13 h0_13) (And.intro h0_14 True.intro)))))))))))))))))))))))))))))))))))))))))))))))))))))))))))))) (congrArg res_laws_FnExactEncodeTones (Option.some.inj hm)) (by kernel_rfl)
          · skip
            obtain ⟨h0_15, hm⟩ | ⟨h0_15, hm⟩ := split_ite hm
            · skip
              exact go_end [.res (res_laws_szTones x0_0), .bit false, .res (res_laws_toTones x0_2), .num x0_2.slots.length, .num x0_2.grades.length, .rows (List.map (rL (rI .i64)) x0_2.slots), .rows (List.map (rL (rI .i64)) x0_2.grades), .res (res_spec_EncodeTones x0_3), .num x0_3.length, .res (res_laws_toTones x0_2), .num x0_2.slots.length, .num x0_2.grades.length, .rows (List.map (rL (rI .i64)) x0_2.slots), .rows (List.map (rL (rI .i64)) x0_2.grades), .res (res_impl_EncodeTones x0_4), .num x0_4.length, .rows (List.map (rI .u8) x0_4), .rows (List.map (rI .u8) x0_3), .res (res_laws_eqByteS x0_5), .bit false, .res (res_laws_toTones x0_2), .num x0_2.slots.length, .num x0_2.grades.length, .rows (List.map (rL (rI .i64)) x0_2.slots), .rows (List.map (rL (rI .i64)) x0_2.grades), .rows (List.map (rL (rI .i64)) x0_2.slots), .rows (List.map (rL (rI .i64)) x0_2.grades), .res (res_laws_eqTones x0_7), .bit false, .rows (List.map (rL (rI .i64)) x0_2.slots), .rows (List.map (rL (rI .i64)) x0_2.grades), .res (res_laws_markTones x0_9), .bit false, .bit false, .bit false, .rows (List.map (rI .u8) x0_4), .rows (List.map (rI .u8) x0_3), .res (res_laws_eqByteS x0_5), .bit false, .bit false, .bit false, .res (res_laws_markByteS x0_11), .rows (List.map (rI .u8) x0_11.2), .res (res_laws_heldByteS x0_13), .bit false, .bit true] 1000 (And.intro (ok_laws_szTones p0 1048576 x0_0 h0_0) (And.intro h0_1 (And.intro (ok_laws_toTones p0 x0_2 h0_2) (And.intro (len_map (rL (rI .i64)) (show x0_2.slots.length = x0_2.slots.length from rfl)) (And.intro (len_map (rL (rI .i64)) (show x0_2.grades.length = x0_2.grades.length from rfl)) (And.intro (all_le (rL (rI .i64)) x0_2.slots rfl) (And.intro (all_dt (rL (rI .i64)) x0_2.slots rfl) (And.intro (all_le (rL (rI .i64)) x0_2.grades rfl) (And.intro (all_dt (rL (rI .i64)) x0_2.grades rfl) (And.intro (ok_spec_EncodeTones x0_2 x0_3 h0_3) (And.intro (len_map (rI .u8) (show x0_3.length = x0_3.length from rfl)) (And.intro (ok_laws_toTones p0 x0_2 h0_2) (And.intro (len_map (rL (rI .i64)) (show x0_2.slots.length = x0_2.slots.length from rfl)) (And.intro (len_map (rL (rI .i64)) (show x0_2.grades.length = x0_2.grades.length from rfl)) (And.intro (all_le (rL (rI .i64)) x0_2.slots rfl) (And.intro (all_dt (rL (rI .i64)) x0_2.slots rfl) (And.intro (all_le (rL (rI .i64)) x0_2.grades rfl) (And.intro (all_dt (rL (rI .i64)) x0_2.grades rfl) (And.intro (ok_impl_EncodeTones x0_2 x0_4 h0_4) (And.intro (len_map (rI .u8) (show x0_4.length = x0_4.length from rfl)) (And.intro (all_le (rI .u8) x0_4 rfl) (And.intro (all_dt (rI .u8) x0_4 rfl) (And.intro (all_le (rI .u8) x0_3 rfl) (And.intro (all_dt (rI .u8) x0_3 rfl) (And.intro (ok_laws_eqByteS x0_4 x0_3 x0_5 h0_5) (And.intro (not_f h0_6) (And.intro (ok_laws_toTones p0 x0_2 h0_2) (And.intro (len_map (rL (rI .i64)) (show x0_2.slots.length = x0_2.slots.length from rfl)) (And.intro (len_map (rL (rI .i64)) (show x0_2.grades.length = x0_2.grades.length from rfl)) (And.intro (all_le (rL (rI .i64)) x0_2.slots rfl) (And.intro (all_dt (rL (rI .i64)) x0_2.slots rfl) (And.intro (all_le (rL (rI .i64)) x0_2.grades rfl) (And.intro (all_dt (rL (rI .i64)) x0_2.grades rfl) (And.intro (all_le (rL (rI .i64)) x0_2.slots rfl) (And.intro (all_dt (rL (rI .i64)) x0_2.slots rfl) (And.intro (all_le (rL (rI .i64)) x0_2.grades rfl) (And.intro (all_dt (rL (rI .i64)) x0_2.grades rfl) (And.intro (ok_laws_eqTones x0_2 x0_2 x0_7 h0_7) (And.intro (not_f h0_8) (And.intro (all_le0 (rL (rI .i64)) x0_2.slots rfl) (And.intro (all_t (rL (rI .i64)) x0_2.slots rfl) (And.intro (all_le0 (rL (rI .i64)) x0_2.grades rfl) (And.intro (all_t (rL (rI .i64)) x0_2.grades rfl) (And.intro (ok_laws_markTones x0_2 1 x0_9 h0_9) (And.intro h0_10 (And.intro h0_10 (And.intro h0_10 (And.intro (all_le (rI .u8) x0_4 rfl) (And.intro (all_dt (rI .u8) x0_4 rfl) (And.intro (all_le (rI .u8) x0_3 rfl) (And.intro (all_dt (rI .u8) x0_3 rfl) (And.intro (ok_laws_eqByteS x0_4 x0_3 x0_5 h0_5) (And.intro h0_10 (And.intro h0_10 (And.intro (not_f h0_6) (And.intro (all_eq (rI .u8) x0_4 rfl) (And.intro (ok_laws_markByteS x0_4 1 x0_11 h0_11) (And.intro (len2 (rI .u8) x0_11.2 x0_4 (ck_p h0_12)) (And.intro (all_le (rI .u8) x0_11.2 (Eq.trans rfl (Eq.symm (ck_p h0_12)))) (And.intro (all_dt (rI .u8) x0_11.2 (Eq.trans rfl (Eq.symm (ck_p h0_12)))) (And.intro (ok_laws_heldByteS x0_11.2 1 x0_13 h0_13) (And.intro h0_14 (And.intro h0_15 True.intro))))))))))))))))))))))))))))))))))))))))))))))))))))))))))))))) (congrArg res_laws_FnExactEncodeTones (Option.some.inj hm)) (by kernel_rfl)
            · skip
              exact go_end [.res (res_laws_szTones x0_0), .bit false, .res (res_laws_toTones x0_2), .num x0_2.slots.length, .num x0_2.grades.length, .rows (List.map (rL (rI .i64)) x0_2.slots), .rows (List.map (rL (rI .i64)) x0_2.grades), .res (res_spec_EncodeTones x0_3), .num x0_3.length, .res (res_laws_toTones x0_2), .num x0_2.slots.length, .num x0_2.grades.length, .rows (List.map (rL (rI .i64)) x0_2.slots), .rows (List.map (rL (rI .i64)) x0_2.grades), .res (res_impl_EncodeTones x0_4), .num x0_4.length, .rows (List.map (rI .u8) x0_4), .rows (List.map (rI .u8) x0_3), .res (res_laws_eqByteS x0_5), .bit false, .res (res_laws_toTones x0_2), .num x0_2.slots.length, .num x0_2.grades.length, .rows (List.map (rL (rI .i64)) x0_2.slots), .rows (List.map (rL (rI .i64)) x0_2.grades), .rows (List.map (rL (rI .i64)) x0_2.slots), .rows (List.map (rL (rI .i64)) x0_2.grades), .res (res_laws_eqTones x0_7), .bit false, .rows (List.map (rL (rI .i64)) x0_2.slots), .rows (List.map (rL (rI .i64)) x0_2.grades), .res (res_laws_markTones x0_9), .bit false, .bit false, .bit false, .rows (List.map (rI .u8) x0_4), .rows (List.map (rI .u8) x0_3), .res (res_laws_eqByteS x0_5), .bit false, .bit false, .bit false, .res (res_laws_markByteS x0_11), .rows (List.map (rI .u8) x0_11.2), .res (res_laws_heldByteS x0_13), .bit false, .bit false, .res (res_laws_toTones x0_2), .num x0_2.slots.length, .num x0_2.grades.length, .rows (List.map (rL (rI .i64)) x0_2.slots), .rows (List.map (rL (rI .i64)) x0_2.grades), .res (res_impl_EncodeTones x0_4), .num x0_4.length, .rows (List.map (rI .u8) x0_4), .rows (List.map (rI .u8) x0_3), .res (res_laws_eqByteS x0_5), .bit false, .rows (List.map (rI .u8) x0_11.2), .res (res_laws_heldByteS x0_13), .bit false, .bit false] 1000 (And.intro (ok_laws_szTones p0 1048576 x0_0 h0_0) (And.intro h0_1 (And.intro (ok_laws_toTones p0 x0_2 h0_2) (And.intro (len_map (rL (rI .i64)) (show x0_2.slots.length = x0_2.slots.length from rfl)) (And.intro (len_map (rL (rI .i64)) (show x0_2.grades.length = x0_2.grades.length from rfl)) (And.intro (all_le (rL (rI .i64)) x0_2.slots rfl) (And.intro (all_dt (rL (rI .i64)) x0_2.slots rfl) (And.intro (all_le (rL (rI .i64)) x0_2.grades rfl) (And.intro (all_dt (rL (rI .i64)) x0_2.grades rfl) (And.intro (ok_spec_EncodeTones x0_2 x0_3 h0_3) (And.intro (len_map (rI .u8) (show x0_3.length = x0_3.length from rfl)) (And.intro (ok_laws_toTones p0 x0_2 h0_2) (And.intro (len_map (rL (rI .i64)) (show x0_2.slots.length = x0_2.slots.length from rfl)) (And.intro (len_map (rL (rI .i64)) (show x0_2.grades.length = x0_2.grades.length from rfl)) (And.intro (all_le (rL (rI .i64)) x0_2.slots rfl) (And.intro (all_dt (rL (rI .i64)) x0_2.slots rfl) (And.intro (all_le (rL (rI .i64)) x0_2.grades rfl) (And.intro (all_dt (rL (rI .i64)) x0_2.grades rfl) (And.intro (ok_impl_EncodeTones x0_2 x0_4 h0_4) (And.intro (len_map (rI .u8) (show x0_4.length = x0_4.length from rfl)) (And.intro (all_le (rI .u8) x0_4 rfl) (And.intro (all_dt (rI .u8) x0_4 rfl) (And.intro (all_le (rI .u8) x0_3 rfl) (And.intro (all_dt (rI .u8) x0_3 rfl) (And.intro (ok_laws_eqByteS x0_4 x0_3 x0_5 h0_5) (And.intro (not_f h0_6) (And.intro (ok_laws_toTones p0 x0_2 h0_2) (And.intro (len_map (rL (rI .i64)) (show x0_2.slots.length = x0_2.slots.length from rfl)) (And.intro (len_map (rL (rI .i64)) (show x0_2.grades.length = x0_2.grades.length from rfl)) (And.intro (all_le (rL (rI .i64)) x0_2.slots rfl) (And.intro (all_dt (rL (rI .i64)) x0_2.slots rfl) (And.intro (all_le (rL (rI .i64)) x0_2.grades rfl) (And.intro (all_dt (rL (rI .i64)) x0_2.grades rfl) (And.intro (all_le (rL (rI .i64)) x0_2.slots rfl) (And.intro (all_dt (rL (rI .i64)) x0_2.slots rfl) (And.intro (all_le (rL (rI .i64)) x0_2.grades rfl) (And.intro (all_dt (rL (rI .i64)) x0_2.grades rfl) (And.intro (ok_laws_eqTones x0_2 x0_2 x0_7 h0_7) (And.intro (not_f h0_8) (And.intro (all_le0 (rL (rI .i64)) x0_2.slots rfl) (And.intro (all_t (rL (rI .i64)) x0_2.slots rfl) (And.intro (all_le0 (rL (rI .i64)) x0_2.grades rfl) (And.intro (all_t (rL (rI .i64)) x0_2.grades rfl) (And.intro (ok_laws_markTones x0_2 1 x0_9 h0_9) (And.intro h0_10 (And.intro h0_10 (And.intro h0_10 (And.intro (all_le (rI .u8) x0_4 rfl) (And.intro (all_dt (rI .u8) x0_4 rfl) (And.intro (all_le (rI .u8) x0_3 rfl) (And.intro (all_dt (rI .u8) x0_3 rfl) (And.intro (ok_laws_eqByteS x0_4 x0_3 x0_5 h0_5) (And.intro h0_10 (And.intro h0_10 (And.intro (not_f h0_6) (And.intro (all_eq (rI .u8) x0_4 rfl) (And.intro (ok_laws_markByteS x0_4 1 x0_11 h0_11) (And.intro (len2 (rI .u8) x0_11.2 x0_4 (ck_p h0_12)) (And.intro (all_le (rI .u8) x0_11.2 (Eq.trans rfl (Eq.symm (ck_p h0_12)))) (And.intro (all_dt (rI .u8) x0_11.2 (Eq.trans rfl (Eq.symm (ck_p h0_12)))) (And.intro (ok_laws_heldByteS x0_11.2 1 x0_13 h0_13) (And.intro h0_14 (And.intro h0_15 (And.intro (ok_laws_toTones p0 x0_2 h0_2) (And.intro (len_map (rL (rI .i64)) (show x0_2.slots.length = x0_2.slots.length from rfl)) (And.intro (len_map (rL (rI .i64)) (show x0_2.grades.length = x0_2.grades.length from rfl)) (And.intro (all_le (rL (rI .i64)) x0_2.slots rfl) (And.intro (all_dt (rL (rI .i64)) x0_2.slots rfl) (And.intro (all_le (rL (rI .i64)) x0_2.grades rfl) (And.intro (all_dt (rL (rI .i64)) x0_2.grades rfl) (And.intro (ok_impl_EncodeTones x0_2 x0_4 h0_4) (And.intro (len_map (rI .u8) (show x0_4.length = x0_4.length from rfl)) (And.intro (all_le (rI .u8) x0_4 rfl) (And.intro (all_dt (rI .u8) x0_4 rfl) (And.intro (all_le (rI .u8) x0_3 rfl) (And.intro (all_dt (rI .u8) x0_3 rfl) (And.intro (ok_laws_eqByteS x0_4 x0_3 x0_5 h0_5) (And.intro (not_f h0_6) (And.intro (all_le (rI .u8) x0_11.2 (Eq.trans rfl (Eq.symm (ck_p h0_12)))) (And.intro (all_dt (rI .u8) x0_11.2 (Eq.trans rfl (Eq.symm (ck_p h0_12)))) (And.intro (ok_laws_heldByteS x0_11.2 1 x0_13 h0_13) (And.intro h0_14 (And.intro h0_15 True.intro))))))))))))))))))))))))))))))))))))))))))))))))))))))))))))))))))))))))))))))))))) (congrArg res_laws_FnExactEncodeTones (Option.some.inj hm)) (by kernel_rfl)
      · skip
        exact go_end [.res (res_laws_szTones x0_0), .bit false, .res (res_laws_toTones x0_2), .num x0_2.slots.length, .num x0_2.grades.length, .rows (List.map (rL (rI .i64)) x0_2.slots), .rows (List.map (rL (rI .i64)) x0_2.grades), .res (res_spec_EncodeTones x0_3), .num x0_3.length, .res (res_laws_toTones x0_2), .num x0_2.slots.length, .num x0_2.grades.length, .rows (List.map (rL (rI .i64)) x0_2.slots), .rows (List.map (rL (rI .i64)) x0_2.grades), .res (res_impl_EncodeTones x0_4), .num x0_4.length, .rows (List.map (rI .u8) x0_4), .rows (List.map (rI .u8) x0_3), .res (res_laws_eqByteS x0_5), .bit false, .res (res_laws_toTones x0_2), .num x0_2.slots.length, .num x0_2.grades.length, .rows (List.map (rL (rI .i64)) x0_2.slots), .rows (List.map (rL (rI .i64)) x0_2.grades), .rows (List.map (rL (rI .i64)) x0_2.slots), .rows (List.map (rL (rI .i64)) x0_2.grades), .res (res_laws_eqTones x0_7), .bit true] 1000 (And.intro (ok_laws_szTones p0 1048576 x0_0 h0_0) (And.intro h0_1 (And.intro (ok_laws_toTones p0 x0_2 h0_2) (And.intro (len_map (rL (rI .i64)) (show x0_2.slots.length = x0_2.slots.length from rfl)) (And.intro (len_map (rL (rI .i64)) (show x0_2.grades.length = x0_2.grades.length from rfl)) (And.intro (all_le (rL (rI .i64)) x0_2.slots rfl) (And.intro (all_dt (rL (rI .i64)) x0_2.slots rfl) (And.intro (all_le (rL (rI .i64)) x0_2.grades rfl) (And.intro (all_dt (rL (rI .i64)) x0_2.grades rfl) (And.intro (ok_spec_EncodeTones x0_2 x0_3 h0_3) (And.intro (len_map (rI .u8) (show x0_3.length = x0_3.length from rfl)) (And.intro (ok_laws_toTones p0 x0_2 h0_2) (And.intro (len_map (rL (rI .i64)) (show x0_2.slots.length = x0_2.slots.length from rfl)) (And.intro (len_map (rL (rI .i64)) (show x0_2.grades.length = x0_2.grades.length from rfl)) (And.intro (all_le (rL (rI .i64)) x0_2.slots rfl) (And.intro (all_dt (rL (rI .i64)) x0_2.slots rfl) (And.intro (all_le (rL (rI .i64)) x0_2.grades rfl) (And.intro (all_dt (rL (rI .i64)) x0_2.grades rfl) (And.intro (ok_impl_EncodeTones x0_2 x0_4 h0_4) (And.intro (len_map (rI .u8) (show x0_4.length = x0_4.length from rfl)) (And.intro (all_le (rI .u8) x0_4 rfl) (And.intro (all_dt (rI .u8) x0_4 rfl) (And.intro (all_le (rI .u8) x0_3 rfl) (And.intro (all_dt (rI .u8) x0_3 rfl) (And.intro (ok_laws_eqByteS x0_4 x0_3 x0_5 h0_5) (And.intro (not_f h0_6) (And.intro (ok_laws_toTones p0 x0_2 h0_2) (And.intro (len_map (rL (rI .i64)) (show x0_2.slots.length = x0_2.slots.length from rfl)) (And.intro (len_map (rL (rI .i64)) (show x0_2.grades.length = x0_2.grades.length from rfl)) (And.intro (all_le (rL (rI .i64)) x0_2.slots rfl) (And.intro (all_dt (rL (rI .i64)) x0_2.slots rfl) (And.intro (all_le (rL (rI .i64)) x0_2.grades rfl) (And.intro (all_dt (rL (rI .i64)) x0_2.grades rfl) (And.intro (all_le (rL (rI .i64)) x0_2.slots rfl) (And.intro (all_dt (rL (rI .i64)) x0_2.slots rfl) (And.intro (all_le (rL (rI .i64)) x0_2.grades rfl) (And.intro (all_dt (rL (rI .i64)) x0_2.grades rfl) (And.intro (ok_laws_eqTones x0_2 x0_2 x0_7 h0_7) (And.intro (not_t h0_8) True.intro))))))))))))))))))))))))))))))))))))))) (congrArg res_laws_FnExactEncodeTones (Option.some.inj hm)) (by kernel_rfl)
    · skip
      exact go_end [.res (res_laws_szTones x0_0), .bit false, .res (res_laws_toTones x0_2), .num x0_2.slots.length, .num x0_2.grades.length, .rows (List.map (rL (rI .i64)) x0_2.slots), .rows (List.map (rL (rI .i64)) x0_2.grades), .res (res_spec_EncodeTones x0_3), .num x0_3.length, .res (res_laws_toTones x0_2), .num x0_2.slots.length, .num x0_2.grades.length, .rows (List.map (rL (rI .i64)) x0_2.slots), .rows (List.map (rL (rI .i64)) x0_2.grades), .res (res_impl_EncodeTones x0_4), .num x0_4.length, .rows (List.map (rI .u8) x0_4), .rows (List.map (rI .u8) x0_3), .res (res_laws_eqByteS x0_5), .bit true] 1000 (And.intro (ok_laws_szTones p0 1048576 x0_0 h0_0) (And.intro h0_1 (And.intro (ok_laws_toTones p0 x0_2 h0_2) (And.intro (len_map (rL (rI .i64)) (show x0_2.slots.length = x0_2.slots.length from rfl)) (And.intro (len_map (rL (rI .i64)) (show x0_2.grades.length = x0_2.grades.length from rfl)) (And.intro (all_le (rL (rI .i64)) x0_2.slots rfl) (And.intro (all_dt (rL (rI .i64)) x0_2.slots rfl) (And.intro (all_le (rL (rI .i64)) x0_2.grades rfl) (And.intro (all_dt (rL (rI .i64)) x0_2.grades rfl) (And.intro (ok_spec_EncodeTones x0_2 x0_3 h0_3) (And.intro (len_map (rI .u8) (show x0_3.length = x0_3.length from rfl)) (And.intro (ok_laws_toTones p0 x0_2 h0_2) (And.intro (len_map (rL (rI .i64)) (show x0_2.slots.length = x0_2.slots.length from rfl)) (And.intro (len_map (rL (rI .i64)) (show x0_2.grades.length = x0_2.grades.length from rfl)) (And.intro (all_le (rL (rI .i64)) x0_2.slots rfl) (And.intro (all_dt (rL (rI .i64)) x0_2.slots rfl) (And.intro (all_le (rL (rI .i64)) x0_2.grades rfl) (And.intro (all_dt (rL (rI .i64)) x0_2.grades rfl) (And.intro (ok_impl_EncodeTones x0_2 x0_4 h0_4) (And.intro (len_map (rI .u8) (show x0_4.length = x0_4.length from rfl)) (And.intro (all_le (rI .u8) x0_4 rfl) (And.intro (all_dt (rI .u8) x0_4 rfl) (And.intro (all_le (rI .u8) x0_3 rfl) (And.intro (all_dt (rI .u8) x0_3 rfl) (And.intro (ok_laws_eqByteS x0_4 x0_3 x0_5 h0_5) (And.intro (not_t h0_6) True.intro)))))))))))))))))))))))))) (congrArg res_laws_FnExactEncodeTones (Option.some.inj hm)) (by kernel_rfl)

theorem ok_laws_FnExactEncodeTones (p0 : S_Tones) (r : Bool) (hm : m_laws_FnExactEncodeTones p0 = some r) : Runs ext tbl 3 (as_laws_FnExactEncodeTones p0) (res_laws_FnExactEncodeTones r) :=
  runs_of (vf := vf_laws_FnExactEncodeTones) (by kernel_rfl) rfl (st := (enter vf_laws_FnExactEncodeTones (as_laws_FnExactEncodeTones p0)).getD default) (by kernel_rfl) (go_on [] 1000 True.intro (ok_laws_FnExactEncodeTones_0 p0 r hm) (by kernel_rfl))
end Go.Proofs.V

/- The plain side: words that keep their numbers, loops that count. -/
set_option linter.unusedSimpArgs false
set_option linter.unusedVariables false
namespace Go.Proofs.V
open Go

theorem w64_id {x : Int} (h1 : -9223372036854775808 ≤ x) (h2 : x ≤ 9223372036854775807) : w64 x = x := IntWalk.i64_in x ⟨h1, h2⟩
theorem wu8_id {x : Int} (h1 : 0 ≤ x) (h2 : x ≤ 255) : wr .u8 x = x := IntWalk.u8_in x ⟨h1, h2⟩
theorem wu64_id {x : Int} (h1 : 0 ≤ x) (h2 : x ≤ 18446744073709551615) : wr .u64 x = x := IntWalk.u64_in x ⟨h1, h2⟩
theorem wu32_id {x : Int} (h1 : 0 ≤ x) (h2 : x ≤ 4294967295) : wr .u32 x = x := IntWalk.u32_in x ⟨h1, h2⟩
theorem wu64_eq (x : Int) : wr .u64 x = x % 18446744073709551616 := by
  unfold wr IntKind.wrap
  simp [IntKind.bits, IntKind.signed]
theorem wu8_eq (x : Int) : wr .u8 x = x % 256 := by
  unfold wr IntKind.wrap
  simp [IntKind.bits, IntKind.signed]
theorem w64_succ {i : Nat} (h : i < 4611686018427387904) : w64 ((i : Int) + 1) = ((i + 1 : Nat) : Int) := by rw [w64_id (by omega) (by omega)]; omega

section
variable {α σ τ ε : Type}
theorem loopM_fun {b : τ → Option (τ ⊕ ε)} (mk : Nat → σ → τ) (n : Nat) (f : Nat → σ) {e : ε} (step : ∀ i, i < n → b (mk i (f i)) = some (.inl (mk (i + 1) (f (i + 1))))) (done : b (mk n (f n)) = some (.inr e)) : loopM b (mk 0 (f 0)) = some e := by
  have key : ∀ d i, i + d = n → loopM b (mk i (f i)) = some e := by
    intro d
    induction d with
    | zero =>
      intro i hi
      have : i = n := by omega
      subst this
      rw [loopM_eq, done]
    | succ d ih =>
      intro i hi
      rw [loopM_eq, step i (by omega)]
      exact ih (i + 1) (by omega)
  exact key n 0 (by omega)

theorem loopM_inv {b : τ → Option (τ ⊕ ε)} (mk : Nat → σ → τ) (n : Nat) (I : Nat → σ → Prop) (R : ε → Prop)
    (step : ∀ i s, i < n → I i s → (∃ s', b (mk i s) = some (.inl (mk (i + 1) s')) ∧ I (i + 1) s') ∨ ∃ e, b (mk i s) = some (.inr e) ∧ R e)
    (done : ∀ s, I n s → ∃ e, b (mk n s) = some (.inr e) ∧ R e) {s : σ} (h : I 0 s) : ∃ e, loopM b (mk 0 s) = some e ∧ R e := by
  have key : ∀ d i s, i + d = n → I i s → ∃ e, loopM b (mk i s) = some e ∧ R e := by
    intro d
    induction d with
    | zero =>
      intro i s hi hs
      have : i = n := by omega
      subst this
      obtain ⟨e, h1, h2⟩ := done s hs
      exact ⟨e, by rw [loopM_eq, h1], h2⟩
    | succ d ih =>
      intro i s hi hs
      rcases step i s (by omega) hs with ⟨s', h1, h2⟩ | ⟨e, h1, h2⟩
      · rw [loopM_eq, h1]
        exact ih (i + 1) s' (by omega) h2
      · exact ⟨e, by rw [loopM_eq, h1], h2⟩
  exact key n 0 s (by omega) h

theorem rd_eq {l : List α} {i : Nat} (h : i < l.length) : rd l (i : Int) = some l[i] := by
  unfold rd
  rw [if_pos (by omega)]
  simp [h]
theorem rd_eq' {l : List α} {k : Int} {i : Nat} (hk : k = i) (h : i < l.length) : rd l k = some l[i] := by subst hk; exact rd_eq h
theorem ck_eq {p : Prop} [Decidable p] (h : p) : ck (decide p) = some () := by unfold ck; rw [if_pos (by simpa using h)]

theorem fill_set (l : List α) (z : α) (i : Nat) (h : i < l.length) : (l.take i ++ List.replicate (l.length - i) z).set i l[i] = l.take (i + 1) ++ List.replicate (l.length - (i + 1)) z := by
  apply List.ext_getElem?
  intro j
  simp only [List.getElem?_set, List.getElem?_append, List.length_take, List.getElem?_take, List.getElem?_replicate, List.length_append, List.length_replicate]
  by_cases hj : i = j
  · subst hj
    have h1 : min i l.length = i := by omega
    have h2 : min (i + 1) l.length = i + 1 := by omega
    simp [h1, h2]
    rw [if_pos (by omega), List.getElem?_eq_getElem h]
  · rw [if_neg hj]
    have h1 : min i l.length = i := by omega
    have h2 : min (i + 1) l.length = i + 1 := by omega
    rw [h1, h2]
    by_cases h3 : j < i
    · rw [if_pos h3, if_pos (show j < i + 1 by omega), if_pos h3, if_pos (show j < i + 1 by omega)]
    · rw [if_neg h3, if_neg (show ¬ j < i + 1 by omega)]
      by_cases h4 : j < l.length
      · rw [if_pos (by omega), if_pos (by omega)]
      · rw [if_neg (by omega), if_neg (by omega)]
theorem fill_set0 (l : List α) (z : α) (i : Nat) (h : i < l.length) : (l.take i ++ List.replicate (l.length - i) z).set (0 + Int.toNat (i : Int)) l[i] = l.take (i + 1) ++ List.replicate (l.length - (i + 1)) z := by
  rw [Nat.zero_add]
  exact fill_set l z i h
theorem mark_set (g : Nat → α) (l : List α) (i : Nat) (h : i < l.length) : ((List.range i).map g ++ l.drop i).set (0 + Int.toNat (i : Int)) (g i) = (List.range (i + 1)).map g ++ l.drop (i + 1) := by
  apply List.ext_getElem?
  intro j
  simp only [Nat.zero_add, Int.toNat_natCast, List.getElem?_set, List.getElem?_append, List.length_map, List.length_range, List.getElem?_map, List.length_append, List.length_drop, List.getElem?_drop]
  by_cases hj : i = j
  · subst hj
    rw [if_pos rfl, if_pos (by omega), if_pos (by omega)]
    simp
  · rw [if_neg hj]
    by_cases h3 : j < i
    · rw [if_pos h3, if_pos (by omega)]
      simp [h3, show j < i + 1 by omega]
    · rw [if_neg h3, if_neg (by omega)]
      congr 1
      omega
end
end Go.Proofs.V

/- The plain side: the helpers of the laws. -/
set_option linter.unusedSimpArgs false
set_option linter.unusedVariables false
namespace Go.Proofs.V
open Go

-- ---------------------------------------------------------------- sizes
theorem szIntS_eq (l : List Int) (left : Int) (h1 : 0 ≤ left) (h2 : left ≤ 1048576) (hl : l.length ≤ 9223372036854775807) : m_laws_szIntS l left = some (if left - l.length < 0 then -1 else left - l.length) := by
  simp only [m_laws_szIntS, m_laws_szIntS_0]
  rw [w64_id (by omega) (by omega)]
  simp only [decide_eq_true_eq]
  split <;> rfl

/-- a list of lists whose size was told: what is left -/
theorem szIntSS_some (l : List (List Int)) (left : Int) (h1 : 0 ≤ left) (h2 : left ≤ 1048576) (hl : l.length ≤ 9223372036854775807) (hx : ∀ x ∈ l, x.length ≤ 9223372036854775807) :
    ∃ v, m_laws_szIntSS l left = some v ∧ (v < 0 ∨ 0 ≤ v ∧ v ≤ left ∧ l.length ≤ 1048576 ∧ ∀ x ∈ l, x.length ≤ 1048576) := by
  simp only [m_laws_szIntSS, m_laws_szIntSS_0]
  rw [w64_id (by omega) (by omega)]
  simp only [decide_eq_true_eq]
  split
  · exact ⟨-1, rfl, .inl (by omega)⟩
  · rename_i h0
    have hl' : l.length ≤ 1048576 := by omega
    have key := loopM_inv (b := lp_laws_szIntSS_17 l) (fun i (s : Int) => (s, (i : Int))) l.length (fun i s => 0 ≤ s ∧ s ≤ left ∧ ∀ j, j < i → ∀ x, l[j]? = some x → x.length ≤ 1048576) (fun e => e = .inl (-1) ∨ ∃ s, e = .inr s ∧ 0 ≤ s ∧ s ≤ left ∧ ∀ x ∈ l, x.length ≤ 1048576) ?_ ?_ (s := left - l.length) ⟨by omega, by omega, by omega⟩
    · obtain ⟨e, he, hr⟩ := key
      rw [show ((0 : Nat) : Int) = 0 from rfl] at he
      rw [he]
      rcases hr with rfl | ⟨s, rfl, h3, h4, h5⟩
      · exact ⟨-1, rfl, .inl (by omega)⟩
      · exact ⟨s, rfl, .inr ⟨h3, h4, hl', h5⟩⟩
    · rintro i s hi ⟨h3, h4, h5⟩
      simp only [lp_laws_szIntSS_17, m_laws_szIntSS_17]
      rw [if_pos (by simp; omega), rd_eq hi]
      simp only [Option.bind_some]
      rw [szIntS_eq _ s h3 (by omega) (hx _ (by simp))]
      simp only [Option.bind_some]
      by_cases h6 : s - l[i].length < 0
      · right
        refine ⟨.inl (-1), ?_, .inl rfl⟩
        rw [if_pos h6]
        rfl
      · left
        refine ⟨s - l[i].length, ?_, by omega, by omega, ?_⟩
        · rw [if_neg h6, if_neg (by simpa using h6), w64_succ (by omega)]
        · intro j hj x hxj
          by_cases hji : j = i
          · subst hji
            rw [List.getElem?_eq_getElem hi] at hxj
            simp at hxj
            subst hxj
            omega
          · exact h5 j (by omega) x hxj
    · rintro s ⟨h3, h4, h5⟩
      refine ⟨.inr s, ?_, .inr ⟨s, rfl, h3, h4, ?_⟩⟩
      · simp only [lp_laws_szIntSS_17, m_laws_szIntSS_17]
        rw [if_neg (by simp)]
      · intro x hx'
        obtain ⟨j, hj, e⟩ := List.getElem_of_mem hx'
        exact h5 j hj x (by rw [List.getElem?_eq_getElem hj, e])

-- ---------------------------------------------------------------- copies
theorem toIntS_eq (l : List Int) (hl : l.length ≤ 1048576) : m_laws_toIntS l = some l := by
  simp only [m_laws_toIntS, m_laws_toIntS_0]
  rw [ck_eq (by omega)]
  simp only [Option.bind_some]
  have := loopM_fun (b := lp_laws_toIntS_9 l) (fun i (s : List Int) => ((i : Int), s)) l.length (fun i => l.take i ++ List.replicate (l.length - i) 0) (e := l) ?_ ?_
  · simp only [List.take_zero, List.nil_append, Nat.sub_zero] at this
    rw [show (((0 : Nat) : Int)) = 0 from rfl] at this
    simp only [Int.toNat_natCast]
    rw [this]
    rfl
  · intro i hi
    simp only [lp_laws_toIntS_9, m_laws_toIntS_9]
    rw [if_pos (by simp; omega), rd_eq hi]
    simp only [Option.bind_some]
    rw [rd_eq (by simp; omega)]
    simp only [Option.bind_some]
    rw [w64_succ (by omega), fill_set0 l 0 i hi]
  · simp only [lp_laws_toIntS_9, m_laws_toIntS_9]
    rw [if_neg (by simp)]
    simp

theorem toIntSS_eq (l : List (List Int)) (hl : l.length ≤ 1048576) (hx : ∀ x ∈ l, x.length ≤ 1048576) : m_laws_toIntSS l = some l := by
  simp only [m_laws_toIntSS, m_laws_toIntSS_0]
  rw [ck_eq (by omega)]
  simp only [Option.bind_some]
  have := loopM_fun (b := lp_laws_toIntSS_9 l) (fun i (s : List (List Int)) => ((i : Int), s)) l.length (fun i => l.take i ++ List.replicate (l.length - i) []) (e := l) ?_ ?_
  · simp only [List.take_zero, List.nil_append, Nat.sub_zero] at this
    rw [show (((0 : Nat) : Int)) = 0 from rfl] at this
    simp only [Int.toNat_natCast]
    rw [this]
    rfl
  · intro i hi
    simp only [lp_laws_toIntSS_9, m_laws_toIntSS_9]
    rw [if_pos (by simp; omega), rd_eq hi]
    simp only [Option.bind_some]
    rw [toIntS_eq _ (hx _ (by simp)), Option.bind_some, rd_eq (by simp; omega)]
    simp only [Option.bind_some]
    rw [w64_succ (by omega), fill_set0 l [] i hi]
  · simp only [lp_laws_toIntSS_9, m_laws_toIntSS_9]
    rw [if_neg (by simp)]
    simp

-- ---------------------------------------------------------------- like itself
theorem eqByteS_self (l : List Int) (hl : l.length < 4611686018427387904) : m_laws_eqByteS l l = some true := by
  simp only [m_laws_eqByteS, m_laws_eqByteS_0]
  rw [if_neg (by simp)]
  have := loopM_fun (b := lp_laws_eqByteS_15 l l) (fun i (s : Unit) => (i : Int)) l.length (fun i => ()) (e := .inr ()) ?_ ?_
  · rw [show (((0 : Nat) : Int)) = 0 from rfl] at this
    rw [this]
    rfl
  · intro i hi
    simp only [lp_laws_eqByteS_15, m_laws_eqByteS_15]
    rw [if_pos (by simp; omega), rd_eq hi]
    simp only [Option.bind_some]
    rw [if_neg (by simp), w64_succ (by omega)]
  · simp only [lp_laws_eqByteS_15, m_laws_eqByteS_15]
    rw [if_neg (by simp)]
theorem eqIntS_self (l : List Int) (hl : l.length < 4611686018427387904) : m_laws_eqIntS l l = some true := by
  simp only [m_laws_eqIntS, m_laws_eqIntS_0]
  rw [if_neg (by simp)]
  have := loopM_fun (b := lp_laws_eqIntS_15 l l) (fun i (s : Unit) => (i : Int)) l.length (fun i => ()) (e := .inr ()) ?_ ?_
  · rw [show (((0 : Nat) : Int)) = 0 from rfl] at this
    rw [this]
    rfl
  · intro i hi
    simp only [lp_laws_eqIntS_15, m_laws_eqIntS_15]
    rw [if_pos (by simp; omega), rd_eq hi]
    simp only [Option.bind_some]
    rw [if_neg (by simp), w64_succ (by omega)]
  · simp only [lp_laws_eqIntS_15, m_laws_eqIntS_15]
    rw [if_neg (by simp)]
theorem eqIntSS_self (l : List (List Int)) (hl : l.length < 4611686018427387904) (hx : ∀ x ∈ l, x.length < 4611686018427387904) : m_laws_eqIntSS l l = some true := by
  simp only [m_laws_eqIntSS, m_laws_eqIntSS_0]
  rw [if_neg (by simp)]
  have := loopM_fun (b := lp_laws_eqIntSS_15 l l) (fun i (s : Unit) => (i : Int)) l.length (fun i => ()) (e := .inr ()) ?_ ?_
  · rw [show (((0 : Nat) : Int)) = 0 from rfl] at this
    rw [this]
    rfl
  · intro i hi
    simp only [lp_laws_eqIntSS_15, m_laws_eqIntSS_15]
    rw [if_pos (by simp; omega), rd_eq hi]
    simp only [Option.bind_some]
    rw [eqIntS_self _ (hx _ (by simp))]
    simp only [Option.bind_some, if_true]
    rw [w64_succ (by omega)]
  · simp only [lp_laws_eqIntSS_15, m_laws_eqIntSS_15]
    rw [if_neg (by simp)]

-- ---------------------------------------------------------------- marks
def marks (k n : Nat) : List Int := (List.range n).map fun j => ((k + j : Nat) : Int)
def bmarks (k n : Nat) : List Int := (List.range n).map fun j => wr .u8 ((k + j : Nat) : Int)

theorem markIntS_eq (l : List Int) (k : Nat) (hl : k + l.length < 4611686018427387904) : m_laws_markIntS l k = some (((k + l.length : Nat) : Int), marks k l.length) := by
  simp only [m_laws_markIntS, m_laws_markIntS_0]
  have := loopM_fun (b := lp_laws_markIntS_7) (fun i (s : Int × List Int) => (s.1, (i : Int), s.2)) l.length (fun i => (((k + i : Nat) : Int), marks k i ++ l.drop i)) (e := (((k + l.length : Nat) : Int), marks k l.length)) ?_ ?_
  · simp only [Nat.add_zero, marks, List.range_zero, List.map_nil, List.nil_append, List.drop_zero] at this
    rw [show (((0 : Nat) : Int)) = 0 from rfl] at this
    rw [this]
    rfl
  · intro i hi
    simp only [lp_laws_markIntS_7, m_laws_markIntS_7]
    have hlen : (marks k i ++ l.drop i).length = l.length := by simp [marks]; omega
    rw [hlen, if_pos (by simp; omega), rd_eq (by rw [hlen]; exact hi)]
    simp only [Option.bind_some]
    rw [w64_succ (by omega), w64_id (by omega) (by omega)]
    have h2 := mark_set (fun j => ((k + j : Nat) : Int)) l i hi
    unfold marks
    rw [h2]
    rfl
  · simp only [lp_laws_markIntS_7, m_laws_markIntS_7]
    have hlen : (marks k l.length ++ l.drop l.length).length = l.length := by simp [marks]
    rw [hlen, if_neg (by simp)]
    simp
theorem markByteS_eq (l : List Int) (k : Nat) (hl : k + l.length < 4611686018427387904) : m_laws_markByteS l k = some (((k + l.length : Nat) : Int), bmarks k l.length) := by
  simp only [m_laws_markByteS, m_laws_markByteS_0]
  have := loopM_fun (b := lp_laws_markByteS_7) (fun i (s : Int × List Int) => (s.1, (i : Int), s.2)) l.length (fun i => (((k + i : Nat) : Int), bmarks k i ++ l.drop i)) (e := (((k + l.length : Nat) : Int), bmarks k l.length)) ?_ ?_
  · simp only [Nat.add_zero, bmarks, List.range_zero, List.map_nil, List.nil_append, List.drop_zero] at this
    rw [show (((0 : Nat) : Int)) = 0 from rfl] at this
    rw [this]
    rfl
  · intro i hi
    simp only [lp_laws_markByteS_7, m_laws_markByteS_7]
    have hlen : (bmarks k i ++ l.drop i).length = l.length := by simp [bmarks]; omega
    rw [hlen, if_pos (by simp; omega), rd_eq (by rw [hlen]; exact hi)]
    simp only [Option.bind_some]
    rw [w64_succ (by omega), w64_id (by omega) (by omega)]
    have h2 := mark_set (fun j => wr .u8 ((k + j : Nat) : Int)) l i hi
    unfold bmarks
    rw [h2]
    rfl
  · simp only [lp_laws_markByteS_7, m_laws_markByteS_7]
    have hlen : (bmarks k l.length ++ l.drop l.length).length = l.length := by simp [bmarks]
    rw [hlen, if_neg (by simp)]
    simp
theorem heldByteS_eq (n k : Nat) (hl : k + n < 4611686018427387904) : m_laws_heldByteS (bmarks k n) k = some ((k + n : Nat) : Int) := by
  simp only [m_laws_heldByteS, m_laws_heldByteS_0]
  have hlen : (bmarks k n).length = n := by simp [bmarks]
  have := loopM_fun (b := lp_laws_heldByteS_7 (bmarks k n)) (fun i (s : Int) => (s, (i : Int))) n (fun i => ((k + i : Nat) : Int)) (e := .inr ((k + n : Nat) : Int)) ?_ ?_
  · simp only [Nat.add_zero] at this
    rw [show (((0 : Nat) : Int)) = 0 from rfl] at this
    rw [this]
    rfl
  · intro i hi
    simp only [lp_laws_heldByteS_7, m_laws_heldByteS_7]
    rw [hlen, if_pos (by simp; omega), rd_eq (by rw [hlen]; exact hi)]
    simp only [Option.bind_some]
    rw [if_neg (by simp [bmarks]), w64_succ (by omega), w64_id (by omega) (by omega)]
    rfl
  · simp only [lp_laws_heldByteS_7, m_laws_heldByteS_7]
    rw [hlen, if_neg (by simp)]
theorem markIntSS_some (l : List (List Int)) (k : Nat) (m : Nat) (hx : ∀ x ∈ l, x.length ≤ m) (hl : k + l.length * m < 4611686018427387904) (hn : l.length < 4611686018427387904) :
    ∃ k' l', m_laws_markIntSS l k = some (((k' : Nat) : Int), l') ∧ k' ≤ k + l.length * m ∧ l'.length = l.length := by
  simp only [m_laws_markIntSS, m_laws_markIntSS_0]
  have key := loopM_inv (b := lp_laws_markIntSS_7) (fun i (s : Nat × List (List Int)) => (((s.1 : Nat) : Int), (i : Int), s.2)) l.length (fun i s => s.1 ≤ k + i * m ∧ s.2.length = l.length ∧ ∀ x ∈ s.2.drop i, x.length ≤ m) (fun e => ∃ k' : Nat, e.1 = (k' : Int) ∧ k' ≤ k + l.length * m ∧ e.2.length = l.length) ?_ ?_ (s := (k, l)) ⟨by simp, rfl, by simpa using hx⟩
  · obtain ⟨e, he, k', h1, h2, h3⟩ := key
    rw [show (((0 : Nat) : Int)) = 0 from rfl] at he
    rw [he]
    refine ⟨k', e.2, ?_, h2, h3⟩
    simp [m_laws_markIntSS_17, h1]
  · rintro i ⟨s1, s2⟩ hi ⟨h1, h2, h3⟩
    simp only at h1 h2 h3
    left
    have hi2 : i < s2.length := by omega
    have hm : s2[i].length ≤ m := h3 _ (by rw [List.drop_eq_getElem_cons hi2]; exact List.mem_cons_self)
    have hle : i * m + m ≤ l.length * m := by
      have : (i + 1) * m ≤ l.length * m := Nat.mul_le_mul_right m (by omega)
      rw [Nat.succ_mul] at this
      exact this
    refine ⟨(s1 + s2[i].length, s2.set i (marks s1 s2[i].length)), ?_, ?_, ?_, ?_⟩
    · simp only [lp_laws_markIntSS_7, m_laws_markIntSS_7]
      rw [if_pos (by simp; omega), rd_eq hi2]
      simp only [Option.bind_some]
      rw [markIntS_eq _ _ (by omega)]
      simp only [Option.bind_some]
      rw [ck_eq (by simp [marks])]
      simp only [Option.bind_some]
      rw [w64_succ (by omega)]
      simp
    · simp only
      rw [Nat.succ_mul]
      omega
    · simp [h2]
    · intro x hx'
      simp only at hx'
      rw [List.drop_set_of_lt (by omega)] at hx'
      exact h3 x (by rw [List.drop_eq_getElem_cons hi2]; exact List.mem_cons_of_mem _ hx')
  · rintro ⟨s1, s2⟩ ⟨h1, h2, h3⟩
    simp only at h1 h2
    refine ⟨(((s1 : Nat) : Int), s2), ?_, s1, rfl, h1, h2⟩
    simp only [lp_laws_markIntSS_7, m_laws_markIntSS_7]
    rw [if_neg (by simp [h2])]
end Go.Proofs.V
