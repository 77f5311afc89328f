/- printed by a program: the plain functions, the code and the proofs of one law -/
import Derived.Test.YtfmagdeiaanmcaaFnExactWritePartsV3
import Derived.KernelRfl
set_option linter.unusedVariables false
set_option maxRecDepth 100000
namespace Go.Proofs.V
open Go
def as_laws_szBoolS (p0 : (List Bool)) (p1 : Int) : List Arg := [.v false [.sl (p0.map rB)], .v false [.lit (.int .i64 p1)]]
def res_laws_szBoolS (r : Int) : FRes := ⟨[.v false [.lit (.int .i64 r)]], []⟩
def as_laws_szIntS (p0 : (List Int)) (p1 : Int) : List Arg := [.v false [.sl (p0.map (rI .i64))], .v false [.lit (.int .i64 p1)]]
def res_laws_szIntS (r : Int) : FRes := ⟨[.v false [.lit (.int .i64 r)]], []⟩
def as_laws_szByteS (p0 : (List Int)) (p1 : Int) : List Arg := [.v false [.sl (p0.map (rI .u8))], .v false [.lit (.int .i64 p1)]]
def res_laws_szByteS (r : Int) : FRes := ⟨[.v false [.lit (.int .i64 r)]], []⟩
def as_laws_szByteSS (p0 : (List (List Int))) (p1 : Int) : List Arg := [.v false [.sl (p0.map (rL (rI .u8)))], .v false [.lit (.int .i64 p1)]]
def res_laws_szByteSS (r : Int) : FRes := ⟨[.v false [.lit (.int .i64 r)]], []⟩
def as_laws_szPiled (p0 : S_Piled) (p1 : Int) : List Arg := [.v true [.lit (.int .i64 p0.err), .lit (.int .i64 p0.width), .lit (.int .i64 p0.height), .sl (p0.keys.map rB), .sl (p0.steps.map (rI .i64)), .sl (p0.parts.map (rL (rI .u8)))], .v false [.lit (.int .i64 p1)]]
def res_laws_szPiled (r : Int) : FRes := ⟨[.v false [.lit (.int .i64 r)]], []⟩
def as_laws_toBoolS (p0 : (List Bool)) : List Arg := [.v false [.sl (p0.map rB)]]
def res_laws_toBoolS (r : (List Bool)) : FRes := ⟨[.v false [.sl (r.map rB)]], []⟩
def as_laws_toIntS (p0 : (List Int)) : List Arg := [.v false [.sl (p0.map (rI .i64))]]
def res_laws_toIntS (r : (List Int)) : FRes := ⟨[.v false [.sl (r.map (rI .i64))]], []⟩
def as_laws_toByteS (p0 : (List Int)) : List Arg := [.v false [.sl (p0.map (rI .u8))]]
def res_laws_toByteS (r : (List Int)) : FRes := ⟨[.v false [.sl (r.map (rI .u8))]], []⟩
def as_laws_toByteSS (p0 : (List (List Int))) : List Arg := [.v false [.sl (p0.map (rL (rI .u8)))]]
def res_laws_toByteSS (r : (List (List Int))) : FRes := ⟨[.v false [.sl (r.map (rL (rI .u8)))]], []⟩
def as_laws_toPiled (p0 : S_Piled) : List Arg := [.v true [.lit (.int .i64 p0.err), .lit (.int .i64 p0.width), .lit (.int .i64 p0.height), .sl (p0.keys.map rB), .sl (p0.steps.map (rI .i64)), .sl (p0.parts.map (rL (rI .u8)))]]
def res_laws_toPiled (r : S_Piled) : FRes := ⟨[.v true [.lit (.int .i64 r.err), .lit (.int .i64 r.width), .lit (.int .i64 r.height), .sl (r.keys.map rB), .sl (r.steps.map (rI .i64)), .sl (r.parts.map (rL (rI .u8)))]], []⟩
def as_spec_l14Sides (p0 : Int) (p1 : Int) : List Arg := [.v false [.lit (.int .i64 p0)], .v false [.lit (.int .i64 p1)]]
def res_spec_l14Sides (r : Bool) : FRes := ⟨[.v false [.lit (.bool r)]], []⟩
def as_spec_l14Mark (p0 : Int) (p1 : Int) : List Arg := [.v false [.lit (.int .i64 p0)], .v false [.lit (.int .i64 p1)]]
def res_spec_l14Mark (r : (List Int)) : FRes := ⟨[.v false [.sl (r.map (rI .u8))]], []⟩
def as_spec_l3Four (p0 : Int) : List Arg := [.v false [.lit (.int .u32 p0)]]
def res_spec_l3Four (r : (List Int)) : FRes := ⟨[.v false [.sl (r.map (rI .u8))]], []⟩
def as_spec_Crc (p0 : (List Int)) : List Arg := [.v false [.sl (p0.map (rI .u8))]]
def res_spec_Crc (r : Int) : FRes := ⟨[.v false [.lit (.int .u32 r)]], []⟩
def as_spec_l14Part (p0 : Int) (p1 : Bool) (p2 : (List Int)) : List Arg := [.v false [.lit (.int .i64 p0)], .v false [.lit (.bool p1)], .v false [.sl (p2.map (rI .u8))]]
def res_spec_l14Part (r : (List Int)) : FRes := ⟨[.v false [.sl (r.map (rI .u8))]], []⟩
def as_spec_WriteParts (p0 : S_Piled) : List Arg := [.v true [.lit (.int .i64 p0.err), .lit (.int .i64 p0.width), .lit (.int .i64 p0.height), .sl (p0.keys.map rB), .sl (p0.steps.map (rI .i64)), .sl (p0.parts.map (rL (rI .u8)))]]
def res_spec_WriteParts (r : (List Int)) : FRes := ⟨[.v false [.sl (r.map (rI .u8))]], []⟩
def as_impl_zrange (p0 : (List Int)) (p1 : Int) (p2 : Int) (p3 : Int) : List Arg := [.v false [.sl (p0.map (rI .i64))], .v false [.lit (.int .i64 p1)], .v false [.lit (.int .i64 p2)], .v false [.lit (.int .i64 p3)]]
def res_impl_zrange (r : Bool) : FRes := ⟨[.v false [.lit (.bool r)]], []⟩
def as_impl_zsides (p0 : Int) (p1 : Int) : List Arg := [.v false [.lit (.int .i64 p0)], .v false [.lit (.int .i64 p1)]]
def res_impl_zsides (r : Bool) : FRes := ⟨[.v false [.lit (.bool r)]], []⟩
def as_impl_zput4 (p0 : Int) : List Arg := [.v false [.lit (.int .i64 p0)]]
def res_impl_zput4 (r : (List Int)) : FRes := ⟨[.v false [.sl (r.map (rI .u8))]], []⟩
def as_impl_Crc (p0 : (List Int)) : List Arg := [.v false [.sl (p0.map (rI .u8))]]
def res_impl_Crc (r : Int) : FRes := ⟨[.v false [.lit (.int .u32 r)]], []⟩
def as_impl_zpile (p0 : S_Piled) : List Arg := [.v true [.lit (.int .i64 p0.err), .lit (.int .i64 p0.width), .lit (.int .i64 p0.height), .sl (p0.keys.map rB), .sl (p0.steps.map (rI .i64)), .sl (p0.parts.map (rL (rI .u8)))]]
def res_impl_zpile (r : (List Int)) : FRes := ⟨[.v false [.sl (r.map (rI .u8))]], []⟩
def as_impl_ReadPartsC1 (p0 : Int) : List Arg := [.v false [.lit (.int .i64 p0)]]
def res_impl_ReadPartsC1 (r : S_Piled) : FRes := ⟨[.v true [.lit (.int .i64 r.err), .lit (.int .i64 r.width), .lit (.int .i64 r.height), .sl (r.keys.map rB), .sl (r.steps.map (rI .i64)), .sl (r.parts.map (rL (rI .u8)))]], []⟩
def as_impl_zmagic (p0 : (List Int)) (p1 : ByteArray) : List Arg := [.v false [.sl (p0.map (rI .u8))], .v false [.lit (.string p1)]]
def res_impl_zmagic (r : Int) : FRes := ⟨[.v false [.lit (.int .i64 r)]], []⟩
def as_impl_zget4 (p0 : (List Int)) : List Arg := [.v false [.sl (p0.map (rI .u8))]]
def res_impl_zget4 (r : Int) : FRes := ⟨[.v false [.lit (.int .i64 r)]], []⟩
def as_impl_ReadParts (p0 : (List Int)) : List Arg := [.v false [.sl (p0.map (rI .u8))]]
def res_impl_ReadParts (r : S_Piled) : FRes := ⟨[.v true [.lit (.int .i64 r.err), .lit (.int .i64 r.width), .lit (.int .i64 r.height), .sl (r.keys.map rB), .sl (r.steps.map (rI .i64)), .sl (r.parts.map (rL (rI .u8)))]], []⟩
def as_impl_WriteParts (p0 : S_Piled) : List Arg := [.v true [.lit (.int .i64 p0.err), .lit (.int .i64 p0.width), .lit (.int .i64 p0.height), .sl (p0.keys.map rB), .sl (p0.steps.map (rI .i64)), .sl (p0.parts.map (rL (rI .u8)))]]
def res_impl_WriteParts (r : (List Int)) : FRes := ⟨[.v false [.sl (r.map (rI .u8))]], []⟩
def as_laws_eqByteS (p0 : (List Int)) (p1 : (List Int)) : List Arg := [.v false [.sl (p0.map (rI .u8))], .v false [.sl (p1.map (rI .u8))]]
def res_laws_eqByteS (r : Bool) : FRes := ⟨[.v false [.lit (.bool r)]], []⟩
def as_laws_eqBoolS (p0 : (List Bool)) (p1 : (List Bool)) : List Arg := [.v false [.sl (p0.map rB)], .v false [.sl (p1.map rB)]]
def res_laws_eqBoolS (r : Bool) : FRes := ⟨[.v false [.lit (.bool r)]], []⟩
def as_laws_eqIntS (p0 : (List Int)) (p1 : (List Int)) : List Arg := [.v false [.sl (p0.map (rI .i64))], .v false [.sl (p1.map (rI .i64))]]
def res_laws_eqIntS (r : Bool) : FRes := ⟨[.v false [.lit (.bool r)]], []⟩
def as_laws_eqByteSS (p0 : (List (List Int))) (p1 : (List (List Int))) : List Arg := [.v false [.sl (p0.map (rL (rI .u8)))], .v false [.sl (p1.map (rL (rI .u8)))]]
def res_laws_eqByteSS (r : Bool) : FRes := ⟨[.v false [.lit (.bool r)]], []⟩
def as_laws_eqPiled (p0 : S_Piled) (p1 : S_Piled) : List Arg := [.v true [.lit (.int .i64 p0.err), .lit (.int .i64 p0.width), .lit (.int .i64 p0.height), .sl (p0.keys.map rB), .sl (p0.steps.map (rI .i64)), .sl (p0.parts.map (rL (rI .u8)))], .v true [.lit (.int .i64 p1.err), .lit (.int .i64 p1.width), .lit (.int .i64 p1.height), .sl (p1.keys.map rB), .sl (p1.steps.map (rI .i64)), .sl (p1.parts.map (rL (rI .u8)))]]
def res_laws_eqPiled (r : Bool) : FRes := ⟨[.v false [.lit (.bool r)]], []⟩
def as_laws_markBoolS (p0 : (List Bool)) (p1 : Int) : List Arg := [.m (.sl (p0.map rB)), .v false [.lit (.int .i64 p1)]]
def res_laws_markBoolS (r : Int × (List Bool)) : FRes := ⟨[.v false [.lit (.int .i64 r.1)]], [.sl (r.2.map rB)]⟩
def as_laws_markIntS (p0 : (List Int)) (p1 : Int) : List Arg := [.m (.sl (p0.map (rI .i64))), .v false [.lit (.int .i64 p1)]]
def res_laws_markIntS (r : Int × (List Int)) : FRes := ⟨[.v false [.lit (.int .i64 r.1)]], [.sl (r.2.map (rI .i64))]⟩
def as_laws_markByteS (p0 : (List Int)) (p1 : Int) : List Arg := [.m (.sl (p0.map (rI .u8))), .v false [.lit (.int .i64 p1)]]
def res_laws_markByteS (r : Int × (List Int)) : FRes := ⟨[.v false [.lit (.int .i64 r.1)]], [.sl (r.2.map (rI .u8))]⟩
def as_laws_markByteSS (p0 : (List (List Int))) (p1 : Int) : List Arg := [.m (.sl (p0.map (rL (rI .u8)))), .v false [.lit (.int .i64 p1)]]
def res_laws_markByteSS (r : Int × (List (List Int))) : FRes := ⟨[.v false [.lit (.int .i64 r.1)]], [.sl (r.2.map (rL (rI .u8)))]⟩
def as_laws_markPiled (p0 : S_Piled) (p1 : Int) : List Arg := [.v true [.lit (.int .i64 p0.err), .lit (.int .i64 p0.width), .lit (.int .i64 p0.height), .sl (p0.keys.map rB), .sl (p0.steps.map (rI .i64)), .sl (p0.parts.map (rL (rI .u8)))], .v false [.lit (.int .i64 p1)]]
def res_laws_markPiled (r : Int × S_Piled) : FRes := ⟨[.v false [.lit (.int .i64 r.1)]], [.sl (r.2.keys.map rB), .sl (r.2.steps.map (rI .i64)), .sl (r.2.parts.map (rL (rI .u8)))]⟩
def as_laws_heldByteS (p0 : (List Int)) (p1 : Int) : List Arg := [.v false [.sl (p0.map (rI .u8))], .v false [.lit (.int .i64 p1)]]
def res_laws_heldByteS (r : Int) : FRes := ⟨[.v false [.lit (.int .i64 r)]], []⟩
def as_laws_FnExactWriteParts (p0 : S_Piled) : List Arg := [.v true [.lit (.int .i64 p0.err), .lit (.int .i64 p0.width), .lit (.int .i64 p0.height), .sl (p0.keys.map rB), .sl (p0.steps.map (rI .i64)), .sl (p0.parts.map (rL (rI .u8)))]]
def res_laws_FnExactWriteParts (r : Bool) : FRes := ⟨[.v false [.lit (.bool r)]], []⟩
def K_laws_szBoolS_0 : List Fr := []
def s_laws_szBoolS_0 (p0 : (List Bool)) (p1 : Int) : St :=
  ⟨mkSl 12 [(0, .v false [.ro [.sc] (p0.map rB)]), (1, .v false [.lit (.int .i64 p1)])], [], []⟩
def K_laws_szIntS_0 : List Fr := []
def s_laws_szIntS_0 (p0 : (List Int)) (p1 : Int) : St :=
  ⟨mkSl 12 [(0, .v false [.ro [.sc] (p0.map (rI .i64))]), (1, .v false [.lit (.int .i64 p1)])], [], []⟩
def K_laws_szByteS_0 : List Fr := []
def s_laws_szByteS_0 (p0 : (List Int)) (p1 : Int) : St :=
  ⟨mkSl 12 [(0, .v false [.ro [.sc] (p0.map (rI .u8))]), (1, .v false [.lit (.int .i64 p1)])], [], []⟩
def K_laws_szByteSS_35 : List Fr := []
def s_laws_szByteSS_35 (i35_0 : Int) : St :=
  ⟨mkSl 27 [(1, .v false [.lit (.int .i64 i35_0)])], [], []⟩
def K_laws_szByteSS_17 : List Fr := [.lp [0, 1, 5] c_laws_szByteSS_17, .bk 0, .sq (.kp [1] c_laws_szByteSS_35)]
def s_laws_szByteSS_17 (p0 : (List (List Int))) (i17_0 : Int) (i17_1 : Int) : St :=
  ⟨mkSl 27 [(0, .v false [.ro [.ro [.sc]] (p0.map (rL (rI .u8)))]), (1, .v false [.lit (.int .i64 i17_0)]), (5, .v false [.lit (.int .i64 i17_1)])], [], []⟩
def K_laws_szByteSS_0 : List Fr := []
def s_laws_szByteSS_0 (p0 : (List (List Int))) (p1 : Int) : St :=
  ⟨mkSl 27 [(0, .v false [.ro [.ro [.sc]] (p0.map (rL (rI .u8)))]), (1, .v false [.lit (.int .i64 p1)])], [], []⟩
def K_laws_szPiled_0 : List Fr := []
def s_laws_szPiled_0 (p0 : S_Piled) (p1 : Int) : St :=
  ⟨mkSl 24 [(0, .v true [.lit (.int .i64 p0.err), .lit (.int .i64 p0.width), .lit (.int .i64 p0.height), .ro [.sc] (p0.keys.map rB), .ro [.sc] (p0.steps.map (rI .i64)), .ro [.ro [.sc]] (p0.parts.map (rL (rI .u8)))]), (1, .v false [.lit (.int .i64 p1)])], [], []⟩
def K_laws_toBoolS_19 : List Fr := []
def s_laws_toBoolS_19 (l19_0 : (List Bool)) : St :=
  ⟨mkSl 22 [(3, .v false [.ref 0 [] 0 l19_0.length])], [some ⟨[.sc], (List.map rB l19_0)⟩], []⟩
def K_laws_toBoolS_9 : List Fr := [.lp [0, 3, 4] c_laws_toBoolS_9, .bk 0, .sq (.kp [3] c_laws_toBoolS_19)]
def s_laws_toBoolS_9 (p0 : (List Bool)) (i9_0 : Int) (l9_1 : (List Bool)) : St :=
  ⟨mkSl 22 [(0, .v false [.ro [.sc] (p0.map rB)]), (3, .v false [.ref 0 [] 0 l9_1.length]), (4, .v false [.lit (.int .i64 i9_0)])], [some ⟨[.sc], (List.map rB l9_1)⟩], []⟩
def K_laws_toBoolS_0 : List Fr := []
def s_laws_toBoolS_0 (p0 : (List Bool)) : St :=
  ⟨mkSl 22 [(0, .v false [.ro [.sc] (p0.map rB)])], [], []⟩
def K_laws_toIntS_19 : List Fr := []
def s_laws_toIntS_19 (l19_0 : (List Int)) : St :=
  ⟨mkSl 22 [(3, .v false [.ref 0 [] 0 l19_0.length])], [some ⟨[.sc], (List.map (rI .i64) l19_0)⟩], []⟩
def K_laws_toIntS_9 : List Fr := [.lp [0, 3, 4] c_laws_toIntS_9, .bk 0, .sq (.kp [3] c_laws_toIntS_19)]
def s_laws_toIntS_9 (p0 : (List Int)) (i9_0 : Int) (l9_1 : (List Int)) : St :=
  ⟨mkSl 22 [(0, .v false [.ro [.sc] (p0.map (rI .i64))]), (3, .v false [.ref 0 [] 0 l9_1.length]), (4, .v false [.lit (.int .i64 i9_0)])], [some ⟨[.sc], (List.map (rI .i64) l9_1)⟩], []⟩
def K_laws_toIntS_0 : List Fr := []
def s_laws_toIntS_0 (p0 : (List Int)) : St :=
  ⟨mkSl 22 [(0, .v false [.ro [.sc] (p0.map (rI .i64))])], [], []⟩
def K_laws_toByteS_19 : List Fr := []
def s_laws_toByteS_19 (l19_0 : (List Int)) : St :=
  ⟨mkSl 22 [(3, .v false [.ref 0 [] 0 l19_0.length])], [some ⟨[.sc], (List.map (rI .u8) l19_0)⟩], []⟩
def K_laws_toByteS_9 : List Fr := [.lp [0, 3, 4] c_laws_toByteS_9, .bk 0, .sq (.kp [3] c_laws_toByteS_19)]
def s_laws_toByteS_9 (p0 : (List Int)) (i9_0 : Int) (l9_1 : (List Int)) : St :=
  ⟨mkSl 22 [(0, .v false [.ro [.sc] (p0.map (rI .u8))]), (3, .v false [.ref 0 [] 0 l9_1.length]), (4, .v false [.lit (.int .i64 i9_0)])], [some ⟨[.sc], (List.map (rI .u8) l9_1)⟩], []⟩
def K_laws_toByteS_0 : List Fr := []
def s_laws_toByteS_0 (p0 : (List Int)) : St :=
  ⟨mkSl 22 [(0, .v false [.ro [.sc] (p0.map (rI .u8))])], [], []⟩
def K_laws_toByteSS_19 : List Fr := []
def s_laws_toByteSS_19 (l19_0 : (List (List Int))) : St :=
  ⟨mkSl 23 [(3, .v false [.ref 0 [] 0 l19_0.length])], [some ⟨[.own [.sc]], (List.map (rL (rI .u8)) l19_0)⟩], []⟩
def K_laws_toByteSS_9 : List Fr := [.lp [0, 3, 4] c_laws_toByteSS_9, .bk 0, .sq (.kp [3] c_laws_toByteSS_19)]
def s_laws_toByteSS_9 (p0 : (List (List Int))) (i9_0 : Int) (l9_1 : (List (List Int))) : St :=
  ⟨mkSl 23 [(0, .v false [.ro [.ro [.sc]] (p0.map (rL (rI .u8)))]), (3, .v false [.ref 0 [] 0 l9_1.length]), (4, .v false [.lit (.int .i64 i9_0)])], [some ⟨[.own [.sc]], (List.map (rL (rI .u8)) l9_1)⟩], []⟩
def K_laws_toByteSS_0 : List Fr := []
def s_laws_toByteSS_0 (p0 : (List (List Int))) : St :=
  ⟨mkSl 23 [(0, .v false [.ro [.ro [.sc]] (p0.map (rL (rI .u8)))])], [], []⟩
def K_laws_toPiled_0 : List Fr := []
def s_laws_toPiled_0 (p0 : S_Piled) : St :=
  ⟨mkSl 26 [(0, .v true [.lit (.int .i64 p0.err), .lit (.int .i64 p0.width), .lit (.int .i64 p0.height), .ro [.sc] (p0.keys.map rB), .ro [.sc] (p0.steps.map (rI .i64)), .ro [.ro [.sc]] (p0.parts.map (rL (rI .u8)))])], [], []⟩
def K_spec_l14Sides_0 : List Fr := []
def s_spec_l14Sides_0 (p0 : Int) (p1 : Int) : St :=
  ⟨mkSl 29 [(0, .v false [.lit (.int .i64 p0)]), (1, .v false [.lit (.int .i64 p1)])], [], []⟩
def K_spec_l14Mark_0 : List Fr := []
def s_spec_l14Mark_0 (p0 : Int) (p1 : Int) : St :=
  ⟨mkSl 12 [(0, .v false [.lit (.int .i64 p0)]), (1, .v false [.lit (.int .i64 p1)])], [], []⟩
def K_spec_l3Four_0 : List Fr := []
def s_spec_l3Four_0 (p0 : Int) : St :=
  ⟨mkSl 15 [(0, .v false [.lit (.int .u32 p0)])], [], []⟩
def K_spec_Crc_43 : List Fr := [.lp [3, 8, 9, 10] c_spec_Crc_9, .bk 0, .sq (.kp [3] c_spec_Crc_44)]
def s_spec_Crc_43 (p0 : (List Int)) (i9_1 : Int) (i43_0 : Int) : St :=
  ⟨mkSl 33 [(3, .v false [.lit (.int .u32 i43_0)]), (8, .v false [.ro [.sc] (p0.map (rI .u8))]), (9, .v false [.lit (.int .i64 (p0.length : Int))]), (10, .v false [.lit (.int .i64 i9_1)])], [], []⟩
def K_spec_Crc_25 : List Fr := [.lp [3, 6, 8, 9, 10] c_spec_Crc_25, .bk 2, .bk 1, .sq (.kp [3, 8, 9, 10] c_spec_Crc_43), .lp [3, 8, 9, 10] c_spec_Crc_9, .bk 0, .sq (.kp [3] c_spec_Crc_44)]
def s_spec_Crc_25 (p0 : (List Int)) (i9_1 : Int) (i25_0 : Int) (i25_1 : Int) : St :=
  ⟨mkSl 33 [(3, .v false [.lit (.int .u32 i25_0)]), (6, .v false [.lit (.int .i64 i25_1)]), (8, .v false [.ro [.sc] (p0.map (rI .u8))]), (9, .v false [.lit (.int .i64 (p0.length : Int))]), (10, .v false [.lit (.int .i64 i9_1)])], [], []⟩
def K_spec_Crc_44 : List Fr := []
def s_spec_Crc_44 (i44_0 : Int) : St :=
  ⟨mkSl 33 [(3, .v false [.lit (.int .u32 i44_0)])], [], []⟩
def K_spec_Crc_9 : List Fr := [.lp [3, 8, 9, 10] c_spec_Crc_9, .bk 0, .sq (.kp [3] c_spec_Crc_44)]
def s_spec_Crc_9 (p0 : (List Int)) (i9_0 : Int) (i9_1 : Int) : St :=
  ⟨mkSl 33 [(3, .v false [.lit (.int .u32 i9_0)]), (8, .v false [.ro [.sc] (p0.map (rI .u8))]), (9, .v false [.lit (.int .i64 (p0.length : Int))]), (10, .v false [.lit (.int .i64 i9_1)])], [], []⟩
def K_spec_Crc_0 : List Fr := []
def s_spec_Crc_0 (p0 : (List Int)) : St :=
  ⟨mkSl 33 [(0, .v false [.ro [.sc] (p0.map (rI .u8))])], [], []⟩
def K_spec_l14Part_10 : List Fr := []
def s_spec_l14Part_10 (p2 : (List Int)) (i10_0 : Int) : St :=
  ⟨mkSl 30 [(2, .v false [.ro [.sc] (p2.map (rI .u8))]), (7, .v false [.lit (.int .u8 i10_0)])], [], []⟩
def K_spec_l14Part_0 : List Fr := []
def s_spec_l14Part_0 (p0 : Int) (p1 : Bool) (p2 : (List Int)) : St :=
  ⟨mkSl 30 [(0, .v false [.lit (.int .i64 p0)]), (1, .v false [.lit (.bool p1)]), (2, .v false [.ro [.sc] (p2.map (rI .u8))])], [], []⟩
def K_spec_WriteParts_45 : List Fr := []
def s_spec_WriteParts_45 (l45_0 : (List Int)) : St :=
  ⟨mkSl 121 [(3, .v false [.ref 0 [] 0 l45_0.length])], [some ⟨[.sc], (List.map (rI .u8) l45_0)⟩], []⟩
def K_spec_WriteParts_25 : List Fr := [.lp [1, 3, 70, 71] c_spec_WriteParts_25, .bk 0, .sq (.kp [3] c_spec_WriteParts_45)]
def s_spec_WriteParts_25 (p0 : S_Piled) (i25_0 : Int) (l25_1 : (List Int)) : St :=
  ⟨mkSl 121 [(1, .v false [.vptr 0 0]), (3, .v false [.ref 0 [] 0 l25_1.length]), (70, .v false [.lit (.int .i64 (p0.parts.length : Int))]), (71, .v false [.lit (.int .i64 i25_0)])], [some ⟨[.sc], (List.map (rI .u8) l25_1)⟩], [some [.lit (.int .i64 p0.err), .lit (.int .i64 p0.width), .lit (.int .i64 p0.height), .ro [.sc] (p0.keys.map rB), .ro [.sc] (p0.steps.map (rI .i64)), .ro [.ro [.sc]] (p0.parts.map (rL (rI .u8)))]]⟩
def K_spec_WriteParts_0 : List Fr := []
def s_spec_WriteParts_0 (p0 : S_Piled) : St :=
  ⟨mkSl 121 [(0, .v true [.lit (.int .i64 p0.err), .lit (.int .i64 p0.width), .lit (.int .i64 p0.height), .ro [.sc] (p0.keys.map rB), .ro [.sc] (p0.steps.map (rI .i64)), .ro [.ro [.sc]] (p0.parts.map (rL (rI .u8)))])], [], []⟩
def K_impl_zrange_33 : List Fr := []
def s_impl_zrange_33 : St :=
  ⟨mkSl 30 [], [], []⟩
def K_impl_zrange_15 : List Fr := [.lp [1, 2, 15, 16, 17] c_impl_zrange_15, .bk 0, .sq (.kp [] c_impl_zrange_33)]
def s_impl_zrange_15 (p1 : Int) (p2 : Int) (p0 : (List Int)) (i15_0 : Int) : St :=
  ⟨mkSl 30 [(1, .v false [.lit (.int .i64 p1)]), (2, .v false [.lit (.int .i64 p2)]), (15, .v false [.ro [.sc] (p0.map (rI .i64))]), (16, .v false [.lit (.int .i64 (p0.length : Int))]), (17, .v false [.lit (.int .i64 i15_0)])], [], []⟩
def K_impl_zrange_0 : List Fr := []
def s_impl_zrange_0 (p0 : (List Int)) (p1 : Int) (p2 : Int) (p3 : Int) : St :=
  ⟨mkSl 30 [(0, .v false [.ro [.sc] (p0.map (rI .i64))]), (1, .v false [.lit (.int .i64 p1)]), (2, .v false [.lit (.int .i64 p2)]), (3, .v false [.lit (.int .i64 p3)])], [], []⟩
def K_impl_zsides_0 : List Fr := []
def s_impl_zsides_0 (p0 : Int) (p1 : Int) : St :=
  ⟨mkSl 29 [(0, .v false [.lit (.int .i64 p0)]), (1, .v false [.lit (.int .i64 p1)])], [], []⟩
def K_impl_zput4_0 : List Fr := []
def s_impl_zput4_0 (p0 : Int) : St :=
  ⟨mkSl 15 [(0, .v false [.lit (.int .i64 p0)])], [], []⟩
def K_impl_Crc_35 : List Fr := [.lp [3, 6, 7, 8] c_impl_Crc_9, .bk 0, .sq (.kp [3] c_impl_Crc_36)]
def s_impl_Crc_35 (p0 : (List Int)) (i9_1 : Int) (i35_0 : Int) : St :=
  ⟨mkSl 28 [(3, .v false [.lit (.int .u32 i35_0)]), (6, .v false [.ro [.sc] (p0.map (rI .u8))]), (7, .v false [.lit (.int .i64 (p0.length : Int))]), (8, .v false [.lit (.int .i64 i9_1)])], [], []⟩
def K_impl_Crc_25 : List Fr := [.lp [3, 6, 7, 8, 16] c_impl_Crc_25, .bk 2, .bk 1, .sq (.kp [3, 6, 7, 8] c_impl_Crc_35), .lp [3, 6, 7, 8] c_impl_Crc_9, .bk 0, .sq (.kp [3] c_impl_Crc_36)]
def s_impl_Crc_25 (p0 : (List Int)) (i9_1 : Int) (i25_0 : Int) (i25_1 : Int) : St :=
  ⟨mkSl 28 [(3, .v false [.lit (.int .u32 i25_0)]), (6, .v false [.ro [.sc] (p0.map (rI .u8))]), (7, .v false [.lit (.int .i64 (p0.length : Int))]), (8, .v false [.lit (.int .i64 i9_1)]), (16, .v false [.lit (.int .i64 i25_1)])], [], []⟩
def K_impl_Crc_36 : List Fr := []
def s_impl_Crc_36 (i36_0 : Int) : St :=
  ⟨mkSl 28 [(3, .v false [.lit (.int .u32 i36_0)])], [], []⟩
def K_impl_Crc_9 : List Fr := [.lp [3, 6, 7, 8] c_impl_Crc_9, .bk 0, .sq (.kp [3] c_impl_Crc_36)]
def s_impl_Crc_9 (p0 : (List Int)) (i9_0 : Int) (i9_1 : Int) : St :=
  ⟨mkSl 28 [(3, .v false [.lit (.int .u32 i9_0)]), (6, .v false [.ro [.sc] (p0.map (rI .u8))]), (7, .v false [.lit (.int .i64 (p0.length : Int))]), (8, .v false [.lit (.int .i64 i9_1)])], [], []⟩
def K_impl_Crc_0 : List Fr := []
def s_impl_Crc_0 (p0 : (List Int)) : St :=
  ⟨mkSl 28 [(0, .v false [.ro [.sc] (p0.map (rI .u8))])], [], []⟩
def K_impl_zpile_27 : List Fr := [.bk 1, .sq c_impl_zpile_32, .lp [1, 3, 18, 19, 20] c_impl_zpile_9, .bk 0, .sq (.kp [3] c_impl_zpile_33)]
def s_impl_zpile_27 (x9_1 : (List Int)) (p0 : S_Piled) (i9_0 : Int) (l9_1 : (List Int)) (i27_0 : Int) : St :=
  ⟨mkSl 57 [(1, .v false [.vptr 0 0]), (3, .v false [.ref 0 [] 0 l9_1.length]), (5, .v false [.ro [.sc] (x9_1.map (rI .u8))]), (6, .v false [.lit (.int .i64 i27_0)]), (18, .v false [.ro [.ro [.sc]] (p0.parts.map (rL (rI .u8)))]), (19, .v false [.lit (.int .i64 (p0.parts.length : Int))]), (20, .v false [.lit (.int .i64 i9_0)])], [some ⟨[.sc], (List.map (rI .u8) l9_1)⟩], [some [.lit (.int .i64 p0.err), .lit (.int .i64 p0.width), .lit (.int .i64 p0.height), .ro [.sc] (p0.keys.map rB), .ro [.sc] (p0.steps.map (rI .i64)), .ro [.ro [.sc]] (p0.parts.map (rL (rI .u8)))]]⟩
def K_impl_zpile_33 : List Fr := []
def s_impl_zpile_33 (l33_0 : (List Int)) : St :=
  ⟨mkSl 57 [(3, .v false [.ref 0 [] 0 l33_0.length])], [some ⟨[.sc], (List.map (rI .u8) l33_0)⟩], []⟩
def K_impl_zpile_9 : List Fr := [.lp [1, 3, 18, 19, 20] c_impl_zpile_9, .bk 0, .sq (.kp [3] c_impl_zpile_33)]
def s_impl_zpile_9 (p0 : S_Piled) (i9_0 : Int) (l9_1 : (List Int)) : St :=
  ⟨mkSl 57 [(1, .v false [.vptr 0 0]), (3, .v false [.ref 0 [] 0 l9_1.length]), (18, .v false [.ro [.ro [.sc]] (p0.parts.map (rL (rI .u8)))]), (19, .v false [.lit (.int .i64 (p0.parts.length : Int))]), (20, .v false [.lit (.int .i64 i9_0)])], [some ⟨[.sc], (List.map (rI .u8) l9_1)⟩], [some [.lit (.int .i64 p0.err), .lit (.int .i64 p0.width), .lit (.int .i64 p0.height), .ro [.sc] (p0.keys.map rB), .ro [.sc] (p0.steps.map (rI .i64)), .ro [.ro [.sc]] (p0.parts.map (rL (rI .u8)))]]⟩
def K_impl_zpile_0 : List Fr := []
def s_impl_zpile_0 (p0 : S_Piled) : St :=
  ⟨mkSl 57 [(0, .v true [.lit (.int .i64 p0.err), .lit (.int .i64 p0.width), .lit (.int .i64 p0.height), .ro [.sc] (p0.keys.map rB), .ro [.sc] (p0.steps.map (rI .i64)), .ro [.ro [.sc]] (p0.parts.map (rL (rI .u8)))])], [], []⟩
def K_impl_ReadPartsC1_0 : List Fr := []
def s_impl_ReadPartsC1_0 (p0 : Int) : St :=
  ⟨mkSl 5 [(0, .v false [.lit (.int .i64 p0)])], [], []⟩
def K_impl_zmagic_33 : List Fr := []
def s_impl_zmagic_33 : St :=
  ⟨mkSl 24 [], [], []⟩
def K_impl_zmagic_7 : List Fr := [.lp [0, 1, 7, 8] c_impl_zmagic_7, .bk 0, .sq (.kp [] c_impl_zmagic_33)]
def s_impl_zmagic_7 (p0 : (List Int)) (p1 : ByteArray) (i7_0 : Int) : St :=
  ⟨mkSl 24 [(0, .v false [.ro [.sc] (p0.map (rI .u8))]), (1, .v false [.lit (.string p1)]), (7, .v false [.lit (.int .i64 (p1.size : Int))]), (8, .v false [.lit (.int .i64 i7_0)])], [], []⟩
def K_impl_zmagic_0 : List Fr := []
def s_impl_zmagic_0 (p0 : (List Int)) (p1 : ByteArray) : St :=
  ⟨mkSl 24 [(0, .v false [.ro [.sc] (p0.map (rI .u8))]), (1, .v false [.lit (.string p1)])], [], []⟩
def K_impl_zget4_0 : List Fr := []
def s_impl_zget4_0 (p0 : (List Int)) : St :=
  ⟨mkSl 25 [(0, .v false [.ro [.sc] (p0.map (rI .u8))])], [], []⟩
def K_impl_ReadParts_83 : List Fr := [.bk 3, .sq c_impl_ReadParts_88, .bk 2, .lp [2, 3, 4, 5] c_impl_ReadParts_40, .bk 1, .sq (.kp [2, 3, 4] c_impl_ReadParts_95)]
def s_impl_ReadParts_83 (l40_0 : (List Int)) (i77_0 : Int) (i77_1 : Int) (b77_2 : Bool) (i40_1 : Int) (i40_2 : Int) (l40_3 : (List Bool)) (l40_4 : (List Int)) (l40_5 : (List (List Int))) (b83_0 : Bool) : St :=
  ⟨mkSl 162 [(2, .v false [.vptr 0 0]), (3, .v false [.clo 178 []]), (4, .v false [.vptr 1 0]), (5, .v false [.ro [.sc] (l40_0.map (rI .u8))]), (6, .v false [.lit (.int .i64 i77_0)]), (7, .v false [.lit (.int .i64 i77_1)]), (8, .v false [.lit (.bool b77_2)]), (109, .v false [.lit (.bool b83_0)])], [some ⟨[.sc], (List.map rB ([] : List Bool))⟩, some ⟨[.sc], (List.map (rI .i64) ([] : List Int))⟩, some ⟨[.own [.sc]], (List.map (rL (rI .u8)) ([] : List (List Int)))⟩, some ⟨[.sc], (List.map rB l40_3)⟩, some ⟨[.sc], (List.map (rI .i64) l40_4)⟩, some ⟨[.own [.sc]], (List.map (rL (rI .u8)) l40_5)⟩], [some [.lit (.int .i64 0), .lit (.int .i64 0), .lit (.int .i64 0), .ref 0 [] 0 (([] : List Bool).length), .ref 1 [] 0 (([] : List Int).length), .ref 2 [] 0 (([] : List (List Int)).length)], some [.lit (.int .i64 0), .lit (.int .i64 i40_1), .lit (.int .i64 i40_2), .ref 3 [] 0 l40_3.length, .ref 4 [] 0 l40_4.length, .ref 5 [] 0 l40_5.length]]⟩
def K_impl_ReadParts_77 : List Fr := [.bk 3, .sq c_impl_ReadParts_88, .bk 2, .lp [2, 3, 4, 5] c_impl_ReadParts_40, .bk 1, .sq (.kp [2, 3, 4] c_impl_ReadParts_95)]
def s_impl_ReadParts_77 (l40_0 : (List Int)) (i40_1 : Int) (i40_2 : Int) (l40_3 : (List Bool)) (l40_4 : (List Int)) (l40_5 : (List (List Int))) (i77_0 : Int) (i77_1 : Int) (b77_2 : Bool) (b77_3 : Bool) : St :=
  ⟨mkSl 162 [(2, .v false [.vptr 0 0]), (3, .v false [.clo 178 []]), (4, .v false [.vptr 1 0]), (5, .v false [.ro [.sc] (l40_0.map (rI .u8))]), (6, .v false [.lit (.int .i64 i77_0)]), (7, .v false [.lit (.int .i64 i77_1)]), (8, .v false [.lit (.bool b77_2)]), (98, .v false [.lit (.bool b77_3)])], [some ⟨[.sc], (List.map rB ([] : List Bool))⟩, some ⟨[.sc], (List.map (rI .i64) ([] : List Int))⟩, some ⟨[.own [.sc]], (List.map (rL (rI .u8)) ([] : List (List Int)))⟩, some ⟨[.sc], (List.map rB l40_3)⟩, some ⟨[.sc], (List.map (rI .i64) l40_4)⟩, some ⟨[.own [.sc]], (List.map (rL (rI .u8)) l40_5)⟩], [some [.lit (.int .i64 0), .lit (.int .i64 0), .lit (.int .i64 0), .ref 0 [] 0 (([] : List Bool).length), .ref 1 [] 0 (([] : List Int).length), .ref 2 [] 0 (([] : List (List Int)).length)], some [.lit (.int .i64 0), .lit (.int .i64 i40_1), .lit (.int .i64 i40_2), .ref 3 [] 0 l40_3.length, .ref 4 [] 0 l40_4.length, .ref 5 [] 0 l40_5.length]]⟩
def K_impl_ReadParts_50 : List Fr := [.sq c_impl_ReadParts_55, .bk 2, .lp [2, 3, 4, 5] c_impl_ReadParts_40, .bk 1, .sq (.kp [2, 3, 4] c_impl_ReadParts_95)]
def s_impl_ReadParts_50 (l40_0 : (List Int)) (i40_1 : Int) (i40_2 : Int) (l40_3 : (List Bool)) (l40_4 : (List Int)) (l40_5 : (List (List Int))) (b50_0 : Bool) : St :=
  ⟨mkSl 162 [(2, .v false [.vptr 0 0]), (3, .v false [.clo 178 []]), (4, .v false [.vptr 1 0]), (5, .v false [.ro [.sc] (l40_0.map (rI .u8))]), (64, .v false [.lit (.bool b50_0)])], [some ⟨[.sc], (List.map rB ([] : List Bool))⟩, some ⟨[.sc], (List.map (rI .i64) ([] : List Int))⟩, some ⟨[.own [.sc]], (List.map (rL (rI .u8)) ([] : List (List Int)))⟩, some ⟨[.sc], (List.map rB l40_3)⟩, some ⟨[.sc], (List.map (rI .i64) l40_4)⟩, some ⟨[.own [.sc]], (List.map (rL (rI .u8)) l40_5)⟩], [some [.lit (.int .i64 0), .lit (.int .i64 0), .lit (.int .i64 0), .ref 0 [] 0 (([] : List Bool).length), .ref 1 [] 0 (([] : List Int).length), .ref 2 [] 0 (([] : List (List Int)).length)], some [.lit (.int .i64 0), .lit (.int .i64 i40_1), .lit (.int .i64 i40_2), .ref 3 [] 0 l40_3.length, .ref 4 [] 0 l40_4.length, .ref 5 [] 0 l40_5.length]]⟩
def K_impl_ReadParts_95 : List Fr := []
def s_impl_ReadParts_95 (i95_0 : Int) (i95_1 : Int) (l95_2 : (List Bool)) (l95_3 : (List Int)) (l95_4 : (List (List Int))) : St :=
  ⟨mkSl 162 [(2, .v false [.vptr 0 0]), (3, .v false [.clo 178 []]), (4, .v false [.vptr 1 0])], [some ⟨[.sc], (List.map rB ([] : List Bool))⟩, some ⟨[.sc], (List.map (rI .i64) ([] : List Int))⟩, some ⟨[.own [.sc]], (List.map (rL (rI .u8)) ([] : List (List Int)))⟩, some ⟨[.sc], (List.map rB l95_2)⟩, some ⟨[.sc], (List.map (rI .i64) l95_3)⟩, some ⟨[.own [.sc]], (List.map (rL (rI .u8)) l95_4)⟩], [some [.lit (.int .i64 0), .lit (.int .i64 0), .lit (.int .i64 0), .ref 0 [] 0 (([] : List Bool).length), .ref 1 [] 0 (([] : List Int).length), .ref 2 [] 0 (([] : List (List Int)).length)], some [.lit (.int .i64 0), .lit (.int .i64 i95_0), .lit (.int .i64 i95_1), .ref 3 [] 0 l95_2.length, .ref 4 [] 0 l95_3.length, .ref 5 [] 0 l95_4.length]]⟩
def K_impl_ReadParts_40 : List Fr := [.lp [2, 3, 4, 5] c_impl_ReadParts_40, .bk 1, .sq (.kp [2, 3, 4] c_impl_ReadParts_95)]
def s_impl_ReadParts_40 (l40_0 : (List Int)) (i40_1 : Int) (i40_2 : Int) (l40_3 : (List Bool)) (l40_4 : (List Int)) (l40_5 : (List (List Int))) : St :=
  ⟨mkSl 162 [(2, .v false [.vptr 0 0]), (3, .v false [.clo 178 []]), (4, .v false [.vptr 1 0]), (5, .v false [.ro [.sc] (l40_0.map (rI .u8))])], [some ⟨[.sc], (List.map rB ([] : List Bool))⟩, some ⟨[.sc], (List.map (rI .i64) ([] : List Int))⟩, some ⟨[.own [.sc]], (List.map (rL (rI .u8)) ([] : List (List Int)))⟩, some ⟨[.sc], (List.map rB l40_3)⟩, some ⟨[.sc], (List.map (rI .i64) l40_4)⟩, some ⟨[.own [.sc]], (List.map (rL (rI .u8)) l40_5)⟩], [some [.lit (.int .i64 0), .lit (.int .i64 0), .lit (.int .i64 0), .ref 0 [] 0 (([] : List Bool).length), .ref 1 [] 0 (([] : List Int).length), .ref 2 [] 0 (([] : List (List Int)).length)], some [.lit (.int .i64 0), .lit (.int .i64 i40_1), .lit (.int .i64 i40_2), .ref 3 [] 0 l40_3.length, .ref 4 [] 0 l40_4.length, .ref 5 [] 0 l40_5.length]]⟩
def K_impl_ReadParts_0 : List Fr := []
def s_impl_ReadParts_0 (p0 : (List Int)) : St :=
  ⟨mkSl 162 [(0, .v false [.ro [.sc] (p0.map (rI .u8))])], [], []⟩
def K_impl_WriteParts_0 : List Fr := []
def s_impl_WriteParts_0 (p0 : S_Piled) : St :=
  ⟨mkSl 56 [(0, .v true [.lit (.int .i64 p0.err), .lit (.int .i64 p0.width), .lit (.int .i64 p0.height), .ro [.sc] (p0.keys.map rB), .ro [.sc] (p0.steps.map (rI .i64)), .ro [.ro [.sc]] (p0.parts.map (rL (rI .u8)))])], [], []⟩
def K_laws_eqByteS_31 : List Fr := []
def s_laws_eqByteS_31 : St :=
  ⟨mkSl 26 [], [], []⟩
def K_laws_eqByteS_15 : List Fr := [.lp [0, 1, 5] c_laws_eqByteS_15, .bk 0, .sq (.kp [] c_laws_eqByteS_31)]
def s_laws_eqByteS_15 (p0 : (List Int)) (p1 : (List Int)) (i15_0 : Int) : St :=
  ⟨mkSl 26 [(0, .v false [.ro [.sc] (p0.map (rI .u8))]), (1, .v false [.ro [.sc] (p1.map (rI .u8))]), (5, .v false [.lit (.int .i64 i15_0)])], [], []⟩
def K_laws_eqByteS_0 : List Fr := []
def s_laws_eqByteS_0 (p0 : (List Int)) (p1 : (List Int)) : St :=
  ⟨mkSl 26 [(0, .v false [.ro [.sc] (p0.map (rI .u8))]), (1, .v false [.ro [.sc] (p1.map (rI .u8))])], [], []⟩
def K_laws_eqBoolS_31 : List Fr := []
def s_laws_eqBoolS_31 : St :=
  ⟨mkSl 26 [], [], []⟩
def K_laws_eqBoolS_15 : List Fr := [.lp [0, 1, 5] c_laws_eqBoolS_15, .bk 0, .sq (.kp [] c_laws_eqBoolS_31)]
def s_laws_eqBoolS_15 (p0 : (List Bool)) (p1 : (List Bool)) (i15_0 : Int) : St :=
  ⟨mkSl 26 [(0, .v false [.ro [.sc] (p0.map rB)]), (1, .v false [.ro [.sc] (p1.map rB)]), (5, .v false [.lit (.int .i64 i15_0)])], [], []⟩
def K_laws_eqBoolS_0 : List Fr := []
def s_laws_eqBoolS_0 (p0 : (List Bool)) (p1 : (List Bool)) : St :=
  ⟨mkSl 26 [(0, .v false [.ro [.sc] (p0.map rB)]), (1, .v false [.ro [.sc] (p1.map rB)])], [], []⟩
def K_laws_eqIntS_31 : List Fr := []
def s_laws_eqIntS_31 : St :=
  ⟨mkSl 26 [], [], []⟩
def K_laws_eqIntS_15 : List Fr := [.lp [0, 1, 5] c_laws_eqIntS_15, .bk 0, .sq (.kp [] c_laws_eqIntS_31)]
def s_laws_eqIntS_15 (p0 : (List Int)) (p1 : (List Int)) (i15_0 : Int) : St :=
  ⟨mkSl 26 [(0, .v false [.ro [.sc] (p0.map (rI .i64))]), (1, .v false [.ro [.sc] (p1.map (rI .i64))]), (5, .v false [.lit (.int .i64 i15_0)])], [], []⟩
def K_laws_eqIntS_0 : List Fr := []
def s_laws_eqIntS_0 (p0 : (List Int)) (p1 : (List Int)) : St :=
  ⟨mkSl 26 [(0, .v false [.ro [.sc] (p0.map (rI .i64))]), (1, .v false [.ro [.sc] (p1.map (rI .i64))])], [], []⟩
def K_laws_eqByteSS_31 : List Fr := []
def s_laws_eqByteSS_31 : St :=
  ⟨mkSl 27 [], [], []⟩
def K_laws_eqByteSS_15 : List Fr := [.lp [0, 1, 5] c_laws_eqByteSS_15, .bk 0, .sq (.kp [] c_laws_eqByteSS_31)]
def s_laws_eqByteSS_15 (p0 : (List (List Int))) (p1 : (List (List Int))) (i15_0 : Int) : St :=
  ⟨mkSl 27 [(0, .v false [.ro [.ro [.sc]] (p0.map (rL (rI .u8)))]), (1, .v false [.ro [.ro [.sc]] (p1.map (rL (rI .u8)))]), (5, .v false [.lit (.int .i64 i15_0)])], [], []⟩
def K_laws_eqByteSS_0 : List Fr := []
def s_laws_eqByteSS_0 (p0 : (List (List Int))) (p1 : (List (List Int))) : St :=
  ⟨mkSl 27 [(0, .v false [.ro [.ro [.sc]] (p0.map (rL (rI .u8)))]), (1, .v false [.ro [.ro [.sc]] (p1.map (rL (rI .u8)))])], [], []⟩
def K_laws_eqPiled_0 : List Fr := []
def s_laws_eqPiled_0 (p0 : S_Piled) (p1 : S_Piled) : St :=
  ⟨mkSl 38 [(0, .v true [.lit (.int .i64 p0.err), .lit (.int .i64 p0.width), .lit (.int .i64 p0.height), .ro [.sc] (p0.keys.map rB), .ro [.sc] (p0.steps.map (rI .i64)), .ro [.ro [.sc]] (p0.parts.map (rL (rI .u8)))]), (1, .v true [.lit (.int .i64 p1.err), .lit (.int .i64 p1.width), .lit (.int .i64 p1.height), .ro [.sc] (p1.keys.map rB), .ro [.sc] (p1.steps.map (rI .i64)), .ro [.ro [.sc]] (p1.parts.map (rL (rI .u8)))])], [], []⟩
def K_laws_markBoolS_19 : List Fr := []
def s_laws_markBoolS_19 (i19_0 : Int) (l19_1 : (List Bool)) : St :=
  ⟨mkSl 21 [(0, .v false [.ref 0 [] 0 l19_1.length]), (1, .v false [.lit (.int .i64 i19_0)])], [some ⟨[.sc], (List.map rB l19_1)⟩], []⟩
def K_laws_markBoolS_7 : List Fr := [.lp [0, 1, 5] c_laws_markBoolS_7, .bk 0, .sq (.kp [0, 1] c_laws_markBoolS_19)]
def s_laws_markBoolS_7 (i7_0 : Int) (i7_1 : Int) (l7_2 : (List Bool)) : St :=
  ⟨mkSl 21 [(0, .v false [.ref 0 [] 0 l7_2.length]), (1, .v false [.lit (.int .i64 i7_0)]), (5, .v false [.lit (.int .i64 i7_1)])], [some ⟨[.sc], (List.map rB l7_2)⟩], []⟩
def K_laws_markBoolS_0 : List Fr := []
def s_laws_markBoolS_0 (p1 : Int) (p0 : (List Bool)) : St :=
  ⟨mkSl 21 [(0, .v false [.ref 0 [] 0 p0.length]), (1, .v false [.lit (.int .i64 p1)])], [some ⟨[.sc], (List.map rB p0)⟩], []⟩
def K_laws_markIntS_19 : List Fr := []
def s_laws_markIntS_19 (i19_0 : Int) (l19_1 : (List Int)) : St :=
  ⟨mkSl 19 [(0, .v false [.ref 0 [] 0 l19_1.length]), (1, .v false [.lit (.int .i64 i19_0)])], [some ⟨[.sc], (List.map (rI .i64) l19_1)⟩], []⟩
def K_laws_markIntS_7 : List Fr := [.lp [0, 1, 5] c_laws_markIntS_7, .bk 0, .sq (.kp [0, 1] c_laws_markIntS_19)]
def s_laws_markIntS_7 (i7_0 : Int) (i7_1 : Int) (l7_2 : (List Int)) : St :=
  ⟨mkSl 19 [(0, .v false [.ref 0 [] 0 l7_2.length]), (1, .v false [.lit (.int .i64 i7_0)]), (5, .v false [.lit (.int .i64 i7_1)])], [some ⟨[.sc], (List.map (rI .i64) l7_2)⟩], []⟩
def K_laws_markIntS_0 : List Fr := []
def s_laws_markIntS_0 (p1 : Int) (p0 : (List Int)) : St :=
  ⟨mkSl 19 [(0, .v false [.ref 0 [] 0 p0.length]), (1, .v false [.lit (.int .i64 p1)])], [some ⟨[.sc], (List.map (rI .i64) p0)⟩], []⟩
def K_laws_markByteS_19 : List Fr := []
def s_laws_markByteS_19 (i19_0 : Int) (l19_1 : (List Int)) : St :=
  ⟨mkSl 20 [(0, .v false [.ref 0 [] 0 l19_1.length]), (1, .v false [.lit (.int .i64 i19_0)])], [some ⟨[.sc], (List.map (rI .u8) l19_1)⟩], []⟩
def K_laws_markByteS_7 : List Fr := [.lp [0, 1, 5] c_laws_markByteS_7, .bk 0, .sq (.kp [0, 1] c_laws_markByteS_19)]
def s_laws_markByteS_7 (i7_0 : Int) (i7_1 : Int) (l7_2 : (List Int)) : St :=
  ⟨mkSl 20 [(0, .v false [.ref 0 [] 0 l7_2.length]), (1, .v false [.lit (.int .i64 i7_0)]), (5, .v false [.lit (.int .i64 i7_1)])], [some ⟨[.sc], (List.map (rI .u8) l7_2)⟩], []⟩
def K_laws_markByteS_0 : List Fr := []
def s_laws_markByteS_0 (p1 : Int) (p0 : (List Int)) : St :=
  ⟨mkSl 20 [(0, .v false [.ref 0 [] 0 p0.length]), (1, .v false [.lit (.int .i64 p1)])], [some ⟨[.sc], (List.map (rI .u8) p0)⟩], []⟩
def K_laws_markByteSS_17 : List Fr := []
def s_laws_markByteSS_17 (i17_0 : Int) (l17_1 : (List (List Int))) : St :=
  ⟨mkSl 19 [(0, .v false [.ref 0 [] 0 l17_1.length]), (1, .v false [.lit (.int .i64 i17_0)])], [some ⟨[.own [.sc]], (List.map (rL (rI .u8)) l17_1)⟩], []⟩
def K_laws_markByteSS_7 : List Fr := [.lp [0, 1, 5] c_laws_markByteSS_7, .bk 0, .sq (.kp [0, 1] c_laws_markByteSS_17)]
def s_laws_markByteSS_7 (i7_0 : Int) (i7_1 : Int) (l7_2 : (List (List Int))) : St :=
  ⟨mkSl 19 [(0, .v false [.ref 0 [] 0 l7_2.length]), (1, .v false [.lit (.int .i64 i7_0)]), (5, .v false [.lit (.int .i64 i7_1)])], [some ⟨[.own [.sc]], (List.map (rL (rI .u8)) l7_2)⟩], []⟩
def K_laws_markByteSS_0 : List Fr := []
def s_laws_markByteSS_0 (p1 : Int) (p0 : (List (List Int))) : St :=
  ⟨mkSl 19 [(0, .v false [.ref 0 [] 0 p0.length]), (1, .v false [.lit (.int .i64 p1)])], [some ⟨[.own [.sc]], (List.map (rL (rI .u8)) p0)⟩], []⟩
def K_laws_markPiled_0 : List Fr := []
def s_laws_markPiled_0 (p0 : S_Piled) (p1 : Int) : St :=
  ⟨mkSl 18 [(0, .v true [.lit (.int .i64 p0.err), .lit (.int .i64 p0.width), .lit (.int .i64 p0.height), .ref 0 [] 0 p0.keys.length, .ref 1 [] 0 p0.steps.length, .ref 2 [] 0 p0.parts.length]), (1, .v false [.lit (.int .i64 p1)])], [some ⟨[.sc], (List.map rB p0.keys)⟩, some ⟨[.sc], (List.map (rI .i64) p0.steps)⟩, some ⟨[.own [.sc]], (List.map (rL (rI .u8)) p0.parts)⟩], []⟩
def K_laws_heldByteS_25 : List Fr := []
def s_laws_heldByteS_25 (i25_0 : Int) : St :=
  ⟨mkSl 22 [(1, .v false [.lit (.int .i64 i25_0)])], [], []⟩
def K_laws_heldByteS_7 : List Fr := [.lp [0, 1, 5] c_laws_heldByteS_7, .bk 0, .sq (.kp [1] c_laws_heldByteS_25)]
def s_laws_heldByteS_7 (p0 : (List Int)) (i7_0 : Int) (i7_1 : Int) : St :=
  ⟨mkSl 22 [(0, .v false [.ro [.sc] (p0.map (rI .u8))]), (1, .v false [.lit (.int .i64 i7_0)]), (5, .v false [.lit (.int .i64 i7_1)])], [], []⟩
def K_laws_heldByteS_0 : List Fr := []
def s_laws_heldByteS_0 (p0 : (List Int)) (p1 : Int) : St :=
  ⟨mkSl 22 [(0, .v false [.ro [.sc] (p0.map (rI .u8))]), (1, .v false [.lit (.int .i64 p1)])], [], []⟩
def K_laws_FnExactWriteParts_0 : List Fr := []
def s_laws_FnExactWriteParts_0 (p0 : S_Piled) : St :=
  ⟨mkSl 69 [(0, .v true [.lit (.int .i64 p0.err), .lit (.int .i64 p0.width), .lit (.int .i64 p0.height), .ro [.sc] (p0.keys.map rB), .ro [.sc] (p0.steps.map (rI .i64)), .ro [.ro [.sc]] (p0.parts.map (rL (rI .u8)))])], [], []⟩
theorem ok_laws_szBoolS_0 (p0 : (List Bool)) (p1 : Int) (r : Int) (hm : m_laws_szBoolS_0 p0 p1 = some r) : EvU ext tbl (.c c_laws_szBoolS_0) K_laws_szBoolS_0 (s_laws_szBoolS_0 p0 p1) (Post vf_laws_szBoolS (res_laws_szBoolS r)) := by
  obtain ⟨h0_0, hm⟩ | ⟨h0_0, hm⟩ := split_ite hm
  · skip
    exact go_end [.num p0.length, .bit true] 1000 (And.intro (len_map rB (show p0.length = p0.length from rfl)) (And.intro h0_0 True.intro)) (congrArg res_laws_szBoolS (Option.some.inj hm)) (by kernel_rfl)
  · skip
    exact go_end [.num p0.length, .bit false] 1000 (And.intro (len_map rB (show p0.length = p0.length from rfl)) (And.intro h0_0 True.intro)) (congrArg res_laws_szBoolS (Option.some.inj hm)) (by kernel_rfl)

theorem ok_laws_szBoolS (p0 : (List Bool)) (p1 : Int) (r : Int) (hm : m_laws_szBoolS p0 p1 = some r) : Runs ext tbl 108 (as_laws_szBoolS p0 p1) (res_laws_szBoolS r) :=
  runs_of (vf := vf_laws_szBoolS) (by kernel_rfl) rfl (st := (enter vf_laws_szBoolS (as_laws_szBoolS p0 p1)).getD default) (by kernel_rfl) (go_on [] 1000 True.intro (ok_laws_szBoolS_0 p0 p1 r hm) (by kernel_rfl))
theorem ok_laws_szIntS_0 (p0 : (List Int)) (p1 : Int) (r : Int) (hm : m_laws_szIntS_0 p0 p1 = some r) : EvU ext tbl (.c c_laws_szIntS_0) K_laws_szIntS_0 (s_laws_szIntS_0 p0 p1) (Post vf_laws_szIntS (res_laws_szIntS r)) := by
  obtain ⟨h0_0, hm⟩ | ⟨h0_0, hm⟩ := split_ite hm
  · skip
    exact go_end [.num p0.length, .bit true] 1000 (And.intro (len_map (rI .i64) (show p0.length = p0.length from rfl)) (And.intro h0_0 True.intro)) (congrArg res_laws_szIntS (Option.some.inj hm)) (by kernel_rfl)
  · skip
    exact go_end [.num p0.length, .bit false] 1000 (And.intro (len_map (rI .i64) (show p0.length = p0.length from rfl)) (And.intro h0_0 True.intro)) (congrArg res_laws_szIntS (Option.some.inj hm)) (by kernel_rfl)

theorem ok_laws_szIntS (p0 : (List Int)) (p1 : Int) (r : Int) (hm : m_laws_szIntS p0 p1 = some r) : Runs ext tbl 95 (as_laws_szIntS p0 p1) (res_laws_szIntS r) :=
  runs_of (vf := vf_laws_szIntS) (by kernel_rfl) rfl (st := (enter vf_laws_szIntS (as_laws_szIntS p0 p1)).getD default) (by kernel_rfl) (go_on [] 1000 True.intro (ok_laws_szIntS_0 p0 p1 r hm) (by kernel_rfl))
theorem ok_laws_szByteS_0 (p0 : (List Int)) (p1 : Int) (r : Int) (hm : m_laws_szByteS_0 p0 p1 = some r) : EvU ext tbl (.c c_laws_szByteS_0) K_laws_szByteS_0 (s_laws_szByteS_0 p0 p1) (Post vf_laws_szByteS (res_laws_szByteS r)) := by
  obtain ⟨h0_0, hm⟩ | ⟨h0_0, hm⟩ := split_ite hm
  · skip
    exact go_end [.num p0.length, .bit true] 1000 (And.intro (len_map (rI .u8) (show p0.length = p0.length from rfl)) (And.intro h0_0 True.intro)) (congrArg res_laws_szByteS (Option.some.inj hm)) (by kernel_rfl)
  · skip
    exact go_end [.num p0.length, .bit false] 1000 (And.intro (len_map (rI .u8) (show p0.length = p0.length from rfl)) (And.intro h0_0 True.intro)) (congrArg res_laws_szByteS (Option.some.inj hm)) (by kernel_rfl)

theorem ok_laws_szByteS (p0 : (List Int)) (p1 : Int) (r : Int) (hm : m_laws_szByteS p0 p1 = some r) : Runs ext tbl 173 (as_laws_szByteS p0 p1) (res_laws_szByteS r) :=
  runs_of (vf := vf_laws_szByteS) (by kernel_rfl) rfl (st := (enter vf_laws_szByteS (as_laws_szByteS p0 p1)).getD default) (by kernel_rfl) (go_on [] 1000 True.intro (ok_laws_szByteS_0 p0 p1 r hm) (by kernel_rfl))
def O_laws_szByteSS_17 (Q : VX → St → Prop) (e : (Int) ⊕ ((Int))) : Prop := match e with | .inl e => Q = Post vf_laws_szByteSS (res_laws_szByteSS e) | .inr e => EvU ext tbl (.c c_laws_szByteSS_35) K_laws_szByteSS_35 (s_laws_szByteSS_35 e) Q
theorem ok_laws_szByteSS_35 (i35_0 : Int) (r : Int) (hm : m_laws_szByteSS_35 i35_0 = some r) : EvU ext tbl (.c c_laws_szByteSS_35) K_laws_szByteSS_35 (s_laws_szByteSS_35 i35_0) (Post vf_laws_szByteSS (res_laws_szByteSS r)) := by
  exact go_end [] 1000 True.intro (congrArg res_laws_szByteSS (Option.some.inj hm)) (by kernel_rfl)

theorem ok_laws_szByteSS_17 (p0 : (List (List Int))) (i17_0 : Int) (i17_1 : Int) (y : (Int × Int) ⊕ ((Int) ⊕ ((Int)))) (hm : m_laws_szByteSS_17 p0 i17_0 i17_1 = some y) (Q : VX → St → Prop)
    (hin : ∀ s, y = .inl s → EvU ext tbl (.c c_laws_szByteSS_17) K_laws_szByteSS_17 (s_laws_szByteSS_17 p0 s.1 s.2) Q) (hout : ∀ e, y = .inr e → O_laws_szByteSS_17 Q e) : EvU ext tbl (.c c_laws_szByteSS_17) K_laws_szByteSS_17 (s_laws_szByteSS_17 p0 i17_0 i17_1) Q := by
  obtain ⟨h17_0, hm⟩ | ⟨h17_0, hm⟩ := split_ite hm
  · skip
    obtain ⟨x17_1, h17_1, hm⟩ := bind_some hm
    obtain ⟨x17_2, h17_2, hm⟩ := bind_some hm
    obtain ⟨h17_3, hm⟩ | ⟨h17_3, hm⟩ := split_ite hm
    · skip
      have hQ : Q = Post vf_laws_szByteSS (res_laws_szByteSS (-1)) := hout (.inl (-1)) (Option.some.inj hm).symm
      subst hQ
      exact go_end [.num p0.length, .bit true, .row ((rL (rI .u8)) x17_1), .res (res_laws_szByteS x17_2), .bit true] 1000 (And.intro (len_map (rL (rI .u8)) (show p0.length = p0.length from rfl)) (And.intro h17_0 (And.intro (rd_nn h17_1) (And.intro (at_row (rL (rI .u8)) (rd_get h17_1)) (And.intro (ok_laws_szByteS x17_1 i17_0 x17_2 h17_2) (And.intro h17_3 True.intro)))))) (rfl : res_laws_szByteSS (-1) = res_laws_szByteSS (-1)) (by kernel_rfl)
    · skip
      refine go_on (u' := .c c_laws_szByteSS_17) (K' := K_laws_szByteSS_17) (st' := s_laws_szByteSS_17 p0 x17_2 (w64 (i17_1 + 1))) [.num p0.length, .bit true, .row ((rL (rI .u8)) x17_1), .res (res_laws_szByteS x17_2), .bit false] 1000 (And.intro (len_map (rL (rI .u8)) (show p0.length = p0.length from rfl)) (And.intro h17_0 (And.intro (rd_nn h17_1) (And.intro (at_row (rL (rI .u8)) (rd_get h17_1)) (And.intro (ok_laws_szByteS x17_1 i17_0 x17_2 h17_2) (And.intro h17_3 True.intro)))))) ?_ (by kernel_rfl)
      exact hin (x17_2, (w64 (i17_1 + 1))) (Option.some.inj hm).symm
  · skip
    refine go_on (u' := .c c_laws_szByteSS_35) (K' := K_laws_szByteSS_35) (st' := s_laws_szByteSS_35 i17_0) [.num p0.length, .bit false] 1000 (And.intro (len_map (rL (rI .u8)) (show p0.length = p0.length from rfl)) (And.intro h17_0 True.intro)) ?_ (by kernel_rfl)
    exact hout (.inr i17_0) (Option.some.inj hm).symm

theorem ok_laws_szByteSS_0 (p0 : (List (List Int))) (p1 : Int) (r : Int) (hm : m_laws_szByteSS_0 p0 p1 = some r) : EvU ext tbl (.c c_laws_szByteSS_0) K_laws_szByteSS_0 (s_laws_szByteSS_0 p0 p1) (Post vf_laws_szByteSS (res_laws_szByteSS r)) := by
  obtain ⟨h0_0, hm⟩ | ⟨h0_0, hm⟩ := split_ite hm
  · skip
    exact go_end [.num p0.length, .bit true] 1000 (And.intro (len_map (rL (rI .u8)) (show p0.length = p0.length from rfl)) (And.intro h0_0 True.intro)) (congrArg res_laws_szByteSS (Option.some.inj hm)) (by kernel_rfl)
  · skip
    refine go_on (u' := .c c_laws_szByteSS_17) (K' := K_laws_szByteSS_17) (st' := s_laws_szByteSS_17 p0 (w64 (p1 - (p0.length : Int))) 0) [.num p0.length, .bit false] 1000 (And.intro (len_map (rL (rI .u8)) (show p0.length = p0.length from rfl)) (And.intro h0_0 True.intro)) ?_ (by kernel_rfl)
    obtain ⟨e, he, hm⟩ := bind_some hm
    refine loop_rule (u := .c c_laws_szByteSS_17) (K := K_laws_szByteSS_17) (Q := (Post vf_laws_szByteSS (res_laws_szByteSS r))) (b := lp_laws_szByteSS_17 p0) (We := O_laws_szByteSS_17 (Post vf_laws_szByteSS (res_laws_szByteSS r))) (stJ := fun s => s_laws_szByteSS_17 p0 s.1 s.2) (s := ((w64 (p1 - (p0.length : Int))), 0)) (fun s y hb hin hout => ok_laws_szByteSS_17 p0 s.1 s.2 y hb (Post vf_laws_szByteSS (res_laws_szByteSS r)) hin hout) he ?_
    rcases e with e | e
    · skip
      exact congrArg (fun r => Post vf_laws_szByteSS (res_laws_szByteSS r)) (Option.some.inj hm).symm
    · skip
      show EvU ext tbl (.c c_laws_szByteSS_35) K_laws_szByteSS_35 (s_laws_szByteSS_35 e) _
      exact ok_laws_szByteSS_35 e r hm

theorem ok_laws_szByteSS (p0 : (List (List Int))) (p1 : Int) (r : Int) (hm : m_laws_szByteSS p0 p1 = some r) : Runs ext tbl 109 (as_laws_szByteSS p0 p1) (res_laws_szByteSS r) :=
  runs_of (vf := vf_laws_szByteSS) (by kernel_rfl) rfl (st := (enter vf_laws_szByteSS (as_laws_szByteSS p0 p1)).getD default) (by kernel_rfl) (go_on [] 1000 True.intro (ok_laws_szByteSS_0 p0 p1 r hm) (by kernel_rfl))
theorem ok_laws_szPiled_0 (p0 : S_Piled) (p1 : Int) (r : Int) (hm : m_laws_szPiled_0 p0 p1 = some r) : EvU ext tbl (.c c_laws_szPiled_0) K_laws_szPiled_0 (s_laws_szPiled_0 p0 p1) (Post vf_laws_szPiled (res_laws_szPiled r)) := by
  obtain ⟨x0_0, h0_0, hm⟩ := bind_some hm
  obtain ⟨h0_1, hm⟩ | ⟨h0_1, hm⟩ := split_ite hm
  · skip
    exact go_end [.res (res_laws_szBoolS x0_0), .bit true] 1000 (And.intro (ok_laws_szBoolS p0.keys p1 x0_0 h0_0) (And.intro h0_1 True.intro)) (congrArg res_laws_szPiled (Option.some.inj hm)) (by kernel_rfl)
  · skip
    obtain ⟨x0_2, h0_2, hm⟩ := bind_some hm
    obtain ⟨h0_3, hm⟩ | ⟨h0_3, hm⟩ := split_ite hm
    · skip
      exact go_end [.res (res_laws_szBoolS x0_0), .bit false, .res (res_laws_szIntS x0_2), .bit true] 1000 (And.intro (ok_laws_szBoolS p0.keys p1 x0_0 h0_0) (And.intro h0_1 (And.intro (ok_laws_szIntS p0.steps x0_0 x0_2 h0_2) (And.intro h0_3 True.intro)))) (congrArg res_laws_szPiled (Option.some.inj hm)) (by kernel_rfl)
    · skip
      obtain ⟨x0_4, h0_4, hm⟩ := bind_some hm
      obtain ⟨h0_5, hm⟩ | ⟨h0_5, hm⟩ := split_ite hm
      · skip
        exact go_end [.res (res_laws_szBoolS x0_0), .bit false, .res (res_laws_szIntS x0_2), .bit false, .res (res_laws_szByteSS x0_4), .bit true] 1000 (And.intro (ok_laws_szBoolS p0.keys p1 x0_0 h0_0) (And.intro h0_1 (And.intro (ok_laws_szIntS p0.steps x0_0 x0_2 h0_2) (And.intro h0_3 (And.intro (ok_laws_szByteSS p0.parts x0_2 x0_4 h0_4) (And.intro h0_5 True.intro)))))) (congrArg res_laws_szPiled (Option.some.inj hm)) (by kernel_rfl)
      · skip
        exact go_end [.res (res_laws_szBoolS x0_0), .bit false, .res (res_laws_szIntS x0_2), .bit false, .res (res_laws_szByteSS x0_4), .bit false] 1000 (And.intro (ok_laws_szBoolS p0.keys p1 x0_0 h0_0) (And.intro h0_1 (And.intro (ok_laws_szIntS p0.steps x0_0 x0_2 h0_2) (And.intro h0_3 (And.intro (ok_laws_szByteSS p0.parts x0_2 x0_4 h0_4) (And.intro h0_5 True.intro)))))) (congrArg res_laws_szPiled (Option.some.inj hm)) (by kernel_rfl)

theorem ok_laws_szPiled (p0 : S_Piled) (p1 : Int) (r : Int) (hm : m_laws_szPiled p0 p1 = some r) : Runs ext tbl 30 (as_laws_szPiled p0 p1) (res_laws_szPiled r) :=
  runs_of (vf := vf_laws_szPiled) (by kernel_rfl) rfl (st := (enter vf_laws_szPiled (as_laws_szPiled p0 p1)).getD default) (by kernel_rfl) (go_on [] 1000 True.intro (ok_laws_szPiled_0 p0 p1 r hm) (by kernel_rfl))
def O_laws_toBoolS_9 (Q : VX → St → Prop) (e : ((List Bool))) : Prop := EvU ext tbl (.c c_laws_toBoolS_19) K_laws_toBoolS_19 (s_laws_toBoolS_19 e) Q
theorem ok_laws_toBoolS_19 (l19_0 : (List Bool)) (r : (List Bool)) (hm : m_laws_toBoolS_19 l19_0 = some r) : EvU ext tbl (.c c_laws_toBoolS_19) K_laws_toBoolS_19 (s_laws_toBoolS_19 l19_0) (Post vf_laws_toBoolS (res_laws_toBoolS r)) := by
  exact go_end [.rows (List.map rB l19_0)] 1000 (And.intro (all_le0 rB l19_0 rfl) (And.intro (all_t rB l19_0 rfl) True.intro)) (congrArg res_laws_toBoolS (Option.some.inj hm)) (by kernel_rfl)

theorem ok_laws_toBoolS_9 (p0 : (List Bool)) (i9_0 : Int) (l9_1 : (List Bool)) (y : (Int × (List Bool)) ⊕ (((List Bool)))) (hm : m_laws_toBoolS_9 p0 i9_0 l9_1 = some y) (Q : VX → St → Prop)
    (hin : ∀ s, y = .inl s → EvU ext tbl (.c c_laws_toBoolS_9) K_laws_toBoolS_9 (s_laws_toBoolS_9 p0 s.1 s.2) Q) (hout : ∀ e, y = .inr e → O_laws_toBoolS_9 Q e) : EvU ext tbl (.c c_laws_toBoolS_9) K_laws_toBoolS_9 (s_laws_toBoolS_9 p0 i9_0 l9_1) Q := by
  obtain ⟨h9_0, hm⟩ | ⟨h9_0, hm⟩ := split_ite hm
  · skip
    obtain ⟨x9_1, h9_1, hm⟩ := bind_some hm
    obtain ⟨x9_2, h9_2, hm⟩ := bind_some hm
    refine go_on (u' := .c c_laws_toBoolS_9) (K' := K_laws_toBoolS_9) (st' := s_laws_toBoolS_9 p0 (w64 (i9_0 + 1)) (l9_1.set (0 + Int.toNat i9_0) x9_1)) [.num p0.length, .bit true, .row (rB x9_1), .rows (List.map rB (l9_1.set (0 + Int.toNat i9_0) x9_1)), .num ((l9_1.set (0 + Int.toNat i9_0) x9_1).length)] 1000 (And.intro (len_map rB (show p0.length = p0.length from rfl)) (And.intro h9_0 (And.intro (rd_nn h9_1) (And.intro (at_row rB (rd_get h9_1)) (And.intro (rd_in rfl h9_2) (And.intro (put_ob rB x9_1 0 (.lit (.bool x9_1)) (rd_get0 h9_2) (by kernel_rfl) (by kernel_rfl)) (And.intro (lens l9_1.length ((l9_1.set (0 + Int.toNat i9_0) x9_1).length) (set_len rfl)) True.intro))))))) ?_ (by kernel_rfl)
    exact hin ((w64 (i9_0 + 1)), (l9_1.set (0 + Int.toNat i9_0) x9_1)) (Option.some.inj hm).symm
  · skip
    refine go_on (u' := .c c_laws_toBoolS_19) (K' := K_laws_toBoolS_19) (st' := s_laws_toBoolS_19 l9_1) [.num p0.length, .bit false, .num l9_1.length] 1000 (And.intro (len_map rB (show p0.length = p0.length from rfl)) (And.intro h9_0 (And.intro (lens l9_1.length l9_1.length rfl) True.intro))) ?_ (by kernel_rfl)
    exact hout l9_1 (Option.some.inj hm).symm

theorem ok_laws_toBoolS_0 (p0 : (List Bool)) (r : (List Bool)) (hm : m_laws_toBoolS_0 p0 = some r) : EvU ext tbl (.c c_laws_toBoolS_0) K_laws_toBoolS_0 (s_laws_toBoolS_0 p0) (Post vf_laws_toBoolS (res_laws_toBoolS r)) := by
  obtain ⟨x0_0, h0_0, hm⟩ := bind_some hm
  refine go_on (u' := .c c_laws_toBoolS_9) (K' := K_laws_toBoolS_9) (st' := s_laws_toBoolS_9 p0 0 (List.replicate (Int.toNat (p0.length : Int)) (false : Bool))) [.num p0.length, .rows (List.map rB (List.replicate (Int.toNat (p0.length : Int)) (false : Bool))), .num (Int.toNat (p0.length : Int)), .num ((List.replicate (Int.toNat (p0.length : Int)) (false : Bool)).length)] 1000 (And.intro (len_map rB (show p0.length = p0.length from rfl)) (And.intro (ck_p h0_0) (And.intro (rep_ob rB (Int.toNat (p0.length : Int)) (false : Bool) [.lit (.bool false)] (by kernel_rfl)) (And.intro (len_map rB (show (Int.toNat (p0.length : Int)) = (List.replicate (Int.toNat (p0.length : Int)) (false : Bool)).length from (rep_len (Int.toNat (p0.length : Int)) (false : Bool)))) (And.intro (lens (Int.toNat (p0.length : Int)) ((List.replicate (Int.toNat (p0.length : Int)) (false : Bool)).length) (rep_len (Int.toNat (p0.length : Int)) (false : Bool))) True.intro))))) ?_ (by kernel_rfl)
  obtain ⟨e, he, hm⟩ := bind_some hm
  refine loop_rule (u := .c c_laws_toBoolS_9) (K := K_laws_toBoolS_9) (Q := (Post vf_laws_toBoolS (res_laws_toBoolS r))) (b := lp_laws_toBoolS_9 p0) (We := O_laws_toBoolS_9 (Post vf_laws_toBoolS (res_laws_toBoolS r))) (stJ := fun s => s_laws_toBoolS_9 p0 s.1 s.2) (s := (0, (List.replicate (Int.toNat (p0.length : Int)) (false : Bool)))) (fun s y hb hin hout => ok_laws_toBoolS_9 p0 s.1 s.2 y hb (Post vf_laws_toBoolS (res_laws_toBoolS r)) hin hout) he ?_
  show EvU ext tbl (.c c_laws_toBoolS_19) K_laws_toBoolS_19 (s_laws_toBoolS_19 e) _
  exact ok_laws_toBoolS_19 e r hm

theorem ok_laws_toBoolS (p0 : (List Bool)) (r : (List Bool)) (hm : m_laws_toBoolS p0 = some r) : Runs ext tbl 113 (as_laws_toBoolS p0) (res_laws_toBoolS r) :=
  runs_of (vf := vf_laws_toBoolS) (by kernel_rfl) rfl (st := (enter vf_laws_toBoolS (as_laws_toBoolS p0)).getD default) (by kernel_rfl) (go_on [] 1000 True.intro (ok_laws_toBoolS_0 p0 r hm) (by kernel_rfl))
def O_laws_toIntS_9 (Q : VX → St → Prop) (e : ((List Int))) : Prop := EvU ext tbl (.c c_laws_toIntS_19) K_laws_toIntS_19 (s_laws_toIntS_19 e) Q
theorem ok_laws_toIntS_19 (l19_0 : (List Int)) (r : (List Int)) (hm : m_laws_toIntS_19 l19_0 = some r) : EvU ext tbl (.c c_laws_toIntS_19) K_laws_toIntS_19 (s_laws_toIntS_19 l19_0) (Post vf_laws_toIntS (res_laws_toIntS r)) := by
  exact go_end [.rows (List.map (rI .i64) l19_0)] 1000 (And.intro (all_le0 (rI .i64) l19_0 rfl) (And.intro (all_t (rI .i64) l19_0 rfl) True.intro)) (congrArg res_laws_toIntS (Option.some.inj hm)) (by kernel_rfl)

theorem ok_laws_toIntS_9 (p0 : (List Int)) (i9_0 : Int) (l9_1 : (List Int)) (y : (Int × (List Int)) ⊕ (((List Int)))) (hm : m_laws_toIntS_9 p0 i9_0 l9_1 = some y) (Q : VX → St → Prop)
    (hin : ∀ s, y = .inl s → EvU ext tbl (.c c_laws_toIntS_9) K_laws_toIntS_9 (s_laws_toIntS_9 p0 s.1 s.2) Q) (hout : ∀ e, y = .inr e → O_laws_toIntS_9 Q e) : EvU ext tbl (.c c_laws_toIntS_9) K_laws_toIntS_9 (s_laws_toIntS_9 p0 i9_0 l9_1) Q := by
  obtain ⟨h9_0, hm⟩ | ⟨h9_0, hm⟩ := split_ite hm
  · skip
    obtain ⟨x9_1, h9_1, hm⟩ := bind_some hm
    obtain ⟨x9_2, h9_2, hm⟩ := bind_some hm
    refine go_on (u' := .c c_laws_toIntS_9) (K' := K_laws_toIntS_9) (st' := s_laws_toIntS_9 p0 (w64 (i9_0 + 1)) (l9_1.set (0 + Int.toNat i9_0) x9_1)) [.num p0.length, .bit true, .row ((rI .i64) x9_1), .rows (List.map (rI .i64) (l9_1.set (0 + Int.toNat i9_0) x9_1)), .num ((l9_1.set (0 + Int.toNat i9_0) x9_1).length)] 1000 (And.intro (len_map (rI .i64) (show p0.length = p0.length from rfl)) (And.intro h9_0 (And.intro (rd_nn h9_1) (And.intro (at_row (rI .i64) (rd_get h9_1)) (And.intro (rd_in rfl h9_2) (And.intro (put_ob (rI .i64) x9_1 0 (.lit (.int .i64 x9_1)) (rd_get0 h9_2) (by kernel_rfl) (by kernel_rfl)) (And.intro (lens l9_1.length ((l9_1.set (0 + Int.toNat i9_0) x9_1).length) (set_len rfl)) True.intro))))))) ?_ (by kernel_rfl)
    exact hin ((w64 (i9_0 + 1)), (l9_1.set (0 + Int.toNat i9_0) x9_1)) (Option.some.inj hm).symm
  · skip
    refine go_on (u' := .c c_laws_toIntS_19) (K' := K_laws_toIntS_19) (st' := s_laws_toIntS_19 l9_1) [.num p0.length, .bit false, .num l9_1.length] 1000 (And.intro (len_map (rI .i64) (show p0.length = p0.length from rfl)) (And.intro h9_0 (And.intro (lens l9_1.length l9_1.length rfl) True.intro))) ?_ (by kernel_rfl)
    exact hout l9_1 (Option.some.inj hm).symm

theorem ok_laws_toIntS_0 (p0 : (List Int)) (r : (List Int)) (hm : m_laws_toIntS_0 p0 = some r) : EvU ext tbl (.c c_laws_toIntS_0) K_laws_toIntS_0 (s_laws_toIntS_0 p0) (Post vf_laws_toIntS (res_laws_toIntS r)) := by
  obtain ⟨x0_0, h0_0, hm⟩ := bind_some hm
  refine go_on (u' := .c c_laws_toIntS_9) (K' := K_laws_toIntS_9) (st' := s_laws_toIntS_9 p0 0 (List.replicate (Int.toNat (p0.length : Int)) (0 : Int))) [.num p0.length, .rows (List.map (rI .i64) (List.replicate (Int.toNat (p0.length : Int)) (0 : Int))), .num (Int.toNat (p0.length : Int)), .num ((List.replicate (Int.toNat (p0.length : Int)) (0 : Int)).length)] 1000 (And.intro (len_map (rI .i64) (show p0.length = p0.length from rfl)) (And.intro (ck_p h0_0) (And.intro (rep_ob (rI .i64) (Int.toNat (p0.length : Int)) (0 : Int) [.lit (.int .i64 0)] (by kernel_rfl)) (And.intro (len_map (rI .i64) (show (Int.toNat (p0.length : Int)) = (List.replicate (Int.toNat (p0.length : Int)) (0 : Int)).length from (rep_len (Int.toNat (p0.length : Int)) (0 : Int)))) (And.intro (lens (Int.toNat (p0.length : Int)) ((List.replicate (Int.toNat (p0.length : Int)) (0 : Int)).length) (rep_len (Int.toNat (p0.length : Int)) (0 : Int))) True.intro))))) ?_ (by kernel_rfl)
  obtain ⟨e, he, hm⟩ := bind_some hm
  refine loop_rule (u := .c c_laws_toIntS_9) (K := K_laws_toIntS_9) (Q := (Post vf_laws_toIntS (res_laws_toIntS r))) (b := lp_laws_toIntS_9 p0) (We := O_laws_toIntS_9 (Post vf_laws_toIntS (res_laws_toIntS r))) (stJ := fun s => s_laws_toIntS_9 p0 s.1 s.2) (s := (0, (List.replicate (Int.toNat (p0.length : Int)) (0 : Int)))) (fun s y hb hin hout => ok_laws_toIntS_9 p0 s.1 s.2 y hb (Post vf_laws_toIntS (res_laws_toIntS r)) hin hout) he ?_
  show EvU ext tbl (.c c_laws_toIntS_19) K_laws_toIntS_19 (s_laws_toIntS_19 e) _
  exact ok_laws_toIntS_19 e r hm

theorem ok_laws_toIntS (p0 : (List Int)) (r : (List Int)) (hm : m_laws_toIntS p0 = some r) : Runs ext tbl 60 (as_laws_toIntS p0) (res_laws_toIntS r) :=
  runs_of (vf := vf_laws_toIntS) (by kernel_rfl) rfl (st := (enter vf_laws_toIntS (as_laws_toIntS p0)).getD default) (by kernel_rfl) (go_on [] 1000 True.intro (ok_laws_toIntS_0 p0 r hm) (by kernel_rfl))
def O_laws_toByteS_9 (Q : VX → St → Prop) (e : ((List Int))) : Prop := EvU ext tbl (.c c_laws_toByteS_19) K_laws_toByteS_19 (s_laws_toByteS_19 e) Q
theorem ok_laws_toByteS_19 (l19_0 : (List Int)) (r : (List Int)) (hm : m_laws_toByteS_19 l19_0 = some r) : EvU ext tbl (.c c_laws_toByteS_19) K_laws_toByteS_19 (s_laws_toByteS_19 l19_0) (Post vf_laws_toByteS (res_laws_toByteS r)) := by
  exact go_end [.rows (List.map (rI .u8) l19_0)] 1000 (And.intro (all_le0 (rI .u8) l19_0 rfl) (And.intro (all_t (rI .u8) l19_0 rfl) True.intro)) (congrArg res_laws_toByteS (Option.some.inj hm)) (by kernel_rfl)

theorem ok_laws_toByteS_9 (p0 : (List Int)) (i9_0 : Int) (l9_1 : (List Int)) (y : (Int × (List Int)) ⊕ (((List Int)))) (hm : m_laws_toByteS_9 p0 i9_0 l9_1 = some y) (Q : VX → St → Prop)
    (hin : ∀ s, y = .inl s → EvU ext tbl (.c c_laws_toByteS_9) K_laws_toByteS_9 (s_laws_toByteS_9 p0 s.1 s.2) Q) (hout : ∀ e, y = .inr e → O_laws_toByteS_9 Q e) : EvU ext tbl (.c c_laws_toByteS_9) K_laws_toByteS_9 (s_laws_toByteS_9 p0 i9_0 l9_1) Q := by
  obtain ⟨h9_0, hm⟩ | ⟨h9_0, hm⟩ := split_ite hm
  · skip
    obtain ⟨x9_1, h9_1, hm⟩ := bind_some hm
    obtain ⟨x9_2, h9_2, hm⟩ := bind_some hm
    refine go_on (u' := .c c_laws_toByteS_9) (K' := K_laws_toByteS_9) (st' := s_laws_toByteS_9 p0 (w64 (i9_0 + 1)) (l9_1.set (0 + Int.toNat i9_0) x9_1)) [.num p0.length, .bit true, .row ((rI .u8) x9_1), .rows (List.map (rI .u8) (l9_1.set (0 + Int.toNat i9_0) x9_1)), .num ((l9_1.set (0 + Int.toNat i9_0) x9_1).length)] 1000 (And.intro (len_map (rI .u8) (show p0.length = p0.length from rfl)) (And.intro h9_0 (And.intro (rd_nn h9_1) (And.intro (at_row (rI .u8) (rd_get h9_1)) (And.intro (rd_in rfl h9_2) (And.intro (put_ob (rI .u8) x9_1 0 (.lit (.int .u8 x9_1)) (rd_get0 h9_2) (by kernel_rfl) (by kernel_rfl)) (And.intro (lens l9_1.length ((l9_1.set (0 + Int.toNat i9_0) x9_1).length) (set_len rfl)) True.intro))))))) ?_ (by kernel_rfl)
    exact hin ((w64 (i9_0 + 1)), (l9_1.set (0 + Int.toNat i9_0) x9_1)) (Option.some.inj hm).symm
  · skip
    refine go_on (u' := .c c_laws_toByteS_19) (K' := K_laws_toByteS_19) (st' := s_laws_toByteS_19 l9_1) [.num p0.length, .bit false, .num l9_1.length] 1000 (And.intro (len_map (rI .u8) (show p0.length = p0.length from rfl)) (And.intro h9_0 (And.intro (lens l9_1.length l9_1.length rfl) True.intro))) ?_ (by kernel_rfl)
    exact hout l9_1 (Option.some.inj hm).symm

theorem ok_laws_toByteS_0 (p0 : (List Int)) (r : (List Int)) (hm : m_laws_toByteS_0 p0 = some r) : EvU ext tbl (.c c_laws_toByteS_0) K_laws_toByteS_0 (s_laws_toByteS_0 p0) (Post vf_laws_toByteS (res_laws_toByteS r)) := by
  obtain ⟨x0_0, h0_0, hm⟩ := bind_some hm
  refine go_on (u' := .c c_laws_toByteS_9) (K' := K_laws_toByteS_9) (st' := s_laws_toByteS_9 p0 0 (List.replicate (Int.toNat (p0.length : Int)) (0 : Int))) [.num p0.length, .rows (List.map (rI .u8) (List.replicate (Int.toNat (p0.length : Int)) (0 : Int))), .num (Int.toNat (p0.length : Int)), .num ((List.replicate (Int.toNat (p0.length : Int)) (0 : Int)).length)] 1000 (And.intro (len_map (rI .u8) (show p0.length = p0.length from rfl)) (And.intro (ck_p h0_0) (And.intro (rep_ob (rI .u8) (Int.toNat (p0.length : Int)) (0 : Int) [.lit (.int .u8 0)] (by kernel_rfl)) (And.intro (len_map (rI .u8) (show (Int.toNat (p0.length : Int)) = (List.replicate (Int.toNat (p0.length : Int)) (0 : Int)).length from (rep_len (Int.toNat (p0.length : Int)) (0 : Int)))) (And.intro (lens (Int.toNat (p0.length : Int)) ((List.replicate (Int.toNat (p0.length : Int)) (0 : Int)).length) (rep_len (Int.toNat (p0.length : Int)) (0 : Int))) True.intro))))) ?_ (by kernel_rfl)
  obtain ⟨e, he, hm⟩ := bind_some hm
  refine loop_rule (u := .c c_laws_toByteS_9) (K := K_laws_toByteS_9) (Q := (Post vf_laws_toByteS (res_laws_toByteS r))) (b := lp_laws_toByteS_9 p0) (We := O_laws_toByteS_9 (Post vf_laws_toByteS (res_laws_toByteS r))) (stJ := fun s => s_laws_toByteS_9 p0 s.1 s.2) (s := (0, (List.replicate (Int.toNat (p0.length : Int)) (0 : Int)))) (fun s y hb hin hout => ok_laws_toByteS_9 p0 s.1 s.2 y hb (Post vf_laws_toByteS (res_laws_toByteS r)) hin hout) he ?_
  show EvU ext tbl (.c c_laws_toByteS_19) K_laws_toByteS_19 (s_laws_toByteS_19 e) _
  exact ok_laws_toByteS_19 e r hm

theorem ok_laws_toByteS (p0 : (List Int)) (r : (List Int)) (hm : m_laws_toByteS p0 = some r) : Runs ext tbl 22 (as_laws_toByteS p0) (res_laws_toByteS r) :=
  runs_of (vf := vf_laws_toByteS) (by kernel_rfl) rfl (st := (enter vf_laws_toByteS (as_laws_toByteS p0)).getD default) (by kernel_rfl) (go_on [] 1000 True.intro (ok_laws_toByteS_0 p0 r hm) (by kernel_rfl))
def O_laws_toByteSS_9 (Q : VX → St → Prop) (e : ((List (List Int)))) : Prop := EvU ext tbl (.c c_laws_toByteSS_19) K_laws_toByteSS_19 (s_laws_toByteSS_19 e) Q
theorem ok_laws_toByteSS_19 (l19_0 : (List (List Int))) (r : (List (List Int))) (hm : m_laws_toByteSS_19 l19_0 = some r) : EvU ext tbl (.c c_laws_toByteSS_19) K_laws_toByteSS_19 (s_laws_toByteSS_19 l19_0) (Post vf_laws_toByteSS (res_laws_toByteSS r)) := by
  exact go_end [.rows (List.map (rL (rI .u8)) l19_0)] 1000 (And.intro (all_le0 (rL (rI .u8)) l19_0 rfl) (And.intro (all_t (rL (rI .u8)) l19_0 rfl) True.intro)) (congrArg res_laws_toByteSS (Option.some.inj hm)) (by kernel_rfl)

theorem ok_laws_toByteSS_9 (p0 : (List (List Int))) (i9_0 : Int) (l9_1 : (List (List Int))) (y : (Int × (List (List Int))) ⊕ (((List (List Int))))) (hm : m_laws_toByteSS_9 p0 i9_0 l9_1 = some y) (Q : VX → St → Prop)
    (hin : ∀ s, y = .inl s → EvU ext tbl (.c c_laws_toByteSS_9) K_laws_toByteSS_9 (s_laws_toByteSS_9 p0 s.1 s.2) Q) (hout : ∀ e, y = .inr e → O_laws_toByteSS_9 Q e) : EvU ext tbl (.c c_laws_toByteSS_9) K_laws_toByteSS_9 (s_laws_toByteSS_9 p0 i9_0 l9_1) Q := by
  obtain ⟨h9_0, hm⟩ | ⟨h9_0, hm⟩ := split_ite hm
  · skip
    obtain ⟨x9_1, h9_1, hm⟩ := bind_some hm
    obtain ⟨x9_2, h9_2, hm⟩ := bind_some hm
    obtain ⟨x9_3, h9_3, hm⟩ := bind_some hm
    refine go_on (u' := .c c_laws_toByteSS_9) (K' := K_laws_toByteSS_9) (st' := s_laws_toByteSS_9 p0 (w64 (i9_0 + 1)) (l9_1.set (0 + Int.toNat i9_0) x9_2)) [.num p0.length, .bit true, .row ((rL (rI .u8)) x9_1), .res (res_laws_toByteS x9_2), .num x9_2.length, .rows (List.map (rI .u8) x9_2), .rows (List.map (rL (rI .u8)) (l9_1.set (0 + Int.toNat i9_0) x9_2)), .num ((l9_1.set (0 + Int.toNat i9_0) x9_2).length)] 1000 (And.intro (len_map (rL (rI .u8)) (show p0.length = p0.length from rfl)) (And.intro h9_0 (And.intro (rd_nn h9_1) (And.intro (at_row (rL (rI .u8)) (rd_get h9_1)) (And.intro (ok_laws_toByteS x9_1 x9_2 h9_2) (And.intro (len_map (rI .u8) (show x9_2.length = x9_2.length from rfl)) (And.intro (rd_in rfl h9_3) (And.intro (all_le0 (rI .u8) x9_2 rfl) (And.intro (all_t (rI .u8) x9_2 rfl) (And.intro (put_ob (rL (rI .u8)) x9_2 0 (.sl (x9_2.map (rI .u8))) (rd_get0 h9_3) (by kernel_rfl) (by kernel_rfl)) (And.intro (lens l9_1.length ((l9_1.set (0 + Int.toNat i9_0) x9_2).length) (set_len rfl)) True.intro))))))))))) ?_ (by kernel_rfl)
    exact hin ((w64 (i9_0 + 1)), (l9_1.set (0 + Int.toNat i9_0) x9_2)) (Option.some.inj hm).symm
  · skip
    refine go_on (u' := .c c_laws_toByteSS_19) (K' := K_laws_toByteSS_19) (st' := s_laws_toByteSS_19 l9_1) [.num p0.length, .bit false, .num l9_1.length] 1000 (And.intro (len_map (rL (rI .u8)) (show p0.length = p0.length from rfl)) (And.intro h9_0 (And.intro (lens l9_1.length l9_1.length rfl) True.intro))) ?_ (by kernel_rfl)
    exact hout l9_1 (Option.some.inj hm).symm

theorem ok_laws_toByteSS_0 (p0 : (List (List Int))) (r : (List (List Int))) (hm : m_laws_toByteSS_0 p0 = some r) : EvU ext tbl (.c c_laws_toByteSS_0) K_laws_toByteSS_0 (s_laws_toByteSS_0 p0) (Post vf_laws_toByteSS (res_laws_toByteSS r)) := by
  obtain ⟨x0_0, h0_0, hm⟩ := bind_some hm
  refine go_on (u' := .c c_laws_toByteSS_9) (K' := K_laws_toByteSS_9) (st' := s_laws_toByteSS_9 p0 0 (List.replicate (Int.toNat (p0.length : Int)) ([] : (List Int)))) [.num p0.length, .rows (List.map (rL (rI .u8)) (List.replicate (Int.toNat (p0.length : Int)) ([] : (List Int)))), .num (Int.toNat (p0.length : Int)), .num ((List.replicate (Int.toNat (p0.length : Int)) ([] : (List Int))).length)] 1000 (And.intro (len_map (rL (rI .u8)) (show p0.length = p0.length from rfl)) (And.intro (ck_p h0_0) (And.intro (rep_ob (rL (rI .u8)) (Int.toNat (p0.length : Int)) ([] : (List Int)) [.sl []] (by kernel_rfl)) (And.intro (len_map (rL (rI .u8)) (show (Int.toNat (p0.length : Int)) = (List.replicate (Int.toNat (p0.length : Int)) ([] : (List Int))).length from (rep_len (Int.toNat (p0.length : Int)) ([] : (List Int))))) (And.intro (lens (Int.toNat (p0.length : Int)) ((List.replicate (Int.toNat (p0.length : Int)) ([] : (List Int))).length) (rep_len (Int.toNat (p0.length : Int)) ([] : (List Int)))) True.intro))))) ?_ (by kernel_rfl)
  obtain ⟨e, he, hm⟩ := bind_some hm
  refine loop_rule (u := .c c_laws_toByteSS_9) (K := K_laws_toByteSS_9) (Q := (Post vf_laws_toByteSS (res_laws_toByteSS r))) (b := lp_laws_toByteSS_9 p0) (We := O_laws_toByteSS_9 (Post vf_laws_toByteSS (res_laws_toByteSS r))) (stJ := fun s => s_laws_toByteSS_9 p0 s.1 s.2) (s := (0, (List.replicate (Int.toNat (p0.length : Int)) ([] : (List Int))))) (fun s y hb hin hout => ok_laws_toByteSS_9 p0 s.1 s.2 y hb (Post vf_laws_toByteSS (res_laws_toByteSS r)) hin hout) he ?_
  show EvU ext tbl (.c c_laws_toByteSS_19) K_laws_toByteSS_19 (s_laws_toByteSS_19 e) _
  exact ok_laws_toByteSS_19 e r hm

theorem ok_laws_toByteSS (p0 : (List (List Int))) (r : (List (List Int))) (hm : m_laws_toByteSS p0 = some r) : Runs ext tbl 114 (as_laws_toByteSS p0) (res_laws_toByteSS r) :=
  runs_of (vf := vf_laws_toByteSS) (by kernel_rfl) rfl (st := (enter vf_laws_toByteSS (as_laws_toByteSS p0)).getD default) (by kernel_rfl) (go_on [] 1000 True.intro (ok_laws_toByteSS_0 p0 r hm) (by kernel_rfl))
theorem ok_laws_toPiled_0 (p0 : S_Piled) (r : S_Piled) (hm : m_laws_toPiled_0 p0 = some r) : EvU ext tbl (.c c_laws_toPiled_0) K_laws_toPiled_0 (s_laws_toPiled_0 p0) (Post vf_laws_toPiled (res_laws_toPiled r)) := by
  obtain ⟨x0_0, h0_0, hm⟩ := bind_some hm
  obtain ⟨x0_1, h0_1, hm⟩ := bind_some hm
  obtain ⟨x0_2, h0_2, hm⟩ := bind_some hm
  exact go_end [.res (res_laws_toBoolS x0_0), .num x0_0.length, .res (res_laws_toIntS x0_1), .num x0_1.length, .res (res_laws_toByteSS x0_2), .num x0_2.length, .rows (List.map rB x0_0), .rows (List.map (rI .i64) x0_1), .rows (List.map (rL (rI .u8)) x0_2)] 1000 (And.intro (ok_laws_toBoolS p0.keys x0_0 h0_0) (And.intro (len_map rB (show x0_0.length = x0_0.length from rfl)) (And.intro (ok_laws_toIntS p0.steps x0_1 h0_1) (And.intro (len_map (rI .i64) (show x0_1.length = x0_1.length from rfl)) (And.intro (ok_laws_toByteSS p0.parts x0_2 h0_2) (And.intro (len_map (rL (rI .u8)) (show x0_2.length = x0_2.length from rfl)) (And.intro (all_le0 rB x0_0 rfl) (And.intro (all_t rB x0_0 rfl) (And.intro (all_le0 (rI .i64) x0_1 rfl) (And.intro (all_t (rI .i64) x0_1 rfl) (And.intro (all_le0 (rL (rI .u8)) x0_2 rfl) (And.intro (all_t (rL (rI .u8)) x0_2 rfl) True.intro)))))))))))) (congrArg res_laws_toPiled (Option.some.inj hm)) (by kernel_rfl)

theorem ok_laws_toPiled (p0 : S_Piled) (r : S_Piled) (hm : m_laws_toPiled p0 = some r) : Runs ext tbl 32 (as_laws_toPiled p0) (res_laws_toPiled r) :=
  runs_of (vf := vf_laws_toPiled) (by kernel_rfl) rfl (st := (enter vf_laws_toPiled (as_laws_toPiled p0)).getD default) (by kernel_rfl) (go_on [] 1000 True.intro (ok_laws_toPiled_0 p0 r hm) (by kernel_rfl))
theorem ok_spec_l14Sides_0 (p0 : Int) (p1 : Int) (r : Bool) (hm : m_spec_l14Sides_0 p0 p1 = some r) : EvU ext tbl (.c c_spec_l14Sides_0) K_spec_l14Sides_0 (s_spec_l14Sides_0 p0 p1) (Post vf_spec_l14Sides (res_spec_l14Sides r)) := by
  obtain ⟨h0_0, hm⟩ | ⟨h0_0, hm⟩ := split_ite hm
  · skip
    obtain ⟨h0_1, hm⟩ | ⟨h0_1, hm⟩ := split_ite hm
    · skip
      obtain ⟨h0_2, hm⟩ | ⟨h0_2, hm⟩ := split_ite hm
      · skip
        obtain ⟨h0_3, hm⟩ | ⟨h0_3, hm⟩ := split_ite hm
        · skip
          obtain ⟨h0_4, hm⟩ | ⟨h0_4, hm⟩ := split_ite hm
          · skip
            exact go_end [.bit true, .bit true, .bit true, .bit true, .bit true, .bit true, .bit true, .bit true, .bit true, .bit true, .bit true, .bit true, .bit true, .bit true, .bit true, .bit true] 1000 (And.intro (by decide : (8 : Int) ≠ 0) (And.intro h0_0 (And.intro h0_0 (And.intro (by decide : (8 : Int) ≠ 0) (And.intro h0_0 (And.intro h0_0 (And.intro h0_1 (And.intro h0_1 (And.intro h0_1 (And.intro h0_2 (And.intro h0_2 (And.intro h0_2 (And.intro h0_3 (And.intro h0_3 (And.intro h0_3 (And.intro h0_4 (And.intro h0_4 (And.intro h0_4 True.intro)))))))))))))))))) (congrArg res_spec_l14Sides (Option.some.inj hm)) (by kernel_rfl)
          · skip
            exact go_end [.bit true, .bit true, .bit true, .bit true, .bit true, .bit true, .bit true, .bit true, .bit true, .bit true, .bit true, .bit true, .bit true, .bit false, .bit false, .bit false] 1000 (And.intro (by decide : (8 : Int) ≠ 0) (And.intro h0_0 (And.intro h0_0 (And.intro (by decide : (8 : Int) ≠ 0) (And.intro h0_0 (And.intro h0_0 (And.intro h0_1 (And.intro h0_1 (And.intro h0_1 (And.intro h0_2 (And.intro h0_2 (And.intro h0_2 (And.intro h0_3 (And.intro h0_3 (And.intro h0_3 (And.intro h0_4 (And.intro h0_4 (And.intro h0_4 True.intro)))))))))))))))))) (congrArg res_spec_l14Sides (Option.some.inj hm)) (by kernel_rfl)
        · skip
          exact go_end [.bit true, .bit true, .bit true, .bit true, .bit true, .bit true, .bit true, .bit true, .bit true, .bit true, .bit false, .bit false, .bit false, .bit false, .bit false, .bit false] 1000 (And.intro (by decide : (8 : Int) ≠ 0) (And.intro h0_0 (And.intro h0_0 (And.intro (by decide : (8 : Int) ≠ 0) (And.intro h0_0 (And.intro h0_0 (And.intro h0_1 (And.intro h0_1 (And.intro h0_1 (And.intro h0_2 (And.intro h0_2 (And.intro h0_2 (And.intro h0_3 (And.intro h0_3 (And.intro h0_3 (And.intro (Eq.refl false) (And.intro (Eq.refl false) (And.intro (Eq.refl false) True.intro)))))))))))))))))) (congrArg res_spec_l14Sides (Option.some.inj hm)) (by kernel_rfl)
      · skip
        exact go_end [.bit true, .bit true, .bit true, .bit true, .bit true, .bit true, .bit true, .bit false, .bit false, .bit false, .bit false, .bit false, .bit false, .bit false, .bit false, .bit false] 1000 (And.intro (by decide : (8 : Int) ≠ 0) (And.intro h0_0 (And.intro h0_0 (And.intro (by decide : (8 : Int) ≠ 0) (And.intro h0_0 (And.intro h0_0 (And.intro h0_1 (And.intro h0_1 (And.intro h0_1 (And.intro h0_2 (And.intro h0_2 (And.intro h0_2 (And.intro (Eq.refl false) (And.intro (Eq.refl false) (And.intro (Eq.refl false) (And.intro (Eq.refl false) (And.intro (Eq.refl false) (And.intro (Eq.refl false) True.intro)))))))))))))))))) (congrArg res_spec_l14Sides (Option.some.inj hm)) (by kernel_rfl)
    · skip
      exact go_end [.bit true, .bit true, .bit true, .bit true, .bit false, .bit false, .bit false, .bit false, .bit false, .bit false, .bit false, .bit false, .bit false, .bit false, .bit false, .bit false] 1000 (And.intro (by decide : (8 : Int) ≠ 0) (And.intro h0_0 (And.intro h0_0 (And.intro (by decide : (8 : Int) ≠ 0) (And.intro h0_0 (And.intro h0_0 (And.intro h0_1 (And.intro h0_1 (And.intro h0_1 (And.intro (Eq.refl false) (And.intro (Eq.refl false) (And.intro (Eq.refl false) (And.intro (Eq.refl false) (And.intro (Eq.refl false) (And.intro (Eq.refl false) (And.intro (Eq.refl false) (And.intro (Eq.refl false) (And.intro (Eq.refl false) True.intro)))))))))))))))))) (congrArg res_spec_l14Sides (Option.some.inj hm)) (by kernel_rfl)
  · skip
    exact go_end [.bit false, .bit false, .bit false, .bit false, .bit false, .bit false, .bit false, .bit false, .bit false, .bit false, .bit false, .bit false, .bit false, .bit false, .bit false, .bit false] 1000 (And.intro (by decide : (8 : Int) ≠ 0) (And.intro h0_0 (And.intro h0_0 (And.intro h0_0 (And.intro h0_0 (And.intro (Eq.refl false) (And.intro (Eq.refl false) (And.intro (Eq.refl false) (And.intro (Eq.refl false) (And.intro (Eq.refl false) (And.intro (Eq.refl false) (And.intro (Eq.refl false) (And.intro (Eq.refl false) (And.intro (Eq.refl false) (And.intro (Eq.refl false) (And.intro (Eq.refl false) (And.intro (Eq.refl false) True.intro))))))))))))))))) (congrArg res_spec_l14Sides (Option.some.inj hm)) (by kernel_rfl)

theorem ok_spec_l14Sides (p0 : Int) (p1 : Int) (r : Bool) (hm : m_spec_l14Sides p0 p1 = some r) : Runs ext tbl 110 (as_spec_l14Sides p0 p1) (res_spec_l14Sides r) :=
  runs_of (vf := vf_spec_l14Sides) (by kernel_rfl) rfl (st := (enter vf_spec_l14Sides (as_spec_l14Sides p0 p1)).getD default) (by kernel_rfl) (go_on [] 1000 True.intro (ok_spec_l14Sides_0 p0 p1 r hm) (by kernel_rfl))
theorem ok_spec_l14Mark_0 (p0 : Int) (p1 : Int) (r : (List Int)) (hm : m_spec_l14Mark_0 p0 p1 = some r) : EvU ext tbl (.c c_spec_l14Mark_0) K_spec_l14Mark_0 (s_spec_l14Mark_0 p0 p1) (Post vf_spec_l14Mark (res_spec_l14Mark r)) := by
  exact go_end [.rows (List.map (rI .u8) ([86, 73, 68, 49, (wr .u8 (w64 (Int.tdiv p0 8))), (wr .u8 (w64 (Int.tdiv p1 8)))] : List Int)), .num 6, .rows (List.map (rI .u8) ([86, 73, 68, 49, (wr .u8 (w64 (Int.tdiv p0 8))), (wr .u8 (w64 (Int.tdiv p1 8)))] : List Int))] 1000 (And.intro (by decide : (8 : Int) ≠ 0) (And.intro (by decide : (8 : Int) ≠ 0) (And.intro (Eq.refl (List.map (rI .u8) ([86, 73, 68, 49, (wr .u8 (w64 (Int.tdiv p0 8))), (wr .u8 (w64 (Int.tdiv p1 8)))] : List Int))) (And.intro (len_map (rI .u8) (show 6 = ([86, 73, 68, 49, (wr .u8 (w64 (Int.tdiv p0 8))), (wr .u8 (w64 (Int.tdiv p1 8)))] : List Int).length from rfl)) (And.intro (all_le0 (rI .u8) ([86, 73, 68, 49, (wr .u8 (w64 (Int.tdiv p0 8))), (wr .u8 (w64 (Int.tdiv p1 8)))] : List Int) rfl) (And.intro (all_t (rI .u8) ([86, 73, 68, 49, (wr .u8 (w64 (Int.tdiv p0 8))), (wr .u8 (w64 (Int.tdiv p1 8)))] : List Int) rfl) True.intro)))))) (congrArg res_spec_l14Mark (Option.some.inj hm)) (by kernel_rfl)

theorem ok_spec_l14Mark (p0 : Int) (p1 : Int) (r : (List Int)) (hm : m_spec_l14Mark p0 p1 = some r) : Runs ext tbl 111 (as_spec_l14Mark p0 p1) (res_spec_l14Mark r) :=
  runs_of (vf := vf_spec_l14Mark) (by kernel_rfl) rfl (st := (enter vf_spec_l14Mark (as_spec_l14Mark p0 p1)).getD default) (by kernel_rfl) (go_on [] 1000 True.intro (ok_spec_l14Mark_0 p0 p1 r hm) (by kernel_rfl))
theorem ok_spec_l3Four_0 (p0 : Int) (r : (List Int)) (hm : m_spec_l3Four_0 p0 = some r) : EvU ext tbl (.c c_spec_l3Four_0) K_spec_l3Four_0 (s_spec_l3Four_0 p0) (Post vf_spec_l3Four (res_spec_l3Four r)) := by
  exact go_end [.rows (List.map (rI .u8) ([(wr .u8 (shrI .u32 p0 24)), (wr .u8 (shrI .u32 p0 16)), (wr .u8 (shrI .u32 p0 8)), (wr .u8 p0)] : List Int)), .num 4, .rows (List.map (rI .u8) ([(wr .u8 (shrI .u32 p0 24)), (wr .u8 (shrI .u32 p0 16)), (wr .u8 (shrI .u32 p0 8)), (wr .u8 p0)] : List Int))] 1000 (And.intro (by decide : (0 : Int) ≤ 24) (And.intro (by decide : (0 : Int) ≤ 16) (And.intro (by decide : (0 : Int) ≤ 8) (And.intro (Eq.refl (List.map (rI .u8) ([(wr .u8 (shrI .u32 p0 24)), (wr .u8 (shrI .u32 p0 16)), (wr .u8 (shrI .u32 p0 8)), (wr .u8 p0)] : List Int))) (And.intro (len_map (rI .u8) (show 4 = ([(wr .u8 (shrI .u32 p0 24)), (wr .u8 (shrI .u32 p0 16)), (wr .u8 (shrI .u32 p0 8)), (wr .u8 p0)] : List Int).length from rfl)) (And.intro (all_le0 (rI .u8) ([(wr .u8 (shrI .u32 p0 24)), (wr .u8 (shrI .u32 p0 16)), (wr .u8 (shrI .u32 p0 8)), (wr .u8 p0)] : List Int) rfl) (And.intro (all_t (rI .u8) ([(wr .u8 (shrI .u32 p0 24)), (wr .u8 (shrI .u32 p0 16)), (wr .u8 (shrI .u32 p0 8)), (wr .u8 p0)] : List Int) rfl) True.intro))))))) (congrArg res_spec_l3Four (Option.some.inj hm)) (by kernel_rfl)

theorem ok_spec_l3Four (p0 : Int) (r : (List Int)) (hm : m_spec_l3Four p0 = some r) : Runs ext tbl 174 (as_spec_l3Four p0) (res_spec_l3Four r) :=
  runs_of (vf := vf_spec_l3Four) (by kernel_rfl) rfl (st := (enter vf_spec_l3Four (as_spec_l3Four p0)).getD default) (by kernel_rfl) (go_on [] 1000 True.intro (ok_spec_l3Four_0 p0 r hm) (by kernel_rfl))
def O_spec_Crc_25 (p0 : (List Int)) (i9_1 : Int) (Q : VX → St → Prop) (e : (Int)) : Prop := EvU ext tbl (.c c_spec_Crc_43) K_spec_Crc_43 (s_spec_Crc_43 p0 i9_1 e) Q
def O_spec_Crc_9 (Q : VX → St → Prop) (e : (Int)) : Prop := EvU ext tbl (.c c_spec_Crc_44) K_spec_Crc_44 (s_spec_Crc_44 e) Q
theorem ok_spec_Crc_43 (p0 : (List Int)) (i9_1 : Int) (i43_0 : Int) (y : (Int × Int) ⊕ ((Int))) (hm : m_spec_Crc_43 p0 i9_1 i43_0 = some y) (Q : VX → St → Prop)
    (hin : ∀ s, y = .inl s → EvU ext tbl (.c c_spec_Crc_9) K_spec_Crc_9 (s_spec_Crc_9 p0 s.1 s.2) Q) (hout : ∀ e, y = .inr e → O_spec_Crc_9 Q e) : EvU ext tbl (.c c_spec_Crc_43) K_spec_Crc_43 (s_spec_Crc_43 p0 i9_1 i43_0) Q := by
  refine go_on (u' := .c c_spec_Crc_9) (K' := K_spec_Crc_9) (st' := s_spec_Crc_9 p0 i43_0 (w64 (i9_1 + 1))) [] 1000 True.intro ?_ (by kernel_rfl)
  exact hin (i43_0, (w64 (i9_1 + 1))) (Option.some.inj hm).symm

theorem ok_spec_Crc_25 (p0 : (List Int)) (i9_1 : Int) (i25_0 : Int) (i25_1 : Int) (y : (Int × Int) ⊕ ((Int))) (hm : m_spec_Crc_25 p0 i9_1 i25_0 i25_1 = some y) (Q : VX → St → Prop)
    (hin : ∀ s, y = .inl s → EvU ext tbl (.c c_spec_Crc_25) K_spec_Crc_25 (s_spec_Crc_25 p0 i9_1 s.1 s.2) Q) (hout : ∀ e, y = .inr e → O_spec_Crc_25 p0 i9_1 Q e) : EvU ext tbl (.c c_spec_Crc_25) K_spec_Crc_25 (s_spec_Crc_25 p0 i9_1 i25_0 i25_1) Q := by
  obtain ⟨h25_0, hm⟩ | ⟨h25_0, hm⟩ := split_ite hm
  · skip
    obtain ⟨h25_1, hm⟩ | ⟨h25_1, hm⟩ := split_ite hm
    · skip
      refine go_on (u' := .c c_spec_Crc_25) (K' := K_spec_Crc_25) (st' := s_spec_Crc_25 p0 i9_1 (xorI .u32 (shrI .u32 i25_0 1) 3988292384) (w64 (i25_1 + 1))) [.bit true, .bit true] 1000 (And.intro h25_0 (And.intro (by decide : (0 : Int) ≤ 1) (And.intro h25_1 True.intro))) ?_ (by kernel_rfl)
      exact hin ((xorI .u32 (shrI .u32 i25_0 1) 3988292384), (w64 (i25_1 + 1))) (Option.some.inj hm).symm
    · skip
      refine go_on (u' := .c c_spec_Crc_25) (K' := K_spec_Crc_25) (st' := s_spec_Crc_25 p0 i9_1 (shrI .u32 i25_0 1) (w64 (i25_1 + 1))) [.bit true, .bit false] 1000 (And.intro h25_0 (And.intro (by decide : (0 : Int) ≤ 1) (And.intro h25_1 True.intro))) ?_ (by kernel_rfl)
      exact hin ((shrI .u32 i25_0 1), (w64 (i25_1 + 1))) (Option.some.inj hm).symm
  · skip
    refine go_on (u' := .c c_spec_Crc_43) (K' := K_spec_Crc_43) (st' := s_spec_Crc_43 p0 i9_1 i25_0) [.bit false] 1000 (And.intro h25_0 True.intro) ?_ (by kernel_rfl)
    exact hout i25_0 (Option.some.inj hm).symm

theorem ok_spec_Crc_44 (i44_0 : Int) (r : Int) (hm : m_spec_Crc_44 i44_0 = some r) : EvU ext tbl (.c c_spec_Crc_44) K_spec_Crc_44 (s_spec_Crc_44 i44_0) (Post vf_spec_Crc (res_spec_Crc r)) := by
  exact go_end [] 1000 True.intro (congrArg res_spec_Crc (Option.some.inj hm)) (by kernel_rfl)

theorem ok_spec_Crc_9 (p0 : (List Int)) (i9_0 : Int) (i9_1 : Int) (y : (Int × Int) ⊕ ((Int))) (hm : m_spec_Crc_9 p0 i9_0 i9_1 = some y) (Q : VX → St → Prop)
    (hin : ∀ s, y = .inl s → EvU ext tbl (.c c_spec_Crc_9) K_spec_Crc_9 (s_spec_Crc_9 p0 s.1 s.2) Q) (hout : ∀ e, y = .inr e → O_spec_Crc_9 Q e) : EvU ext tbl (.c c_spec_Crc_9) K_spec_Crc_9 (s_spec_Crc_9 p0 i9_0 i9_1) Q := by
  obtain ⟨h9_0, hm⟩ | ⟨h9_0, hm⟩ := split_ite hm
  · skip
    obtain ⟨x9_1, h9_1, hm⟩ := bind_some hm
    refine go_on (u' := .c c_spec_Crc_25) (K' := K_spec_Crc_25) (st' := s_spec_Crc_25 p0 i9_1 (xorI .u32 i9_0 (wr .u32 x9_1)) 0) [.bit true, .row ((rI .u8) x9_1)] 1000 (And.intro h9_0 (And.intro (rd_nn h9_1) (And.intro (at_row (rI .u8) (rd_get h9_1)) True.intro))) ?_ (by kernel_rfl)
    obtain ⟨e, he, hm⟩ := bind_some hm
    refine loop_rule (u := .c c_spec_Crc_25) (K := K_spec_Crc_25) (Q := Q) (b := lp_spec_Crc_25 p0 i9_1) (We := O_spec_Crc_25 p0 i9_1 Q) (stJ := fun s => s_spec_Crc_25 p0 i9_1 s.1 s.2) (s := ((xorI .u32 i9_0 (wr .u32 x9_1)), 0)) (fun s y hb hin hout => ok_spec_Crc_25 p0 i9_1 s.1 s.2 y hb Q hin hout) he ?_
    show EvU ext tbl (.c c_spec_Crc_43) K_spec_Crc_43 (s_spec_Crc_43 p0 i9_1 e) _
    exact ok_spec_Crc_43 p0 i9_1 e y hm Q hin hout
  · skip
    refine go_on (u' := .c c_spec_Crc_44) (K' := K_spec_Crc_44) (st' := s_spec_Crc_44 i9_0) [.bit false] 1000 (And.intro h9_0 True.intro) ?_ (by kernel_rfl)
    exact hout i9_0 (Option.some.inj hm).symm

theorem ok_spec_Crc_0 (p0 : (List Int)) (r : Int) (hm : m_spec_Crc_0 p0 = some r) : EvU ext tbl (.c c_spec_Crc_0) K_spec_Crc_0 (s_spec_Crc_0 p0) (Post vf_spec_Crc (res_spec_Crc r)) := by
  refine go_on (u' := .c c_spec_Crc_9) (K' := K_spec_Crc_9) (st' := s_spec_Crc_9 p0 4294967295 0) [.num p0.length] 1000 (And.intro (len_map (rI .u8) (show p0.length = p0.length from rfl)) True.intro) ?_ (by kernel_rfl)
  obtain ⟨e, he, hm⟩ := bind_some hm
  refine loop_rule (u := .c c_spec_Crc_9) (K := K_spec_Crc_9) (Q := (Post vf_spec_Crc (res_spec_Crc r))) (b := lp_spec_Crc_9 p0) (We := O_spec_Crc_9 (Post vf_spec_Crc (res_spec_Crc r))) (stJ := fun s => s_spec_Crc_9 p0 s.1 s.2) (s := (4294967295, 0)) (fun s y hb hin hout => ok_spec_Crc_9 p0 s.1 s.2 y hb (Post vf_spec_Crc (res_spec_Crc r)) hin hout) he ?_
  show EvU ext tbl (.c c_spec_Crc_44) K_spec_Crc_44 (s_spec_Crc_44 e) _
  exact ok_spec_Crc_44 e r hm

theorem ok_spec_Crc (p0 : (List Int)) (r : Int) (hm : m_spec_Crc p0 = some r) : Runs ext tbl 175 (as_spec_Crc p0) (res_spec_Crc r) :=
  runs_of (vf := vf_spec_Crc) (by kernel_rfl) rfl (st := (enter vf_spec_Crc (as_spec_Crc p0)).getD default) (by kernel_rfl) (go_on [] 1000 True.intro (ok_spec_Crc_0 p0 r hm) (by kernel_rfl))
theorem ok_spec_l14Part_10 (p2 : (List Int)) (i10_0 : Int) (r : (List Int)) (hm : m_spec_l14Part_10 p2 i10_0 = some r) : EvU ext tbl (.c c_spec_l14Part_10) K_spec_l14Part_10 (s_spec_l14Part_10 p2 i10_0) (Post vf_spec_l14Part (res_spec_l14Part r)) := by
  obtain ⟨x10_0, h10_0, hm⟩ := bind_some hm
  obtain ⟨x10_1, h10_1, hm⟩ := bind_some hm
  obtain ⟨x10_2, h10_2, hm⟩ := bind_some hm
  obtain ⟨x10_3, h10_3, hm⟩ := bind_some hm
  obtain ⟨x10_4, h10_4, hm⟩ := bind_some hm
  obtain ⟨x10_5, h10_5, hm⟩ := bind_some hm
  exact go_end [.rows (List.map (rI .u8) ([i10_0] : List Int)), .num 1, .num p2.length, .res (res_spec_l3Four x10_0), .num x10_0.length, .rows (List.map (rI .u8) (([i10_0] : List Int) ++ x10_0)), .num ((([i10_0] : List Int) ++ x10_0).length), .rows (List.map (rI .u8) ((([i10_0] : List Int) ++ x10_0) ++ p2)), .num (((([i10_0] : List Int) ++ x10_0) ++ p2).length), .rows (List.map (rI .u8) ((([i10_0] : List Int) ++ x10_0) ++ p2)), .res (res_spec_Crc x10_3), .res (res_spec_l3Four x10_4), .num x10_4.length, .rows (List.map (rI .u8) (((([i10_0] : List Int) ++ x10_0) ++ p2) ++ x10_4)), .num ((((([i10_0] : List Int) ++ x10_0) ++ p2) ++ x10_4).length), .rows (List.map (rI .u8) (((([i10_0] : List Int) ++ x10_0) ++ p2) ++ x10_4))] 1000 (And.intro (Eq.refl (List.map (rI .u8) ([i10_0] : List Int))) (And.intro (len_map (rI .u8) (show 1 = ([i10_0] : List Int).length from rfl)) (And.intro (len_map (rI .u8) (show p2.length = p2.length from rfl)) (And.intro (ok_spec_l3Four (wr .u32 (p2.length : Int)) x10_0 h10_0) (And.intro (len_map (rI .u8) (show x10_0.length = x10_0.length from rfl)) (And.intro (all_le (rI .u8) x10_0 rfl) (And.intro (app_ck (rI .u8) ([i10_0] : List Int) x10_0 rfl rfl h10_1) (And.intro (app_tell (rI .u8) ([i10_0] : List Int) x10_0 rfl rfl) (And.intro (len_map (rI .u8) (show (([i10_0] : List Int) ++ x10_0).length = (([i10_0] : List Int) ++ x10_0).length from rfl)) (And.intro (app_ck_ro (rI .u8) (([i10_0] : List Int) ++ x10_0) p2 rfl h10_2) (And.intro (app_tell_ro (rI .u8) (([i10_0] : List Int) ++ x10_0) p2 rfl) (And.intro (len_map (rI .u8) (show ((([i10_0] : List Int) ++ x10_0) ++ p2).length = ((([i10_0] : List Int) ++ x10_0) ++ p2).length from rfl)) (And.intro (all_le (rI .u8) ((([i10_0] : List Int) ++ x10_0) ++ p2) rfl) (And.intro (all_dt (rI .u8) ((([i10_0] : List Int) ++ x10_0) ++ p2) rfl) (And.intro (ok_spec_Crc ((([i10_0] : List Int) ++ x10_0) ++ p2) x10_3 h10_3) (And.intro (ok_spec_l3Four x10_3 x10_4 h10_4) (And.intro (len_map (rI .u8) (show x10_4.length = x10_4.length from rfl)) (And.intro (all_le (rI .u8) x10_4 rfl) (And.intro (app_ck (rI .u8) ((([i10_0] : List Int) ++ x10_0) ++ p2) x10_4 rfl rfl h10_5) (And.intro (app_tell (rI .u8) ((([i10_0] : List Int) ++ x10_0) ++ p2) x10_4 rfl rfl) (And.intro (len_map (rI .u8) (show (((([i10_0] : List Int) ++ x10_0) ++ p2) ++ x10_4).length = (((([i10_0] : List Int) ++ x10_0) ++ p2) ++ x10_4).length from rfl)) (And.intro (all_le0 (rI .u8) (((([i10_0] : List Int) ++ x10_0) ++ p2) ++ x10_4) rfl) (And.intro (all_t (rI .u8) (((([i10_0] : List Int) ++ x10_0) ++ p2) ++ x10_4) rfl) True.intro))))))))))))))))))))))) (congrArg res_spec_l14Part (Option.some.inj hm)) (by kernel_rfl)

theorem ok_spec_l14Part_0 (p0 : Int) (p1 : Bool) (p2 : (List Int)) (r : (List Int)) (hm : m_spec_l14Part_0 p0 p1 p2 = some r) : EvU ext tbl (.c c_spec_l14Part_0) K_spec_l14Part_0 (s_spec_l14Part_0 p0 p1 p2) (Post vf_spec_l14Part (res_spec_l14Part r)) := by
  obtain ⟨h0_0, hm⟩ | ⟨h0_0, hm⟩ := split_ite hm
  · skip
    refine go_on (u' := .c c_spec_l14Part_10) (K' := K_spec_l14Part_10) (st' := s_spec_l14Part_10 p2 (wr .u8 ((wr .u8 p0) + 128))) [.bit true] 1000 (And.intro h0_0 True.intro) ?_ (by kernel_rfl)
    exact ok_spec_l14Part_10 p2 (wr .u8 ((wr .u8 p0) + 128)) r hm
  · skip
    refine go_on (u' := .c c_spec_l14Part_10) (K' := K_spec_l14Part_10) (st' := s_spec_l14Part_10 p2 (wr .u8 p0)) [.bit false] 1000 (And.intro h0_0 True.intro) ?_ (by kernel_rfl)
    exact ok_spec_l14Part_10 p2 (wr .u8 p0) r hm

theorem ok_spec_l14Part (p0 : Int) (p1 : Bool) (p2 : (List Int)) (r : (List Int)) (hm : m_spec_l14Part p0 p1 p2 = some r) : Runs ext tbl 112 (as_spec_l14Part p0 p1 p2) (res_spec_l14Part r) :=
  runs_of (vf := vf_spec_l14Part) (by kernel_rfl) rfl (st := (enter vf_spec_l14Part (as_spec_l14Part p0 p1 p2)).getD default) (by kernel_rfl) (go_on [] 1000 True.intro (ok_spec_l14Part_0 p0 p1 p2 r hm) (by kernel_rfl))
def O_spec_WriteParts_25 (Q : VX → St → Prop) (e : (((List Int))) ⊕ (((List Int)))) : Prop := match e with | .inl e => Q = Post vf_spec_WriteParts (res_spec_WriteParts e) | .inr e => EvU ext tbl (.c c_spec_WriteParts_45) K_spec_WriteParts_45 (s_spec_WriteParts_45 e) Q
theorem ok_spec_WriteParts_45 (l45_0 : (List Int)) (r : (List Int)) (hm : m_spec_WriteParts_45 l45_0 = some r) : EvU ext tbl (.c c_spec_WriteParts_45) K_spec_WriteParts_45 (s_spec_WriteParts_45 l45_0) (Post vf_spec_WriteParts (res_spec_WriteParts r)) := by
  exact go_end [.rows (List.map (rI .u8) l45_0)] 1000 (And.intro (all_le0 (rI .u8) l45_0 rfl) (And.intro (all_t (rI .u8) l45_0 rfl) True.intro)) (congrArg res_spec_WriteParts (Option.some.inj hm)) (by kernel_rfl)

theorem ok_spec_WriteParts_25 (p0 : S_Piled) (i25_0 : Int) (l25_1 : (List Int)) (y : (Int × (List Int)) ⊕ ((((List Int))) ⊕ (((List Int))))) (hm : m_spec_WriteParts_25 p0 i25_0 l25_1 = some y) (Q : VX → St → Prop)
    (hin : ∀ s, y = .inl s → EvU ext tbl (.c c_spec_WriteParts_25) K_spec_WriteParts_25 (s_spec_WriteParts_25 p0 s.1 s.2) Q) (hout : ∀ e, y = .inr e → O_spec_WriteParts_25 Q e) : EvU ext tbl (.c c_spec_WriteParts_25) K_spec_WriteParts_25 (s_spec_WriteParts_25 p0 i25_0 l25_1) Q := by
  obtain ⟨h25_0, hm⟩ | ⟨h25_0, hm⟩ := split_ite hm
  · skip
    obtain ⟨x25_1, h25_1, hm⟩ := bind_some hm
    obtain ⟨h25_2, hm⟩ | ⟨h25_2, hm⟩ := split_ite hm
    · skip
      have hQ : Q = Post vf_spec_WriteParts (res_spec_WriteParts ([] : List Int)) := hout (.inl ([] : List Int)) (Option.some.inj hm).symm
      subst hQ
      exact go_end [.bit true, .row ((rI .i64) x25_1), .bit true, .bit true, .bit true, .bit true, .bit true, .bit true, .bit true, .bit true, .bit true, .bit true, .bit true, .bit true, .bit true, .bit true, .bit true, .bit true, .bit true, .bit true, .bit true, .bit true, .rows (List.map (rI .u8) ([] : List Int))] 1000 (And.intro h25_0 (And.intro (rd_nn h25_1) (And.intro (at_row (rI .i64) (rd_get h25_1)) (And.intro h25_2 (And.intro h25_2 (And.intro h25_2 (And.intro h25_2 (And.intro h25_2 (And.intro h25_2 (And.intro h25_2 (And.intro (Eq.refl true) (And.intro (Eq.refl true) (And.intro (Eq.refl true) (And.intro (Eq.refl true) (And.intro (Eq.refl true) (And.intro (Eq.refl true) (And.intro (Eq.refl true) (And.intro (Eq.refl true) (And.intro (Eq.refl true) (And.intro (Eq.refl true) (And.intro (Eq.refl true) (And.intro (Eq.refl true) (And.intro (Eq.refl true) (And.intro (all_le0 (rI .u8) ([] : List Int) rfl) (And.intro (all_t (rI .u8) ([] : List Int) rfl) True.intro))))))))))))))))))))))))) (rfl : res_spec_WriteParts ([] : List Int) = res_spec_WriteParts ([] : List Int)) (by kernel_rfl)
    · skip
      obtain ⟨h25_3, hm⟩ | ⟨h25_3, hm⟩ := split_ite hm
      · skip
        have hQ : Q = Post vf_spec_WriteParts (res_spec_WriteParts ([] : List Int)) := hout (.inl ([] : List Int)) (Option.some.inj hm).symm
        subst hQ
        exact go_end [.bit true, .row ((rI .i64) x25_1), .bit false, .bit false, .bit false, .bit false, .row ((rI .i64) x25_1), .bit false, .bit false, .bit false, .bit true, .bit true, .bit true, .bit true, .bit true, .bit true, .bit true, .bit true, .bit true, .bit true, .bit true, .bit true, .bit true, .rows (List.map (rI .u8) ([] : List Int))] 1000 (And.intro h25_0 (And.intro (rd_nn h25_1) (And.intro (at_row (rI .i64) (rd_get h25_1)) (And.intro h25_2 (And.intro h25_2 (And.intro h25_2 (And.intro h25_2 (And.intro (rd_nn h25_1) (And.intro (at_row (rI .i64) (rd_get h25_1)) (And.intro h25_2 (And.intro h25_2 (And.intro h25_2 (And.intro h25_3 (And.intro h25_3 (And.intro h25_3 (And.intro h25_3 (And.intro h25_3 (And.intro h25_3 (And.intro h25_3 (And.intro h25_3 (And.intro h25_3 (And.intro h25_3 (And.intro h25_3 (And.intro h25_3 (And.intro (Eq.refl true) (And.intro (all_le0 (rI .u8) ([] : List Int) rfl) (And.intro (all_t (rI .u8) ([] : List Int) rfl) True.intro))))))))))))))))))))))))))) (rfl : res_spec_WriteParts ([] : List Int) = res_spec_WriteParts ([] : List Int)) (by kernel_rfl)
      · skip
        obtain ⟨x25_4, h25_4, hm⟩ := bind_some hm
        obtain ⟨h25_5, hm⟩ | ⟨h25_5, hm⟩ := split_ite hm
        · skip
          have hQ : Q = Post vf_spec_WriteParts (res_spec_WriteParts ([] : List Int)) := hout (.inl ([] : List Int)) (Option.some.inj hm).symm
          subst hQ
          exact go_end [.bit true, .row ((rI .i64) x25_1), .bit false, .bit false, .bit false, .bit false, .row ((rI .i64) x25_1), .bit false, .bit false, .bit false, .bit false, .bit false, .bit false, .bit false, .bit false, .bit false, .row ((rL (rI .u8)) x25_4), .bit false, .bit false, .num x25_4.length, .bit false, .bit false, .bit false, .bit false, .bit true, .rows (List.map (rI .u8) ([] : List Int))] 1000 (And.intro h25_0 (And.intro (rd_nn h25_1) (And.intro (at_row (rI .i64) (rd_get h25_1)) (And.intro h25_2 (And.intro h25_2 (And.intro h25_2 (And.intro h25_2 (And.intro (rd_nn h25_1) (And.intro (at_row (rI .i64) (rd_get h25_1)) (And.intro h25_2 (And.intro h25_2 (And.intro h25_2 (And.intro h25_3 (And.intro h25_3 (And.intro h25_3 (And.intro h25_3 (And.intro h25_3 (And.intro h25_3 (And.intro (rd_nn h25_4) (And.intro (at_row (rL (rI .u8)) (rd_get h25_4)) (And.intro h25_3 (And.intro h25_3 (And.intro (len_map (rI .u8) (show x25_4.length = x25_4.length from rfl)) (And.intro h25_3 (And.intro h25_3 (And.intro h25_3 (And.intro h25_3 (And.intro h25_5 (And.intro (all_le0 (rI .u8) ([] : List Int) rfl) (And.intro (all_t (rI .u8) ([] : List Int) rfl) True.intro)))))))))))))))))))))))))))))) (rfl : res_spec_WriteParts ([] : List Int) = res_spec_WriteParts ([] : List Int)) (by kernel_rfl)
        · skip
          obtain ⟨x25_6, h25_6, hm⟩ := bind_some hm
          obtain ⟨x25_7, h25_7, hm⟩ := bind_some hm
          obtain ⟨x25_8, h25_8, hm⟩ := bind_some hm
          refine go_on (u' := .c c_spec_WriteParts_25) (K' := K_spec_WriteParts_25) (st' := s_spec_WriteParts_25 p0 (w64 (i25_0 + 1)) (l25_1 ++ x25_7)) [.bit true, .row ((rI .i64) x25_1), .bit false, .bit false, .bit false, .bit false, .row ((rI .i64) x25_1), .bit false, .bit false, .bit false, .bit false, .bit false, .bit false, .bit false, .bit false, .bit false, .row ((rL (rI .u8)) x25_4), .bit false, .bit false, .num x25_4.length, .bit false, .bit false, .bit false, .bit false, .bit false, .row ((rI .i64) x25_1), .row (rB x25_6), .row ((rL (rI .u8)) x25_4), .res (res_spec_l14Part x25_7), .num x25_7.length, .rows (List.map (rI .u8) (l25_1 ++ x25_7)), .num ((l25_1 ++ x25_7).length), .num ((l25_1 ++ x25_7).length)] 1000 (And.intro h25_0 (And.intro (rd_nn h25_1) (And.intro (at_row (rI .i64) (rd_get h25_1)) (And.intro h25_2 (And.intro h25_2 (And.intro h25_2 (And.intro h25_2 (And.intro (rd_nn h25_1) (And.intro (at_row (rI .i64) (rd_get h25_1)) (And.intro h25_2 (And.intro h25_2 (And.intro h25_2 (And.intro h25_3 (And.intro h25_3 (And.intro h25_3 (And.intro h25_3 (And.intro h25_3 (And.intro h25_3 (And.intro (rd_nn h25_4) (And.intro (at_row (rL (rI .u8)) (rd_get h25_4)) (And.intro h25_3 (And.intro h25_3 (And.intro (len_map (rI .u8) (show x25_4.length = x25_4.length from rfl)) (And.intro h25_3 (And.intro h25_3 (And.intro h25_3 (And.intro h25_3 (And.intro h25_5 (And.intro (rd_nn h25_1) (And.intro (at_row (rI .i64) (rd_get h25_1)) (And.intro (rd_nn h25_6) (And.intro (at_row rB (rd_get h25_6)) (And.intro (rd_nn h25_4) (And.intro (at_row (rL (rI .u8)) (rd_get h25_4)) (And.intro (ok_spec_l14Part x25_1 x25_6 x25_4 x25_7 h25_7) (And.intro (len_map (rI .u8) (show x25_7.length = x25_7.length from rfl)) (And.intro (all_le (rI .u8) x25_7 rfl) (And.intro (app_ck (rI .u8) l25_1 x25_7 rfl rfl h25_8) (And.intro (app_tell (rI .u8) l25_1 x25_7 rfl rfl) (And.intro (len_map (rI .u8) (show (l25_1 ++ x25_7).length = (l25_1 ++ x25_7).length from rfl)) (And.intro (lens ((l25_1 ++ x25_7).length) ((l25_1 ++ x25_7).length) rfl) True.intro))))))))))))))))))))))))))))))))))))))))) ?_ (by kernel_rfl)
          exact hin ((w64 (i25_0 + 1)), (l25_1 ++ x25_7)) (Option.some.inj hm).symm
  · skip
    refine go_on (u' := .c c_spec_WriteParts_45) (K' := K_spec_WriteParts_45) (st' := s_spec_WriteParts_45 l25_1) [.bit false, .num l25_1.length] 1000 (And.intro h25_0 (And.intro (lens l25_1.length l25_1.length rfl) True.intro)) ?_ (by kernel_rfl)
    exact hout (.inr l25_1) (Option.some.inj hm).symm

theorem ok_spec_WriteParts_0 (p0 : S_Piled) (r : (List Int)) (hm : m_spec_WriteParts_0 p0 = some r) : EvU ext tbl (.c c_spec_WriteParts_0) K_spec_WriteParts_0 (s_spec_WriteParts_0 p0) (Post vf_spec_WriteParts (res_spec_WriteParts r)) := by
  obtain ⟨h0_0, hm⟩ | ⟨h0_0, hm⟩ := split_ite hm
  · skip
    exact go_end [.bit true, .bit true, .bit true, .bit true, .bit true, .bit true, .bit true, .bit true, .bit true, .bit true, .bit true, .bit true, .bit true, .bit true, .bit true, .bit true, .bit true, .bit true, .bit true, .bit true, .bit true, .bit true, .bit true, .bit true, .bit true, .bit true, .bit true, .bit true, .bit true, .bit true, .bit true, .bit true, .bit true, .bit true, .bit true, .bit true, .bit true, .bit true, .bit true, .bit true, .rows (List.map (rI .u8) ([] : List Int))] 1000 (And.intro h0_0 (And.intro h0_0 (And.intro h0_0 (And.intro h0_0 (And.intro h0_0 (And.intro h0_0 (And.intro h0_0 (And.intro (Eq.refl true) (And.intro (Eq.refl true) (And.intro (Eq.refl true) (And.intro (Eq.refl true) (And.intro (Eq.refl true) (And.intro (Eq.refl true) (And.intro (Eq.refl true) (And.intro (Eq.refl true) (And.intro (Eq.refl true) (And.intro (Eq.refl true) (And.intro (Eq.refl true) (And.intro (Eq.refl true) (And.intro (Eq.refl true) (And.intro (Eq.refl true) (And.intro (Eq.refl true) (And.intro (Eq.refl true) (And.intro (Eq.refl true) (And.intro (Eq.refl true) (And.intro (Eq.refl true) (And.intro (Eq.refl true) (And.intro (Eq.refl true) (And.intro (Eq.refl true) (And.intro (Eq.refl true) (And.intro (Eq.refl true) (And.intro (Eq.refl true) (And.intro (Eq.refl true) (And.intro (Eq.refl true) (And.intro (Eq.refl true) (And.intro (Eq.refl true) (And.intro (Eq.refl true) (And.intro (Eq.refl true) (And.intro (Eq.refl true) (And.intro (Eq.refl true) (And.intro (all_le0 (rI .u8) ([] : List Int) rfl) (And.intro (all_t (rI .u8) ([] : List Int) rfl) True.intro)))))))))))))))))))))))))))))))))))))))))) (congrArg res_spec_WriteParts (Option.some.inj hm)) (by kernel_rfl)
  · skip
    obtain ⟨x0_1, h0_1, hm⟩ := bind_some hm
    obtain ⟨h0_2, hm⟩ | ⟨h0_2, hm⟩ := split_ite hm
    · skip
      obtain ⟨h0_3, hm⟩ | ⟨h0_3, hm⟩ := split_ite hm
      · skip
        exact go_end [.bit false, .bit false, .bit false, .bit false, .bit false, .res (res_spec_l14Sides x0_1), .bit false, .bit false, .bit false, .bit false, .bit false, .num p0.parts.length, .bit false, .bit false, .bit true, .bit true, .bit true, .bit true, .bit true, .bit true, .bit true, .bit true, .bit true, .bit true, .bit true, .bit true, .bit true, .bit true, .bit true, .bit true, .bit true, .bit true, .bit true, .bit true, .bit true, .bit true, .bit true, .bit true, .bit true, .bit true, .bit true, .bit true, .rows (List.map (rI .u8) ([] : List Int))] 1000 (And.intro h0_0 (And.intro h0_0 (And.intro h0_0 (And.intro h0_0 (And.intro h0_0 (And.intro (ok_spec_l14Sides p0.width p0.height x0_1 h0_1) (And.intro h0_0 (And.intro h0_0 (And.intro (not_f h0_2) (And.intro (not_f h0_2) (And.intro (not_f h0_2) (And.intro (len_map (rL (rI .u8)) (show p0.parts.length = p0.parts.length from rfl)) (And.intro (not_f h0_2) (And.intro (not_f h0_2) (And.intro h0_3 (And.intro h0_3 (And.intro h0_3 (And.intro h0_3 (And.intro h0_3 (And.intro (Eq.refl true) (And.intro (Eq.refl true) (And.intro (Eq.refl true) (And.intro (Eq.refl true) (And.intro (Eq.refl true) (And.intro (Eq.refl true) (And.intro (Eq.refl true) (And.intro (Eq.refl true) (And.intro (Eq.refl true) (And.intro (Eq.refl true) (And.intro (Eq.refl true) (And.intro (Eq.refl true) (And.intro (Eq.refl true) (And.intro (Eq.refl true) (And.intro (Eq.refl true) (And.intro (Eq.refl true) (And.intro (Eq.refl true) (And.intro (Eq.refl true) (And.intro (Eq.refl true) (And.intro (Eq.refl true) (And.intro (Eq.refl true) (And.intro (Eq.refl true) (And.intro (Eq.refl true) (And.intro (all_le0 (rI .u8) ([] : List Int) rfl) (And.intro (all_t (rI .u8) ([] : List Int) rfl) True.intro)))))))))))))))))))))))))))))))))))))))))))) (congrArg res_spec_WriteParts (Option.some.inj hm)) (by kernel_rfl)
      · skip
        obtain ⟨h0_4, hm⟩ | ⟨h0_4, hm⟩ := split_ite hm
        · skip
          exact go_end [.bit false, .bit false, .bit false, .bit false, .bit false, .res (res_spec_l14Sides x0_1), .bit false, .bit false, .bit false, .bit false, .bit false, .num p0.parts.length, .bit false, .bit false, .bit false, .bit false, .bit false, .num p0.parts.length, .bit false, .bit false, .bit true, .bit true, .bit true, .bit true, .bit true, .bit true, .bit true, .bit true, .bit true, .bit true, .bit true, .bit true, .bit true, .bit true, .bit true, .bit true, .bit true, .bit true, .bit true, .bit true, .bit true, .bit true, .bit true, .rows (List.map (rI .u8) ([] : List Int))] 1000 (And.intro h0_0 (And.intro h0_0 (And.intro h0_0 (And.intro h0_0 (And.intro h0_0 (And.intro (ok_spec_l14Sides p0.width p0.height x0_1 h0_1) (And.intro h0_0 (And.intro h0_0 (And.intro (not_f h0_2) (And.intro (not_f h0_2) (And.intro (not_f h0_2) (And.intro (len_map (rL (rI .u8)) (show p0.parts.length = p0.parts.length from rfl)) (And.intro (not_f h0_2) (And.intro (not_f h0_2) (And.intro h0_3 (And.intro h0_3 (And.intro h0_3 (And.intro (len_map (rL (rI .u8)) (show p0.parts.length = p0.parts.length from rfl)) (And.intro h0_3 (And.intro h0_3 (And.intro h0_4 (And.intro h0_4 (And.intro h0_4 (And.intro h0_4 (And.intro h0_4 (And.intro h0_4 (And.intro h0_4 (And.intro h0_4 (And.intro (Eq.refl true) (And.intro (Eq.refl true) (And.intro (Eq.refl true) (And.intro (Eq.refl true) (And.intro (Eq.refl true) (And.intro (Eq.refl true) (And.intro (Eq.refl true) (And.intro (Eq.refl true) (And.intro (Eq.refl true) (And.intro (Eq.refl true) (And.intro (Eq.refl true) (And.intro (Eq.refl true) (And.intro (Eq.refl true) (And.intro (Eq.refl true) (And.intro (Eq.refl true) (And.intro (all_le0 (rI .u8) ([] : List Int) rfl) (And.intro (all_t (rI .u8) ([] : List Int) rfl) True.intro))))))))))))))))))))))))))))))))))))))))))))) (congrArg res_spec_WriteParts (Option.some.inj hm)) (by kernel_rfl)
        · skip
          obtain ⟨h0_5, hm⟩ | ⟨h0_5, hm⟩ := split_ite hm
          · skip
            exact go_end [.bit false, .bit false, .bit false, .bit false, .bit false, .res (res_spec_l14Sides x0_1), .bit false, .bit false, .bit false, .bit false, .bit false, .num p0.parts.length, .bit false, .bit false, .bit false, .bit false, .bit false, .num p0.parts.length, .bit false, .bit false, .bit false, .bit false, .bit false, .num p0.keys.length, .bit false, .bit false, .bit false, .num p0.parts.length, .bit false, .bit false, .bit true, .bit true, .bit true, .bit true, .bit true, .bit true, .bit true, .bit true, .bit true, .bit true, .bit true, .bit true, .bit true, .bit true, .bit true, .rows (List.map (rI .u8) ([] : List Int))] 1000 (And.intro h0_0 (And.intro h0_0 (And.intro h0_0 (And.intro h0_0 (And.intro h0_0 (And.intro (ok_spec_l14Sides p0.width p0.height x0_1 h0_1) (And.intro h0_0 (And.intro h0_0 (And.intro (not_f h0_2) (And.intro (not_f h0_2) (And.intro (not_f h0_2) (And.intro (len_map (rL (rI .u8)) (show p0.parts.length = p0.parts.length from rfl)) (And.intro (not_f h0_2) (And.intro (not_f h0_2) (And.intro h0_3 (And.intro h0_3 (And.intro h0_3 (And.intro (len_map (rL (rI .u8)) (show p0.parts.length = p0.parts.length from rfl)) (And.intro h0_3 (And.intro h0_3 (And.intro h0_4 (And.intro h0_4 (And.intro h0_4 (And.intro (len_map rB (show p0.keys.length = p0.keys.length from rfl)) (And.intro h0_4 (And.intro h0_4 (And.intro h0_4 (And.intro (len_map (rL (rI .u8)) (show p0.parts.length = p0.parts.length from rfl)) (And.intro h0_4 (And.intro h0_4 (And.intro h0_5 (And.intro h0_5 (And.intro h0_5 (And.intro h0_5 (And.intro h0_5 (And.intro h0_5 (And.intro h0_5 (And.intro h0_5 (And.intro (Eq.refl true) (And.intro (Eq.refl true) (And.intro (Eq.refl true) (And.intro (Eq.refl true) (And.intro (Eq.refl true) (And.intro (Eq.refl true) (And.intro (Eq.refl true) (And.intro (all_le0 (rI .u8) ([] : List Int) rfl) (And.intro (all_t (rI .u8) ([] : List Int) rfl) True.intro))))))))))))))))))))))))))))))))))))))))))))))) (congrArg res_spec_WriteParts (Option.some.inj hm)) (by kernel_rfl)
          · skip
            obtain ⟨h0_6, hm⟩ | ⟨h0_6, hm⟩ := split_ite hm
            · skip
              exact go_end [.bit false, .bit false, .bit false, .bit false, .bit false, .res (res_spec_l14Sides x0_1), .bit false, .bit false, .bit false, .bit false, .bit false, .num p0.parts.length, .bit false, .bit false, .bit false, .bit false, .bit false, .num p0.parts.length, .bit false, .bit false, .bit false, .bit false, .bit false, .num p0.keys.length, .bit false, .bit false, .bit false, .num p0.parts.length, .bit false, .bit false, .bit false, .bit false, .bit false, .num p0.steps.length, .bit false, .bit false, .bit false, .num p0.parts.length, .bit false, .bit false, .bit true, .bit true, .bit true, .bit true, .bit true, .bit true, .bit true, .rows (List.map (rI .u8) ([] : List Int))] 1000 (And.intro h0_0 (And.intro h0_0 (And.intro h0_0 (And.intro h0_0 (And.intro h0_0 (And.intro (ok_spec_l14Sides p0.width p0.height x0_1 h0_1) (And.intro h0_0 (And.intro h0_0 (And.intro (not_f h0_2) (And.intro (not_f h0_2) (And.intro (not_f h0_2) (And.intro (len_map (rL (rI .u8)) (show p0.parts.length = p0.parts.length from rfl)) (And.intro (not_f h0_2) (And.intro (not_f h0_2) (And.intro h0_3 (And.intro h0_3 (And.intro h0_3 (And.intro (len_map (rL (rI .u8)) (show p0.parts.length = p0.parts.length from rfl)) (And.intro h0_3 (And.intro h0_3 (And.intro h0_4 (And.intro h0_4 (And.intro h0_4 (And.intro (len_map rB (show p0.keys.length = p0.keys.length from rfl)) (And.intro h0_4 (And.intro h0_4 (And.intro h0_4 (And.intro (len_map (rL (rI .u8)) (show p0.parts.length = p0.parts.length from rfl)) (And.intro h0_4 (And.intro h0_4 (And.intro h0_5 (And.intro h0_5 (And.intro h0_5 (And.intro (len_map (rI .i64) (show p0.steps.length = p0.steps.length from rfl)) (And.intro h0_5 (And.intro h0_5 (And.intro h0_5 (And.intro (len_map (rL (rI .u8)) (show p0.parts.length = p0.parts.length from rfl)) (And.intro h0_5 (And.intro h0_5 (And.intro h0_6 (And.intro h0_6 (And.intro h0_6 (And.intro h0_6 (And.intro h0_6 (And.intro h0_6 (And.intro (Eq.refl true) (And.intro (all_le0 (rI .u8) ([] : List Int) rfl) (And.intro (all_t (rI .u8) ([] : List Int) rfl) True.intro))))))))))))))))))))))))))))))))))))))))))))))))) (congrArg res_spec_WriteParts (Option.some.inj hm)) (by kernel_rfl)
            · skip
              obtain ⟨x0_7, h0_7, hm⟩ := bind_some hm
              obtain ⟨h0_8, hm⟩ | ⟨h0_8, hm⟩ := split_ite hm
              · skip
                obtain ⟨h0_9, hm⟩ | ⟨h0_9, hm⟩ := split_ite hm
                · skip
                  exact go_end [.bit false, .bit false, .bit false, .bit false, .bit false, .res (res_spec_l14Sides x0_1), .bit false, .bit false, .bit false, .bit false, .bit false, .num p0.parts.length, .bit false, .bit false, .bit false, .bit false, .bit false, .num p0.parts.length, .bit false, .bit false, .bit false, .bit false, .bit false, .num p0.keys.length, .bit false, .bit false, .bit false, .num p0.parts.length, .bit false, .bit false, .bit false, .bit false, .bit false, .num p0.steps.length, .bit false, .bit false, .bit false, .num p0.parts.length, .bit false, .bit false, .bit false, .bit false, .bit false, .row (rB x0_7), .bit false, .bit false, .bit false, .bit false, .num p0.parts.length, .bit true, .rows (List.map (rI .u8) ([] : List Int))] 1000 (And.intro h0_0 (And.intro h0_0 (And.intro h0_0 (And.intro h0_0 (And.intro h0_0 (And.intro (ok_spec_l14Sides p0.width p0.height x0_1 h0_1) (And.intro h0_0 (And.intro h0_0 (And.intro (not_f h0_2) (And.intro (not_f h0_2) (And.intro (not_f h0_2) (And.intro (len_map (rL (rI .u8)) (show p0.parts.length = p0.parts.length from rfl)) (And.intro (not_f h0_2) (And.intro (not_f h0_2) (And.intro h0_3 (And.intro h0_3 (And.intro h0_3 (And.intro (len_map (rL (rI .u8)) (show p0.parts.length = p0.parts.length from rfl)) (And.intro h0_3 (And.intro h0_3 (And.intro h0_4 (And.intro h0_4 (And.intro h0_4 (And.intro (len_map rB (show p0.keys.length = p0.keys.length from rfl)) (And.intro h0_4 (And.intro h0_4 (And.intro h0_4 (And.intro (len_map (rL (rI .u8)) (show p0.parts.length = p0.parts.length from rfl)) (And.intro h0_4 (And.intro h0_4 (And.intro h0_5 (And.intro h0_5 (And.intro h0_5 (And.intro (len_map (rI .i64) (show p0.steps.length = p0.steps.length from rfl)) (And.intro h0_5 (And.intro h0_5 (And.intro h0_5 (And.intro (len_map (rL (rI .u8)) (show p0.parts.length = p0.parts.length from rfl)) (And.intro h0_5 (And.intro h0_5 (And.intro h0_6 (And.intro h0_6 (And.intro h0_6 (And.intro (rd_nn h0_7) (And.intro (at_row rB (rd_get h0_7)) (And.intro h0_6 (And.intro h0_6 (And.intro h0_6 (And.intro (not_f h0_8) (And.intro (len_map (rL (rI .u8)) (show p0.parts.length = p0.parts.length from rfl)) (And.intro h0_9 (And.intro (all_le0 (rI .u8) ([] : List Int) rfl) (And.intro (all_t (rI .u8) ([] : List Int) rfl) True.intro))))))))))))))))))))))))))))))))))))))))))))))))))))) (congrArg res_spec_WriteParts (Option.some.inj hm)) (by kernel_rfl)
                · skip
                  obtain ⟨x0_10, h0_10, hm⟩ := bind_some hm
                  refine go_on (u' := .c c_spec_WriteParts_25) (K' := K_spec_WriteParts_25) (st' := s_spec_WriteParts_25 p0 0 x0_10) [.bit false, .bit false, .bit false, .bit false, .bit false, .res (res_spec_l14Sides x0_1), .bit false, .bit false, .bit false, .bit false, .bit false, .num p0.parts.length, .bit false, .bit false, .bit false, .bit false, .bit false, .num p0.parts.length, .bit false, .bit false, .bit false, .bit false, .bit false, .num p0.keys.length, .bit false, .bit false, .bit false, .num p0.parts.length, .bit false, .bit false, .bit false, .bit false, .bit false, .num p0.steps.length, .bit false, .bit false, .bit false, .num p0.parts.length, .bit false, .bit false, .bit false, .bit false, .bit false, .row (rB x0_7), .bit false, .bit false, .bit false, .bit false, .num p0.parts.length, .bit false, .res (res_spec_l14Mark x0_10), .num x0_10.length, .num p0.parts.length, .num x0_10.length] 1000 (And.intro h0_0 (And.intro h0_0 (And.intro h0_0 (And.intro h0_0 (And.intro h0_0 (And.intro (ok_spec_l14Sides p0.width p0.height x0_1 h0_1) (And.intro h0_0 (And.intro h0_0 (And.intro (not_f h0_2) (And.intro (not_f h0_2) (And.intro (not_f h0_2) (And.intro (len_map (rL (rI .u8)) (show p0.parts.length = p0.parts.length from rfl)) (And.intro (not_f h0_2) (And.intro (not_f h0_2) (And.intro h0_3 (And.intro h0_3 (And.intro h0_3 (And.intro (len_map (rL (rI .u8)) (show p0.parts.length = p0.parts.length from rfl)) (And.intro h0_3 (And.intro h0_3 (And.intro h0_4 (And.intro h0_4 (And.intro h0_4 (And.intro (len_map rB (show p0.keys.length = p0.keys.length from rfl)) (And.intro h0_4 (And.intro h0_4 (And.intro h0_4 (And.intro (len_map (rL (rI .u8)) (show p0.parts.length = p0.parts.length from rfl)) (And.intro h0_4 (And.intro h0_4 (And.intro h0_5 (And.intro h0_5 (And.intro h0_5 (And.intro (len_map (rI .i64) (show p0.steps.length = p0.steps.length from rfl)) (And.intro h0_5 (And.intro h0_5 (And.intro h0_5 (And.intro (len_map (rL (rI .u8)) (show p0.parts.length = p0.parts.length from rfl)) (And.intro h0_5 (And.intro h0_5 (And.intro h0_6 (And.intro h0_6 (And.intro h0_6 (And.intro (rd_nn h0_7) (And.intro (at_row rB (rd_get h0_7)) (And.intro h0_6 (And.intro h0_6 (And.intro h0_6 (And.intro (not_f h0_8) (And.intro (len_map (rL (rI .u8)) (show p0.parts.length = p0.parts.length from rfl)) (And.intro h0_9 (And.intro (ok_spec_l14Mark p0.width p0.height x0_10 h0_10) (And.intro (len_map (rI .u8) (show x0_10.length = x0_10.length from rfl)) (And.intro (len_map (rL (rI .u8)) (show p0.parts.length = p0.parts.length from rfl)) (And.intro (lens x0_10.length x0_10.length rfl) True.intro))))))))))))))))))))))))))))))))))))))))))))))))))))))) ?_ (by kernel_rfl)
                  obtain ⟨e, he, hm⟩ := bind_some hm
                  refine loop_rule (u := .c c_spec_WriteParts_25) (K := K_spec_WriteParts_25) (Q := (Post vf_spec_WriteParts (res_spec_WriteParts r))) (b := lp_spec_WriteParts_25 p0) (We := O_spec_WriteParts_25 (Post vf_spec_WriteParts (res_spec_WriteParts r))) (stJ := fun s => s_spec_WriteParts_25 p0 s.1 s.2) (s := (0, x0_10)) (fun s y hb hin hout => ok_spec_WriteParts_25 p0 s.1 s.2 y hb (Post vf_spec_WriteParts (res_spec_WriteParts r)) hin hout) he ?_
                  rcases e with e | e
                  · skip
                    exact congrArg (fun r => Post vf_spec_WriteParts (res_spec_WriteParts r)) (Option.some.inj hm).symm
                  · skip
                    show EvU ext tbl (.c c_spec_WriteParts_45) K_spec_WriteParts_45 (s_spec_WriteParts_45 e) _
                    exact ok_spec_WriteParts_45 e r hm
              · skip
                exact go_end [.bit false, .bit false, .bit false, .bit false, .bit false, .res (res_spec_l14Sides x0_1), .bit false, .bit false, .bit false, .bit false, .bit false, .num p0.parts.length, .bit false, .bit false, .bit false, .bit false, .bit false, .num p0.parts.length, .bit false, .bit false, .bit false, .bit false, .bit false, .num p0.keys.length, .bit false, .bit false, .bit false, .num p0.parts.length, .bit false, .bit false, .bit false, .bit false, .bit false, .num p0.steps.length, .bit false, .bit false, .bit false, .num p0.parts.length, .bit false, .bit false, .bit false, .bit false, .bit false, .row (rB x0_7), .bit false, .bit false, .bit false, .bit true, .rows (List.map (rI .u8) ([] : List Int))] 1000 (And.intro h0_0 (And.intro h0_0 (And.intro h0_0 (And.intro h0_0 (And.intro h0_0 (And.intro (ok_spec_l14Sides p0.width p0.height x0_1 h0_1) (And.intro h0_0 (And.intro h0_0 (And.intro (not_f h0_2) (And.intro (not_f h0_2) (And.intro (not_f h0_2) (And.intro (len_map (rL (rI .u8)) (show p0.parts.length = p0.parts.length from rfl)) (And.intro (not_f h0_2) (And.intro (not_f h0_2) (And.intro h0_3 (And.intro h0_3 (And.intro h0_3 (And.intro (len_map (rL (rI .u8)) (show p0.parts.length = p0.parts.length from rfl)) (And.intro h0_3 (And.intro h0_3 (And.intro h0_4 (And.intro h0_4 (And.intro h0_4 (And.intro (len_map rB (show p0.keys.length = p0.keys.length from rfl)) (And.intro h0_4 (And.intro h0_4 (And.intro h0_4 (And.intro (len_map (rL (rI .u8)) (show p0.parts.length = p0.parts.length from rfl)) (And.intro h0_4 (And.intro h0_4 (And.intro h0_5 (And.intro h0_5 (And.intro h0_5 (And.intro (len_map (rI .i64) (show p0.steps.length = p0.steps.length from rfl)) (And.intro h0_5 (And.intro h0_5 (And.intro h0_5 (And.intro (len_map (rL (rI .u8)) (show p0.parts.length = p0.parts.length from rfl)) (And.intro h0_5 (And.intro h0_5 (And.intro h0_6 (And.intro h0_6 (And.intro h0_6 (And.intro (rd_nn h0_7) (And.intro (at_row rB (rd_get h0_7)) (And.intro h0_6 (And.intro h0_6 (And.intro h0_6 (And.intro (not_t h0_8) (And.intro (all_le0 (rI .u8) ([] : List Int) rfl) (And.intro (all_t (rI .u8) ([] : List Int) rfl) True.intro))))))))))))))))))))))))))))))))))))))))))))))))))) (congrArg res_spec_WriteParts (Option.some.inj hm)) (by kernel_rfl)
    · skip
      exact go_end [.bit false, .bit false, .bit false, .bit false, .bit false, .res (res_spec_l14Sides x0_1), .bit false, .bit false, .bit true, .bit true, .bit true, .bit true, .bit true, .bit true, .bit true, .bit true, .bit true, .bit true, .bit true, .bit true, .bit true, .bit true, .bit true, .bit true, .bit true, .bit true, .bit true, .bit true, .bit true, .bit true, .bit true, .bit true, .bit true, .bit true, .bit true, .bit true, .bit true, .bit true, .bit true, .bit true, .bit true, .rows (List.map (rI .u8) ([] : List Int))] 1000 (And.intro h0_0 (And.intro h0_0 (And.intro h0_0 (And.intro h0_0 (And.intro h0_0 (And.intro (ok_spec_l14Sides p0.width p0.height x0_1 h0_1) (And.intro h0_0 (And.intro h0_0 (And.intro (not_t h0_2) (And.intro (not_t h0_2) (And.intro (not_t h0_2) (And.intro (not_t h0_2) (And.intro (not_t h0_2) (And.intro (Eq.refl true) (And.intro (Eq.refl true) (And.intro (Eq.refl true) (And.intro (Eq.refl true) (And.intro (Eq.refl true) (And.intro (Eq.refl true) (And.intro (Eq.refl true) (And.intro (Eq.refl true) (And.intro (Eq.refl true) (And.intro (Eq.refl true) (And.intro (Eq.refl true) (And.intro (Eq.refl true) (And.intro (Eq.refl true) (And.intro (Eq.refl true) (And.intro (Eq.refl true) (And.intro (Eq.refl true) (And.intro (Eq.refl true) (And.intro (Eq.refl true) (And.intro (Eq.refl true) (And.intro (Eq.refl true) (And.intro (Eq.refl true) (And.intro (Eq.refl true) (And.intro (Eq.refl true) (And.intro (Eq.refl true) (And.intro (Eq.refl true) (And.intro (Eq.refl true) (And.intro (Eq.refl true) (And.intro (Eq.refl true) (And.intro (all_le0 (rI .u8) ([] : List Int) rfl) (And.intro (all_t (rI .u8) ([] : List Int) rfl) True.intro))))))))))))))))))))))))))))))))))))))))))) (congrArg res_spec_WriteParts (Option.some.inj hm)) (by kernel_rfl)

theorem ok_spec_WriteParts (p0 : S_Piled) (r : (List Int)) (hm : m_spec_WriteParts p0 = some r) : Runs ext tbl 31 (as_spec_WriteParts p0) (res_spec_WriteParts r) :=
  runs_of (vf := vf_spec_WriteParts) (by kernel_rfl) rfl (st := (enter vf_spec_WriteParts (as_spec_WriteParts p0)).getD default) (by kernel_rfl) (go_on [] 1000 True.intro (ok_spec_WriteParts_0 p0 r hm) (by kernel_rfl))
def O_impl_zrange_15 (Q : VX → St → Prop) (e : (Bool) ⊕ ((Unit))) : Prop := match e with | .inl e => Q = Post vf_impl_zrange (res_impl_zrange e) | .inr e => EvU ext tbl (.c c_impl_zrange_33) K_impl_zrange_33 (s_impl_zrange_33) Q
theorem ok_impl_zrange_33 (r : Bool) (hm : m_impl_zrange_33 = some r) : EvU ext tbl (.c c_impl_zrange_33) K_impl_zrange_33 (s_impl_zrange_33) (Post vf_impl_zrange (res_impl_zrange r)) := by
  exact go_end [] 1000 True.intro (congrArg res_impl_zrange (Option.some.inj hm)) (by kernel_rfl)

theorem ok_impl_zrange_15 (p1 : Int) (p2 : Int) (p0 : (List Int)) (i15_0 : Int) (y : (Int) ⊕ ((Bool) ⊕ ((Unit)))) (hm : m_impl_zrange_15 p1 p2 p0 i15_0 = some y) (Q : VX → St → Prop)
    (hin : ∀ s, y = .inl s → EvU ext tbl (.c c_impl_zrange_15) K_impl_zrange_15 (s_impl_zrange_15 p1 p2 p0 s) Q) (hout : ∀ e, y = .inr e → O_impl_zrange_15 Q e) : EvU ext tbl (.c c_impl_zrange_15) K_impl_zrange_15 (s_impl_zrange_15 p1 p2 p0 i15_0) Q := by
  obtain ⟨h15_0, hm⟩ | ⟨h15_0, hm⟩ := split_ite hm
  · skip
    obtain ⟨x15_1, h15_1, hm⟩ := bind_some hm
    obtain ⟨h15_2, hm⟩ | ⟨h15_2, hm⟩ := split_ite hm
    · skip
      have hQ : Q = Post vf_impl_zrange (res_impl_zrange false) := hout (.inl false) (Option.some.inj hm).symm
      subst hQ
      exact go_end [.bit true, .row ((rI .i64) x15_1), .bit true, .bit true, .bit true, .bit true, .bit true] 1000 (And.intro h15_0 (And.intro (rd_nn h15_1) (And.intro (at_row (rI .i64) (rd_get h15_1)) (And.intro h15_2 (And.intro h15_2 (And.intro h15_2 (And.intro h15_2 (And.intro (Eq.refl true) True.intro)))))))) (rfl : res_impl_zrange false = res_impl_zrange false) (by kernel_rfl)
    · skip
      obtain ⟨h15_3, hm⟩ | ⟨h15_3, hm⟩ := split_ite hm
      · skip
        have hQ : Q = Post vf_impl_zrange (res_impl_zrange false) := hout (.inl false) (Option.some.inj hm).symm
        subst hQ
        exact go_end [.bit true, .row ((rI .i64) x15_1), .bit false, .bit false, .bit false, .bit false, .bit true] 1000 (And.intro h15_0 (And.intro (rd_nn h15_1) (And.intro (at_row (rI .i64) (rd_get h15_1)) (And.intro h15_2 (And.intro h15_2 (And.intro h15_2 (And.intro h15_2 (And.intro h15_3 True.intro)))))))) (rfl : res_impl_zrange false = res_impl_zrange false) (by kernel_rfl)
      · skip
        refine go_on (u' := .c c_impl_zrange_15) (K' := K_impl_zrange_15) (st' := s_impl_zrange_15 p1 p2 p0 (w64 (i15_0 + 1))) [.bit true, .row ((rI .i64) x15_1), .bit false, .bit false, .bit false, .bit false, .bit false] 1000 (And.intro h15_0 (And.intro (rd_nn h15_1) (And.intro (at_row (rI .i64) (rd_get h15_1)) (And.intro h15_2 (And.intro h15_2 (And.intro h15_2 (And.intro h15_2 (And.intro h15_3 True.intro)))))))) ?_ (by kernel_rfl)
        exact hin (w64 (i15_0 + 1)) (Option.some.inj hm).symm
  · skip
    refine go_on (u' := .c c_impl_zrange_33) (K' := K_impl_zrange_33) (st' := s_impl_zrange_33) [.bit false] 1000 (And.intro h15_0 True.intro) ?_ (by kernel_rfl)
    exact hout (.inr ()) (Option.some.inj hm).symm

theorem ok_impl_zrange_0 (p0 : (List Int)) (p1 : Int) (p2 : Int) (p3 : Int) (r : Bool) (hm : m_impl_zrange_0 p0 p1 p2 p3 = some r) : EvU ext tbl (.c c_impl_zrange_0) K_impl_zrange_0 (s_impl_zrange_0 p0 p1 p2 p3) (Post vf_impl_zrange (res_impl_zrange r)) := by
  obtain ⟨h0_0, hm⟩ | ⟨h0_0, hm⟩ := split_ite hm
  · skip
    exact go_end [.num p0.length, .bit true] 1000 (And.intro (len_map (rI .i64) (show p0.length = p0.length from rfl)) (And.intro h0_0 True.intro)) (congrArg res_impl_zrange (Option.some.inj hm)) (by kernel_rfl)
  · skip
    refine go_on (u' := .c c_impl_zrange_15) (K' := K_impl_zrange_15) (st' := s_impl_zrange_15 p1 p2 p0 0) [.num p0.length, .bit false, .num p0.length] 1000 (And.intro (len_map (rI .i64) (show p0.length = p0.length from rfl)) (And.intro h0_0 (And.intro (len_map (rI .i64) (show p0.length = p0.length from rfl)) True.intro))) ?_ (by kernel_rfl)
    obtain ⟨e, he, hm⟩ := bind_some hm
    refine loop_rule (u := .c c_impl_zrange_15) (K := K_impl_zrange_15) (Q := (Post vf_impl_zrange (res_impl_zrange r))) (b := lp_impl_zrange_15 p1 p2 p0) (We := O_impl_zrange_15 (Post vf_impl_zrange (res_impl_zrange r))) (stJ := fun s => s_impl_zrange_15 p1 p2 p0 s) (s := 0) (fun s y hb hin hout => ok_impl_zrange_15 p1 p2 p0 s y hb (Post vf_impl_zrange (res_impl_zrange r)) hin hout) he ?_
    rcases e with e | e
    · skip
      exact congrArg (fun r => Post vf_impl_zrange (res_impl_zrange r)) (Option.some.inj hm).symm
    · skip
      show EvU ext tbl (.c c_impl_zrange_33) K_impl_zrange_33 (s_impl_zrange_33) _
      exact ok_impl_zrange_33 r hm

theorem ok_impl_zrange (p0 : (List Int)) (p1 : Int) (p2 : Int) (p3 : Int) (r : Bool) (hm : m_impl_zrange p0 p1 p2 p3 = some r) : Runs ext tbl 115 (as_impl_zrange p0 p1 p2 p3) (res_impl_zrange r) :=
  runs_of (vf := vf_impl_zrange) (by kernel_rfl) rfl (st := (enter vf_impl_zrange (as_impl_zrange p0 p1 p2 p3)).getD default) (by kernel_rfl) (go_on [] 1000 True.intro (ok_impl_zrange_0 p0 p1 p2 p3 r hm) (by kernel_rfl))
theorem ok_impl_zsides_0 (p0 : Int) (p1 : Int) (r : Bool) (hm : m_impl_zsides_0 p0 p1 = some r) : EvU ext tbl (.c c_impl_zsides_0) K_impl_zsides_0 (s_impl_zsides_0 p0 p1) (Post vf_impl_zsides (res_impl_zsides r)) := by
  obtain ⟨h0_0, hm⟩ | ⟨h0_0, hm⟩ := split_ite hm
  · skip
    obtain ⟨h0_1, hm⟩ | ⟨h0_1, hm⟩ := split_ite hm
    · skip
      obtain ⟨h0_2, hm⟩ | ⟨h0_2, hm⟩ := split_ite hm
      · skip
        obtain ⟨h0_3, hm⟩ | ⟨h0_3, hm⟩ := split_ite hm
        · skip
          obtain ⟨h0_4, hm⟩ | ⟨h0_4, hm⟩ := split_ite hm
          · skip
            exact go_end [.bit true, .bit true, .bit true, .bit true, .bit true, .bit true, .bit true, .bit true, .bit true, .bit true, .bit true, .bit true, .bit true, .bit true, .bit true, .bit true, .bit true] 1000 (And.intro h0_0 (And.intro h0_0 (And.intro h0_0 (And.intro h0_1 (And.intro h0_1 (And.intro (by decide : (8 : Int) ≠ 0) (And.intro h0_1 (And.intro h0_1 (And.intro h0_2 (And.intro h0_2 (And.intro h0_2 (And.intro h0_3 (And.intro h0_3 (And.intro h0_3 (And.intro h0_4 (And.intro h0_4 (And.intro (by decide : (8 : Int) ≠ 0) (And.intro h0_4 (And.intro h0_4 True.intro))))))))))))))))))) (congrArg res_impl_zsides (Option.some.inj hm)) (by kernel_rfl)
          · skip
            exact go_end [.bit true, .bit true, .bit true, .bit true, .bit true, .bit true, .bit true, .bit true, .bit true, .bit true, .bit true, .bit true, .bit true, .bit false, .bit false, .bit false, .bit false] 1000 (And.intro h0_0 (And.intro h0_0 (And.intro h0_0 (And.intro h0_1 (And.intro h0_1 (And.intro (by decide : (8 : Int) ≠ 0) (And.intro h0_1 (And.intro h0_1 (And.intro h0_2 (And.intro h0_2 (And.intro h0_2 (And.intro h0_3 (And.intro h0_3 (And.intro h0_3 (And.intro h0_4 (And.intro h0_4 (And.intro h0_4 (And.intro h0_4 True.intro)))))))))))))))))) (congrArg res_impl_zsides (Option.some.inj hm)) (by kernel_rfl)
        · skip
          exact go_end [.bit true, .bit true, .bit true, .bit true, .bit true, .bit true, .bit true, .bit true, .bit true, .bit true, .bit false, .bit false, .bit false, .bit false, .bit false, .bit false, .bit false] 1000 (And.intro h0_0 (And.intro h0_0 (And.intro h0_0 (And.intro h0_1 (And.intro h0_1 (And.intro (by decide : (8 : Int) ≠ 0) (And.intro h0_1 (And.intro h0_1 (And.intro h0_2 (And.intro h0_2 (And.intro h0_2 (And.intro h0_3 (And.intro h0_3 (And.intro h0_3 (And.intro (Eq.refl false) (And.intro (Eq.refl false) (And.intro (Eq.refl false) (And.intro (Eq.refl false) True.intro)))))))))))))))))) (congrArg res_impl_zsides (Option.some.inj hm)) (by kernel_rfl)
      · skip
        exact go_end [.bit true, .bit true, .bit true, .bit true, .bit true, .bit true, .bit true, .bit false, .bit false, .bit false, .bit false, .bit false, .bit false, .bit false, .bit false, .bit false, .bit false] 1000 (And.intro h0_0 (And.intro h0_0 (And.intro h0_0 (And.intro h0_1 (And.intro h0_1 (And.intro (by decide : (8 : Int) ≠ 0) (And.intro h0_1 (And.intro h0_1 (And.intro h0_2 (And.intro h0_2 (And.intro h0_2 (And.intro (Eq.refl false) (And.intro (Eq.refl false) (And.intro (Eq.refl false) (And.intro (Eq.refl false) (And.intro (Eq.refl false) (And.intro (Eq.refl false) (And.intro (Eq.refl false) True.intro)))))))))))))))))) (congrArg res_impl_zsides (Option.some.inj hm)) (by kernel_rfl)
    · skip
      exact go_end [.bit true, .bit true, .bit true, .bit false, .bit false, .bit false, .bit false, .bit false, .bit false, .bit false, .bit false, .bit false, .bit false, .bit false, .bit false, .bit false, .bit false] 1000 (And.intro h0_0 (And.intro h0_0 (And.intro h0_0 (And.intro h0_1 (And.intro h0_1 (And.intro h0_1 (And.intro h0_1 (And.intro (Eq.refl false) (And.intro (Eq.refl false) (And.intro (Eq.refl false) (And.intro (Eq.refl false) (And.intro (Eq.refl false) (And.intro (Eq.refl false) (And.intro (Eq.refl false) (And.intro (Eq.refl false) (And.intro (Eq.refl false) (And.intro (Eq.refl false) True.intro))))))))))))))))) (congrArg res_impl_zsides (Option.some.inj hm)) (by kernel_rfl)
  · skip
    exact go_end [.bit false, .bit false, .bit false, .bit false, .bit false, .bit false, .bit false, .bit false, .bit false, .bit false, .bit false, .bit false, .bit false, .bit false, .bit false, .bit false, .bit false] 1000 (And.intro h0_0 (And.intro h0_0 (And.intro h0_0 (And.intro (Eq.refl false) (And.intro (Eq.refl false) (And.intro (Eq.refl false) (And.intro (Eq.refl false) (And.intro (Eq.refl false) (And.intro (Eq.refl false) (And.intro (Eq.refl false) (And.intro (Eq.refl false) (And.intro (Eq.refl false) (And.intro (Eq.refl false) (And.intro (Eq.refl false) (And.intro (Eq.refl false) (And.intro (Eq.refl false) (And.intro (Eq.refl false) True.intro))))))))))))))))) (congrArg res_impl_zsides (Option.some.inj hm)) (by kernel_rfl)

theorem ok_impl_zsides (p0 : Int) (p1 : Int) (r : Bool) (hm : m_impl_zsides p0 p1 = some r) : Runs ext tbl 116 (as_impl_zsides p0 p1) (res_impl_zsides r) :=
  runs_of (vf := vf_impl_zsides) (by kernel_rfl) rfl (st := (enter vf_impl_zsides (as_impl_zsides p0 p1)).getD default) (by kernel_rfl) (go_on [] 1000 True.intro (ok_impl_zsides_0 p0 p1 r hm) (by kernel_rfl))
theorem ok_impl_zput4_0 (p0 : Int) (r : (List Int)) (hm : m_impl_zput4_0 p0 = some r) : EvU ext tbl (.c c_impl_zput4_0) K_impl_zput4_0 (s_impl_zput4_0 p0) (Post vf_impl_zput4 (res_impl_zput4 r)) := by
  exact go_end [.rows (List.map (rI .u8) ([(wr .u8 (shrI .i64 p0 24)), (wr .u8 (shrI .i64 p0 16)), (wr .u8 (shrI .i64 p0 8)), (wr .u8 p0)] : List Int)), .num 4, .rows (List.map (rI .u8) ([(wr .u8 (shrI .i64 p0 24)), (wr .u8 (shrI .i64 p0 16)), (wr .u8 (shrI .i64 p0 8)), (wr .u8 p0)] : List Int))] 1000 (And.intro (by decide : (0 : Int) ≤ 24) (And.intro (by decide : (0 : Int) ≤ 16) (And.intro (by decide : (0 : Int) ≤ 8) (And.intro (Eq.refl (List.map (rI .u8) ([(wr .u8 (shrI .i64 p0 24)), (wr .u8 (shrI .i64 p0 16)), (wr .u8 (shrI .i64 p0 8)), (wr .u8 p0)] : List Int))) (And.intro (len_map (rI .u8) (show 4 = ([(wr .u8 (shrI .i64 p0 24)), (wr .u8 (shrI .i64 p0 16)), (wr .u8 (shrI .i64 p0 8)), (wr .u8 p0)] : List Int).length from rfl)) (And.intro (all_le0 (rI .u8) ([(wr .u8 (shrI .i64 p0 24)), (wr .u8 (shrI .i64 p0 16)), (wr .u8 (shrI .i64 p0 8)), (wr .u8 p0)] : List Int) rfl) (And.intro (all_t (rI .u8) ([(wr .u8 (shrI .i64 p0 24)), (wr .u8 (shrI .i64 p0 16)), (wr .u8 (shrI .i64 p0 8)), (wr .u8 p0)] : List Int) rfl) True.intro))))))) (congrArg res_impl_zput4 (Option.some.inj hm)) (by kernel_rfl)

theorem ok_impl_zput4 (p0 : Int) (r : (List Int)) (hm : m_impl_zput4 p0 = some r) : Runs ext tbl 176 (as_impl_zput4 p0) (res_impl_zput4 r) :=
  runs_of (vf := vf_impl_zput4) (by kernel_rfl) rfl (st := (enter vf_impl_zput4 (as_impl_zput4 p0)).getD default) (by kernel_rfl) (go_on [] 1000 True.intro (ok_impl_zput4_0 p0 r hm) (by kernel_rfl))
def O_impl_Crc_25 (p0 : (List Int)) (i9_1 : Int) (Q : VX → St → Prop) (e : (Int)) : Prop := EvU ext tbl (.c c_impl_Crc_35) K_impl_Crc_35 (s_impl_Crc_35 p0 i9_1 e) Q
def O_impl_Crc_9 (Q : VX → St → Prop) (e : (Int)) : Prop := EvU ext tbl (.c c_impl_Crc_36) K_impl_Crc_36 (s_impl_Crc_36 e) Q
theorem ok_impl_Crc_35 (p0 : (List Int)) (i9_1 : Int) (i35_0 : Int) (y : (Int × Int) ⊕ ((Int))) (hm : m_impl_Crc_35 p0 i9_1 i35_0 = some y) (Q : VX → St → Prop)
    (hin : ∀ s, y = .inl s → EvU ext tbl (.c c_impl_Crc_9) K_impl_Crc_9 (s_impl_Crc_9 p0 s.1 s.2) Q) (hout : ∀ e, y = .inr e → O_impl_Crc_9 Q e) : EvU ext tbl (.c c_impl_Crc_35) K_impl_Crc_35 (s_impl_Crc_35 p0 i9_1 i35_0) Q := by
  refine go_on (u' := .c c_impl_Crc_9) (K' := K_impl_Crc_9) (st' := s_impl_Crc_9 p0 i35_0 (w64 (i9_1 + 1))) [] 1000 True.intro ?_ (by kernel_rfl)
  exact hin (i35_0, (w64 (i9_1 + 1))) (Option.some.inj hm).symm

theorem ok_impl_Crc_25 (p0 : (List Int)) (i9_1 : Int) (i25_0 : Int) (i25_1 : Int) (y : (Int × Int) ⊕ ((Int))) (hm : m_impl_Crc_25 p0 i9_1 i25_0 i25_1 = some y) (Q : VX → St → Prop)
    (hin : ∀ s, y = .inl s → EvU ext tbl (.c c_impl_Crc_25) K_impl_Crc_25 (s_impl_Crc_25 p0 i9_1 s.1 s.2) Q) (hout : ∀ e, y = .inr e → O_impl_Crc_25 p0 i9_1 Q e) : EvU ext tbl (.c c_impl_Crc_25) K_impl_Crc_25 (s_impl_Crc_25 p0 i9_1 i25_0 i25_1) Q := by
  obtain ⟨h25_0, hm⟩ | ⟨h25_0, hm⟩ := split_ite hm
  · skip
    refine go_on (u' := .c c_impl_Crc_25) (K' := K_impl_Crc_25) (st' := s_impl_Crc_25 p0 i9_1 (xorI .u32 (shrI .u32 i25_0 1) (wr .u32 (3988292384 * (andI .u32 i25_0 1)))) (w64 (i25_1 + 1))) [.bit true] 1000 (And.intro h25_0 (And.intro (by decide : (0 : Int) ≤ 1) True.intro)) ?_ (by kernel_rfl)
    exact hin ((xorI .u32 (shrI .u32 i25_0 1) (wr .u32 (3988292384 * (andI .u32 i25_0 1)))), (w64 (i25_1 + 1))) (Option.some.inj hm).symm
  · skip
    refine go_on (u' := .c c_impl_Crc_35) (K' := K_impl_Crc_35) (st' := s_impl_Crc_35 p0 i9_1 i25_0) [.bit false] 1000 (And.intro h25_0 True.intro) ?_ (by kernel_rfl)
    exact hout i25_0 (Option.some.inj hm).symm

theorem ok_impl_Crc_36 (i36_0 : Int) (r : Int) (hm : m_impl_Crc_36 i36_0 = some r) : EvU ext tbl (.c c_impl_Crc_36) K_impl_Crc_36 (s_impl_Crc_36 i36_0) (Post vf_impl_Crc (res_impl_Crc r)) := by
  exact go_end [] 1000 True.intro (congrArg res_impl_Crc (Option.some.inj hm)) (by kernel_rfl)

theorem ok_impl_Crc_9 (p0 : (List Int)) (i9_0 : Int) (i9_1 : Int) (y : (Int × Int) ⊕ ((Int))) (hm : m_impl_Crc_9 p0 i9_0 i9_1 = some y) (Q : VX → St → Prop)
    (hin : ∀ s, y = .inl s → EvU ext tbl (.c c_impl_Crc_9) K_impl_Crc_9 (s_impl_Crc_9 p0 s.1 s.2) Q) (hout : ∀ e, y = .inr e → O_impl_Crc_9 Q e) : EvU ext tbl (.c c_impl_Crc_9) K_impl_Crc_9 (s_impl_Crc_9 p0 i9_0 i9_1) Q := by
  obtain ⟨h9_0, hm⟩ | ⟨h9_0, hm⟩ := split_ite hm
  · skip
    obtain ⟨x9_1, h9_1, hm⟩ := bind_some hm
    refine go_on (u' := .c c_impl_Crc_25) (K' := K_impl_Crc_25) (st' := s_impl_Crc_25 p0 i9_1 (xorI .u32 i9_0 (wr .u32 x9_1)) 0) [.bit true, .row ((rI .u8) x9_1)] 1000 (And.intro h9_0 (And.intro (rd_nn h9_1) (And.intro (at_row (rI .u8) (rd_get h9_1)) True.intro))) ?_ (by kernel_rfl)
    obtain ⟨e, he, hm⟩ := bind_some hm
    refine loop_rule (u := .c c_impl_Crc_25) (K := K_impl_Crc_25) (Q := Q) (b := lp_impl_Crc_25 p0 i9_1) (We := O_impl_Crc_25 p0 i9_1 Q) (stJ := fun s => s_impl_Crc_25 p0 i9_1 s.1 s.2) (s := ((xorI .u32 i9_0 (wr .u32 x9_1)), 0)) (fun s y hb hin hout => ok_impl_Crc_25 p0 i9_1 s.1 s.2 y hb Q hin hout) he ?_
    show EvU ext tbl (.c c_impl_Crc_35) K_impl_Crc_35 (s_impl_Crc_35 p0 i9_1 e) _
    exact ok_impl_Crc_35 p0 i9_1 e y hm Q hin hout
  · skip
    refine go_on (u' := .c c_impl_Crc_36) (K' := K_impl_Crc_36) (st' := s_impl_Crc_36 i9_0) [.bit false] 1000 (And.intro h9_0 True.intro) ?_ (by kernel_rfl)
    exact hout i9_0 (Option.some.inj hm).symm

theorem ok_impl_Crc_0 (p0 : (List Int)) (r : Int) (hm : m_impl_Crc_0 p0 = some r) : EvU ext tbl (.c c_impl_Crc_0) K_impl_Crc_0 (s_impl_Crc_0 p0) (Post vf_impl_Crc (res_impl_Crc r)) := by
  refine go_on (u' := .c c_impl_Crc_9) (K' := K_impl_Crc_9) (st' := s_impl_Crc_9 p0 4294967295 0) [.num p0.length] 1000 (And.intro (len_map (rI .u8) (show p0.length = p0.length from rfl)) True.intro) ?_ (by kernel_rfl)
  obtain ⟨e, he, hm⟩ := bind_some hm
  refine loop_rule (u := .c c_impl_Crc_9) (K := K_impl_Crc_9) (Q := (Post vf_impl_Crc (res_impl_Crc r))) (b := lp_impl_Crc_9 p0) (We := O_impl_Crc_9 (Post vf_impl_Crc (res_impl_Crc r))) (stJ := fun s => s_impl_Crc_9 p0 s.1 s.2) (s := (4294967295, 0)) (fun s y hb hin hout => ok_impl_Crc_9 p0 s.1 s.2 y hb (Post vf_impl_Crc (res_impl_Crc r)) hin hout) he ?_
  show EvU ext tbl (.c c_impl_Crc_36) K_impl_Crc_36 (s_impl_Crc_36 e) _
  exact ok_impl_Crc_36 e r hm

theorem ok_impl_Crc (p0 : (List Int)) (r : Int) (hm : m_impl_Crc p0 = some r) : Runs ext tbl 177 (as_impl_Crc p0) (res_impl_Crc r) :=
  runs_of (vf := vf_impl_Crc) (by kernel_rfl) rfl (st := (enter vf_impl_Crc (as_impl_Crc p0)).getD default) (by kernel_rfl) (go_on [] 1000 True.intro (ok_impl_Crc_0 p0 r hm) (by kernel_rfl))
def O_impl_zpile_9 (Q : VX → St → Prop) (e : ((List Int))) : Prop := EvU ext tbl (.c c_impl_zpile_33) K_impl_zpile_33 (s_impl_zpile_33 e) Q
theorem ok_impl_zpile_27 (x9_1 : (List Int)) (p0 : S_Piled) (i9_0 : Int) (l9_1 : (List Int)) (i27_0 : Int) (y : (Int × (List Int)) ⊕ (((List Int)))) (hm : m_impl_zpile_27 x9_1 p0 i9_0 l9_1 i27_0 = some y) (Q : VX → St → Prop)
    (hin : ∀ s, y = .inl s → EvU ext tbl (.c c_impl_zpile_9) K_impl_zpile_9 (s_impl_zpile_9 p0 s.1 s.2) Q) (hout : ∀ e, y = .inr e → O_impl_zpile_9 Q e) : EvU ext tbl (.c c_impl_zpile_27) K_impl_zpile_27 (s_impl_zpile_27 x9_1 p0 i9_0 l9_1 i27_0) Q := by
  obtain ⟨x27_0, h27_0, hm⟩ := bind_some hm
  obtain ⟨x27_1, h27_1, hm⟩ := bind_some hm
  obtain ⟨x27_2, h27_2, hm⟩ := bind_some hm
  obtain ⟨x27_3, h27_3, hm⟩ := bind_some hm
  obtain ⟨x27_4, h27_4, hm⟩ := bind_some hm
  obtain ⟨x27_5, h27_5, hm⟩ := bind_some hm
  obtain ⟨x27_6, h27_6, hm⟩ := bind_some hm
  refine go_on (u' := .c c_impl_zpile_9) (K' := K_impl_zpile_9) (st' := s_impl_zpile_9 p0 (w64 (i9_0 + 1)) ((l9_1 ++ ((([(wr .u8 i27_0)] : List Int) ++ x27_0) ++ x9_1)) ++ x27_5)) [.rows (List.map (rI .u8) ([(wr .u8 i27_0)] : List Int)), .num 1, .num x9_1.length, .res (res_impl_zput4 x27_0), .num x27_0.length, .rows (List.map (rI .u8) (([(wr .u8 i27_0)] : List Int) ++ x27_0)), .num ((([(wr .u8 i27_0)] : List Int) ++ x27_0).length), .rows (List.map (rI .u8) ((([(wr .u8 i27_0)] : List Int) ++ x27_0) ++ x9_1)), .num (((([(wr .u8 i27_0)] : List Int) ++ x27_0) ++ x9_1).length), .rows (List.map (rI .u8) (l9_1 ++ ((([(wr .u8 i27_0)] : List Int) ++ x27_0) ++ x9_1))), .num ((l9_1 ++ ((([(wr .u8 i27_0)] : List Int) ++ x27_0) ++ x9_1)).length), .rows (List.map (rI .u8) ((([(wr .u8 i27_0)] : List Int) ++ x27_0) ++ x9_1)), .res (res_impl_Crc x27_4), .res (res_impl_zput4 x27_5), .num x27_5.length, .rows (List.map (rI .u8) ((l9_1 ++ ((([(wr .u8 i27_0)] : List Int) ++ x27_0) ++ x9_1)) ++ x27_5)), .num (((l9_1 ++ ((([(wr .u8 i27_0)] : List Int) ++ x27_0) ++ x9_1)) ++ x27_5).length), .num (((l9_1 ++ ((([(wr .u8 i27_0)] : List Int) ++ x27_0) ++ x9_1)) ++ x27_5).length)] 1000 (And.intro (Eq.refl (List.map (rI .u8) ([(wr .u8 i27_0)] : List Int))) (And.intro (len_map (rI .u8) (show 1 = ([(wr .u8 i27_0)] : List Int).length from rfl)) (And.intro (len_map (rI .u8) (show x9_1.length = x9_1.length from rfl)) (And.intro (ok_impl_zput4 (x9_1.length : Int) x27_0 h27_0) (And.intro (len_map (rI .u8) (show x27_0.length = x27_0.length from rfl)) (And.intro (all_le (rI .u8) x27_0 rfl) (And.intro (app_ck (rI .u8) ([(wr .u8 i27_0)] : List Int) x27_0 rfl rfl h27_1) (And.intro (app_tell (rI .u8) ([(wr .u8 i27_0)] : List Int) x27_0 rfl rfl) (And.intro (len_map (rI .u8) (show (([(wr .u8 i27_0)] : List Int) ++ x27_0).length = (([(wr .u8 i27_0)] : List Int) ++ x27_0).length from rfl)) (And.intro (app_ck_ro (rI .u8) (([(wr .u8 i27_0)] : List Int) ++ x27_0) x9_1 rfl h27_2) (And.intro (app_tell_ro (rI .u8) (([(wr .u8 i27_0)] : List Int) ++ x27_0) x9_1 rfl) (And.intro (len_map (rI .u8) (show ((([(wr .u8 i27_0)] : List Int) ++ x27_0) ++ x9_1).length = ((([(wr .u8 i27_0)] : List Int) ++ x27_0) ++ x9_1).length from rfl)) (And.intro (all_le (rI .u8) ((([(wr .u8 i27_0)] : List Int) ++ x27_0) ++ x9_1) rfl) (And.intro (app_ck (rI .u8) l9_1 ((([(wr .u8 i27_0)] : List Int) ++ x27_0) ++ x9_1) rfl rfl h27_3) (And.intro (app_tell (rI .u8) l9_1 ((([(wr .u8 i27_0)] : List Int) ++ x27_0) ++ x9_1) rfl rfl) (And.intro (len_map (rI .u8) (show (l9_1 ++ ((([(wr .u8 i27_0)] : List Int) ++ x27_0) ++ x9_1)).length = (l9_1 ++ ((([(wr .u8 i27_0)] : List Int) ++ x27_0) ++ x9_1)).length from rfl)) (And.intro (all_le (rI .u8) ((([(wr .u8 i27_0)] : List Int) ++ x27_0) ++ x9_1) rfl) (And.intro (all_dt (rI .u8) ((([(wr .u8 i27_0)] : List Int) ++ x27_0) ++ x9_1) rfl) (And.intro (ok_impl_Crc ((([(wr .u8 i27_0)] : List Int) ++ x27_0) ++ x9_1) x27_4 h27_4) (And.intro (ok_impl_zput4 (w64 x27_4) x27_5 h27_5) (And.intro (len_map (rI .u8) (show x27_5.length = x27_5.length from rfl)) (And.intro (all_le (rI .u8) x27_5 rfl) (And.intro (app_ck (rI .u8) (l9_1 ++ ((([(wr .u8 i27_0)] : List Int) ++ x27_0) ++ x9_1)) x27_5 rfl rfl h27_6) (And.intro (app_tell (rI .u8) (l9_1 ++ ((([(wr .u8 i27_0)] : List Int) ++ x27_0) ++ x9_1)) x27_5 rfl rfl) (And.intro (len_map (rI .u8) (show ((l9_1 ++ ((([(wr .u8 i27_0)] : List Int) ++ x27_0) ++ x9_1)) ++ x27_5).length = ((l9_1 ++ ((([(wr .u8 i27_0)] : List Int) ++ x27_0) ++ x9_1)) ++ x27_5).length from rfl)) (And.intro (lens (((l9_1 ++ ((([(wr .u8 i27_0)] : List Int) ++ x27_0) ++ x9_1)) ++ x27_5).length) (((l9_1 ++ ((([(wr .u8 i27_0)] : List Int) ++ x27_0) ++ x9_1)) ++ x27_5).length) rfl) True.intro)))))))))))))))))))))))))) ?_ (by kernel_rfl)
  exact hin ((w64 (i9_0 + 1)), ((l9_1 ++ ((([(wr .u8 i27_0)] : List Int) ++ x27_0) ++ x9_1)) ++ x27_5)) (Option.some.inj hm).symm

theorem ok_impl_zpile_33 (l33_0 : (List Int)) (r : (List Int)) (hm : m_impl_zpile_33 l33_0 = some r) : EvU ext tbl (.c c_impl_zpile_33) K_impl_zpile_33 (s_impl_zpile_33 l33_0) (Post vf_impl_zpile (res_impl_zpile r)) := by
  exact go_end [.rows (List.map (rI .u8) l33_0)] 1000 (And.intro (all_le0 (rI .u8) l33_0 rfl) (And.intro (all_t (rI .u8) l33_0 rfl) True.intro)) (congrArg res_impl_zpile (Option.some.inj hm)) (by kernel_rfl)

theorem ok_impl_zpile_9 (p0 : S_Piled) (i9_0 : Int) (l9_1 : (List Int)) (y : (Int × (List Int)) ⊕ (((List Int)))) (hm : m_impl_zpile_9 p0 i9_0 l9_1 = some y) (Q : VX → St → Prop)
    (hin : ∀ s, y = .inl s → EvU ext tbl (.c c_impl_zpile_9) K_impl_zpile_9 (s_impl_zpile_9 p0 s.1 s.2) Q) (hout : ∀ e, y = .inr e → O_impl_zpile_9 Q e) : EvU ext tbl (.c c_impl_zpile_9) K_impl_zpile_9 (s_impl_zpile_9 p0 i9_0 l9_1) Q := by
  obtain ⟨h9_0, hm⟩ | ⟨h9_0, hm⟩ := split_ite hm
  · skip
    obtain ⟨x9_1, h9_1, hm⟩ := bind_some hm
    obtain ⟨x9_2, h9_2, hm⟩ := bind_some hm
    obtain ⟨x9_3, h9_3, hm⟩ := bind_some hm
    obtain ⟨h9_4, hm⟩ | ⟨h9_4, hm⟩ := split_ite hm
    · skip
      refine go_on (u' := .c c_impl_zpile_27) (K' := K_impl_zpile_27) (st' := s_impl_zpile_27 x9_1 p0 i9_0 l9_1 (w64 (x9_2 + 128))) [.bit true, .row ((rL (rI .u8)) x9_1), .row ((rI .i64) x9_2), .row (rB x9_3), .bit true, .num l9_1.length] 1000 (And.intro h9_0 (And.intro (rd_nn h9_1) (And.intro (at_row (rL (rI .u8)) (rd_get h9_1)) (And.intro (rd_nn h9_2) (And.intro (at_row (rI .i64) (rd_get h9_2)) (And.intro (rd_nn h9_3) (And.intro (at_row rB (rd_get h9_3)) (And.intro h9_4 (And.intro (lens l9_1.length l9_1.length rfl) True.intro))))))))) ?_ (by kernel_rfl)
      exact ok_impl_zpile_27 x9_1 p0 i9_0 l9_1 (w64 (x9_2 + 128)) y hm Q hin hout
    · skip
      refine go_on (u' := .c c_impl_zpile_27) (K' := K_impl_zpile_27) (st' := s_impl_zpile_27 x9_1 p0 i9_0 l9_1 x9_2) [.bit true, .row ((rL (rI .u8)) x9_1), .row ((rI .i64) x9_2), .row (rB x9_3), .bit false, .num l9_1.length] 1000 (And.intro h9_0 (And.intro (rd_nn h9_1) (And.intro (at_row (rL (rI .u8)) (rd_get h9_1)) (And.intro (rd_nn h9_2) (And.intro (at_row (rI .i64) (rd_get h9_2)) (And.intro (rd_nn h9_3) (And.intro (at_row rB (rd_get h9_3)) (And.intro h9_4 (And.intro (lens l9_1.length l9_1.length rfl) True.intro))))))))) ?_ (by kernel_rfl)
      exact ok_impl_zpile_27 x9_1 p0 i9_0 l9_1 x9_2 y hm Q hin hout
  · skip
    refine go_on (u' := .c c_impl_zpile_33) (K' := K_impl_zpile_33) (st' := s_impl_zpile_33 l9_1) [.bit false, .num l9_1.length] 1000 (And.intro h9_0 (And.intro (lens l9_1.length l9_1.length rfl) True.intro)) ?_ (by kernel_rfl)
    exact hout l9_1 (Option.some.inj hm).symm

theorem ok_impl_zpile_0 (p0 : S_Piled) (r : (List Int)) (hm : m_impl_zpile_0 p0 = some r) : EvU ext tbl (.c c_impl_zpile_0) K_impl_zpile_0 (s_impl_zpile_0 p0) (Post vf_impl_zpile (res_impl_zpile r)) := by
  refine go_on (u' := .c c_impl_zpile_9) (K' := K_impl_zpile_9) (st' := s_impl_zpile_9 p0 0 ([86, 73, 68, 49, (wr .u8 (w64 (Int.tdiv p0.width 8))), (wr .u8 (w64 (Int.tdiv p0.height 8)))] : List Int)) [.rows (List.map (rI .u8) ([86, 73, 68, 49, (wr .u8 (w64 (Int.tdiv p0.width 8))), (wr .u8 (w64 (Int.tdiv p0.height 8)))] : List Int)), .num 6, .num p0.parts.length, .num (([86, 73, 68, 49, (wr .u8 (w64 (Int.tdiv p0.width 8))), (wr .u8 (w64 (Int.tdiv p0.height 8)))] : List Int).length)] 1000 (And.intro (by decide : (8 : Int) ≠ 0) (And.intro (by decide : (8 : Int) ≠ 0) (And.intro (Eq.refl (List.map (rI .u8) ([86, 73, 68, 49, (wr .u8 (w64 (Int.tdiv p0.width 8))), (wr .u8 (w64 (Int.tdiv p0.height 8)))] : List Int))) (And.intro (len_map (rI .u8) (show 6 = ([86, 73, 68, 49, (wr .u8 (w64 (Int.tdiv p0.width 8))), (wr .u8 (w64 (Int.tdiv p0.height 8)))] : List Int).length from rfl)) (And.intro (len_map (rL (rI .u8)) (show p0.parts.length = p0.parts.length from rfl)) (And.intro (lens 6 (([86, 73, 68, 49, (wr .u8 (w64 (Int.tdiv p0.width 8))), (wr .u8 (w64 (Int.tdiv p0.height 8)))] : List Int).length) rfl) True.intro)))))) ?_ (by kernel_rfl)
  obtain ⟨e, he, hm⟩ := bind_some hm
  refine loop_rule (u := .c c_impl_zpile_9) (K := K_impl_zpile_9) (Q := (Post vf_impl_zpile (res_impl_zpile r))) (b := lp_impl_zpile_9 p0) (We := O_impl_zpile_9 (Post vf_impl_zpile (res_impl_zpile r))) (stJ := fun s => s_impl_zpile_9 p0 s.1 s.2) (s := (0, ([86, 73, 68, 49, (wr .u8 (w64 (Int.tdiv p0.width 8))), (wr .u8 (w64 (Int.tdiv p0.height 8)))] : List Int))) (fun s y hb hin hout => ok_impl_zpile_9 p0 s.1 s.2 y hb (Post vf_impl_zpile (res_impl_zpile r)) hin hout) he ?_
  show EvU ext tbl (.c c_impl_zpile_33) K_impl_zpile_33 (s_impl_zpile_33 e) _
  exact ok_impl_zpile_33 e r hm

theorem ok_impl_zpile (p0 : S_Piled) (r : (List Int)) (hm : m_impl_zpile p0 = some r) : Runs ext tbl 117 (as_impl_zpile p0) (res_impl_zpile r) :=
  runs_of (vf := vf_impl_zpile) (by kernel_rfl) rfl (st := (enter vf_impl_zpile (as_impl_zpile p0)).getD default) (by kernel_rfl) (go_on [] 1000 True.intro (ok_impl_zpile_0 p0 r hm) (by kernel_rfl))
theorem ok_impl_ReadPartsC1_0 (p0 : Int) (r : S_Piled) (hm : m_impl_ReadPartsC1_0 p0 = some r) : EvU ext tbl (.c c_impl_ReadPartsC1_0) K_impl_ReadPartsC1_0 (s_impl_ReadPartsC1_0 p0) (Post vf_impl_ReadPartsC1 (res_impl_ReadPartsC1 r)) := by
  exact go_end [.rows (List.map rB ([] : List Bool)), .rows (List.map (rI .i64) ([] : List Int)), .rows (List.map (rL (rI .u8)) ([] : List (List Int)))] 1000 (And.intro (all_le0 rB ([] : List Bool) rfl) (And.intro (all_t rB ([] : List Bool) rfl) (And.intro (all_le0 (rI .i64) ([] : List Int) rfl) (And.intro (all_t (rI .i64) ([] : List Int) rfl) (And.intro (all_le0 (rL (rI .u8)) ([] : List (List Int)) rfl) (And.intro (all_t (rL (rI .u8)) ([] : List (List Int)) rfl) True.intro)))))) (congrArg res_impl_ReadPartsC1 (Option.some.inj hm)) (by kernel_rfl)

theorem ok_impl_ReadPartsC1 (p0 : Int) (r : S_Piled) (hm : m_impl_ReadPartsC1 p0 = some r) : Runs ext tbl 178 (as_impl_ReadPartsC1 p0) (res_impl_ReadPartsC1 r) :=
  runs_of (vf := vf_impl_ReadPartsC1) (by kernel_rfl) rfl (st := (enter vf_impl_ReadPartsC1 (as_impl_ReadPartsC1 p0)).getD default) (by kernel_rfl) (go_on [] 1000 True.intro (ok_impl_ReadPartsC1_0 p0 r hm) (by kernel_rfl))
def O_impl_zmagic_7 (Q : VX → St → Prop) (e : (Int) ⊕ ((Unit))) : Prop := match e with | .inl e => Q = Post vf_impl_zmagic (res_impl_zmagic e) | .inr e => EvU ext tbl (.c c_impl_zmagic_33) K_impl_zmagic_33 (s_impl_zmagic_33) Q
theorem ok_impl_zmagic_33 (r : Int) (hm : m_impl_zmagic_33 = some r) : EvU ext tbl (.c c_impl_zmagic_33) K_impl_zmagic_33 (s_impl_zmagic_33) (Post vf_impl_zmagic (res_impl_zmagic r)) := by
  exact go_end [] 1000 True.intro (congrArg res_impl_zmagic (Option.some.inj hm)) (by kernel_rfl)

theorem ok_impl_zmagic_7 (p0 : (List Int)) (p1 : ByteArray) (i7_0 : Int) (y : (Int) ⊕ ((Int) ⊕ ((Unit)))) (hm : m_impl_zmagic_7 p0 p1 i7_0 = some y) (Q : VX → St → Prop)
    (hin : ∀ s, y = .inl s → EvU ext tbl (.c c_impl_zmagic_7) K_impl_zmagic_7 (s_impl_zmagic_7 p0 p1 s) Q) (hout : ∀ e, y = .inr e → O_impl_zmagic_7 Q e) : EvU ext tbl (.c c_impl_zmagic_7) K_impl_zmagic_7 (s_impl_zmagic_7 p0 p1 i7_0) Q := by
  obtain ⟨h7_0, hm⟩ | ⟨h7_0, hm⟩ := split_ite hm
  · skip
    obtain ⟨h7_1, hm⟩ | ⟨h7_1, hm⟩ := split_ite hm
    · skip
      have hQ : Q = Post vf_impl_zmagic (res_impl_zmagic 2) := hout (.inl 2) (Option.some.inj hm).symm
      subst hQ
      exact go_end [.bit true, .num p0.length, .bit true] 1000 (And.intro h7_0 (And.intro (len_map (rI .u8) (show p0.length = p0.length from rfl)) (And.intro h7_1 True.intro))) (rfl : res_impl_zmagic 2 = res_impl_zmagic 2) (by kernel_rfl)
    · skip
      obtain ⟨x7_2, h7_2, hm⟩ := bind_some hm
      obtain ⟨x7_3, h7_3, hm⟩ := bind_some hm
      obtain ⟨h7_4, hm⟩ | ⟨h7_4, hm⟩ := split_ite hm
      · skip
        have hQ : Q = Post vf_impl_zmagic (res_impl_zmagic 4) := hout (.inl 4) (Option.some.inj hm).symm
        subst hQ
        exact go_end [.bit true, .num p0.length, .bit false, .row ((rI .u8) x7_2), .int x7_3, .bit true] 1000 (And.intro h7_0 (And.intro (len_map (rI .u8) (show p0.length = p0.length from rfl)) (And.intro h7_1 (And.intro (rd_nn h7_2) (And.intro (at_row (rI .u8) (rd_get h7_2)) (And.intro (sat_nn h7_3) (And.intro (sat_at h7_3) (And.intro h7_4 True.intro)))))))) (rfl : res_impl_zmagic 4 = res_impl_zmagic 4) (by kernel_rfl)
      · skip
        refine go_on (u' := .c c_impl_zmagic_7) (K' := K_impl_zmagic_7) (st' := s_impl_zmagic_7 p0 p1 (w64 (i7_0 + 1))) [.bit true, .num p0.length, .bit false, .row ((rI .u8) x7_2), .int x7_3, .bit false] 1000 (And.intro h7_0 (And.intro (len_map (rI .u8) (show p0.length = p0.length from rfl)) (And.intro h7_1 (And.intro (rd_nn h7_2) (And.intro (at_row (rI .u8) (rd_get h7_2)) (And.intro (sat_nn h7_3) (And.intro (sat_at h7_3) (And.intro h7_4 True.intro)))))))) ?_ (by kernel_rfl)
        exact hin (w64 (i7_0 + 1)) (Option.some.inj hm).symm
  · skip
    refine go_on (u' := .c c_impl_zmagic_33) (K' := K_impl_zmagic_33) (st' := s_impl_zmagic_33) [.bit false] 1000 (And.intro h7_0 True.intro) ?_ (by kernel_rfl)
    exact hout (.inr ()) (Option.some.inj hm).symm

theorem ok_impl_zmagic_0 (p0 : (List Int)) (p1 : ByteArray) (r : Int) (hm : m_impl_zmagic_0 p0 p1 = some r) : EvU ext tbl (.c c_impl_zmagic_0) K_impl_zmagic_0 (s_impl_zmagic_0 p0 p1) (Post vf_impl_zmagic (res_impl_zmagic r)) := by
  refine go_on (u' := .c c_impl_zmagic_7) (K' := K_impl_zmagic_7) (st' := s_impl_zmagic_7 p0 p1 0) [] 1000 True.intro ?_ (by kernel_rfl)
  obtain ⟨e, he, hm⟩ := bind_some hm
  refine loop_rule (u := .c c_impl_zmagic_7) (K := K_impl_zmagic_7) (Q := (Post vf_impl_zmagic (res_impl_zmagic r))) (b := lp_impl_zmagic_7 p0 p1) (We := O_impl_zmagic_7 (Post vf_impl_zmagic (res_impl_zmagic r))) (stJ := fun s => s_impl_zmagic_7 p0 p1 s) (s := 0) (fun s y hb hin hout => ok_impl_zmagic_7 p0 p1 s y hb (Post vf_impl_zmagic (res_impl_zmagic r)) hin hout) he ?_
  rcases e with e | e
  · skip
    exact congrArg (fun r => Post vf_impl_zmagic (res_impl_zmagic r)) (Option.some.inj hm).symm
  · skip
    show EvU ext tbl (.c c_impl_zmagic_33) K_impl_zmagic_33 (s_impl_zmagic_33) _
    exact ok_impl_zmagic_33 r hm

theorem ok_impl_zmagic (p0 : (List Int)) (p1 : ByteArray) (r : Int) (hm : m_impl_zmagic p0 p1 = some r) : Runs ext tbl 89 (as_impl_zmagic p0 p1) (res_impl_zmagic r) :=
  runs_of (vf := vf_impl_zmagic) (by kernel_rfl) rfl (st := (enter vf_impl_zmagic (as_impl_zmagic p0 p1)).getD default) (by kernel_rfl) (go_on [] 1000 True.intro (ok_impl_zmagic_0 p0 p1 r hm) (by kernel_rfl))
theorem ok_impl_zget4_0 (p0 : (List Int)) (r : Int) (hm : m_impl_zget4_0 p0 = some r) : EvU ext tbl (.c c_impl_zget4_0) K_impl_zget4_0 (s_impl_zget4_0 p0) (Post vf_impl_zget4 (res_impl_zget4 r)) := by
  obtain ⟨x0_0, h0_0, hm⟩ := bind_some hm
  obtain ⟨x0_1, h0_1, hm⟩ := bind_some hm
  obtain ⟨x0_2, h0_2, hm⟩ := bind_some hm
  obtain ⟨x0_3, h0_3, hm⟩ := bind_some hm
  exact go_end [.row ((rI .u8) x0_0), .row ((rI .u8) x0_1), .row ((rI .u8) x0_2), .row ((rI .u8) x0_3)] 1000 (And.intro (rd_nn h0_0) (And.intro (at_row (rI .u8) (rd_get h0_0)) (And.intro (by decide : (0 : Int) ≤ 24) (And.intro (rd_nn h0_1) (And.intro (at_row (rI .u8) (rd_get h0_1)) (And.intro (by decide : (0 : Int) ≤ 16) (And.intro (rd_nn h0_2) (And.intro (at_row (rI .u8) (rd_get h0_2)) (And.intro (by decide : (0 : Int) ≤ 8) (And.intro (rd_nn h0_3) (And.intro (at_row (rI .u8) (rd_get h0_3)) True.intro))))))))))) (congrArg res_impl_zget4 (Option.some.inj hm)) (by kernel_rfl)

theorem ok_impl_zget4 (p0 : (List Int)) (r : Int) (hm : m_impl_zget4 p0 = some r) : Runs ext tbl 179 (as_impl_zget4 p0) (res_impl_zget4 r) :=
  runs_of (vf := vf_impl_zget4) (by kernel_rfl) rfl (st := (enter vf_impl_zget4 (as_impl_zget4 p0)).getD default) (by kernel_rfl) (go_on [] 1000 True.intro (ok_impl_zget4_0 p0 r hm) (by kernel_rfl))
def O_impl_ReadParts_40 (Q : VX → St → Prop) (e : ((Int × Int × (List Bool) × (List Int) × (List (List Int)))) ⊕ (S_Piled)) : Prop := match e with | .inl e => EvU ext tbl (.c c_impl_ReadParts_95) K_impl_ReadParts_95 (s_impl_ReadParts_95 e.1 e.2.1 e.2.2.1 e.2.2.2.1 e.2.2.2.2) Q | .inr e => Q = Post vf_impl_ReadParts (res_impl_ReadParts e)
theorem ok_impl_ReadParts_83 (l40_0 : (List Int)) (i77_0 : Int) (i77_1 : Int) (b77_2 : Bool) (i40_1 : Int) (i40_2 : Int) (l40_3 : (List Bool)) (l40_4 : (List Int)) (l40_5 : (List (List Int))) (b83_0 : Bool) (y : ((List Int) × Int × Int × (List Bool) × (List Int) × (List (List Int))) ⊕ (((Int × Int × (List Bool) × (List Int) × (List (List Int)))) ⊕ (S_Piled))) (hm : m_impl_ReadParts_83 l40_0 i77_0 i77_1 b77_2 i40_1 i40_2 l40_3 l40_4 l40_5 b83_0 = some y) (Q : VX → St → Prop)
    (hin : ∀ s, y = .inl s → EvU ext tbl (.c c_impl_ReadParts_40) K_impl_ReadParts_40 (s_impl_ReadParts_40 s.1 s.2.1 s.2.2.1 s.2.2.2.1 s.2.2.2.2.1 s.2.2.2.2.2) Q) (hout : ∀ e, y = .inr e → O_impl_ReadParts_40 Q e) : EvU ext tbl (.c c_impl_ReadParts_83) K_impl_ReadParts_83 (s_impl_ReadParts_83 l40_0 i77_0 i77_1 b77_2 i40_1 i40_2 l40_3 l40_4 l40_5 b83_0) Q := by
  obtain ⟨h83_0, hm⟩ | ⟨h83_0, hm⟩ := split_ite hm
  · skip
    obtain ⟨x83_1, h83_1, hm⟩ := bind_some hm
    have hQ : Q = Post vf_impl_ReadParts (res_impl_ReadParts x83_1) := hout (.inr x83_1) (Option.some.inj hm).symm
    subst hQ
    exact go_end [.bit true, .res (res_impl_ReadPartsC1 x83_1), .num x83_1.keys.length, .num x83_1.steps.length, .num x83_1.parts.length, .rows (List.map rB x83_1.keys), .rows (List.map (rI .i64) x83_1.steps), .rows (List.map (rL (rI .u8)) x83_1.parts)] 1000 (And.intro h83_0 (And.intro (ok_impl_ReadPartsC1 7 x83_1 h83_1) (And.intro (len_map rB (show x83_1.keys.length = x83_1.keys.length from rfl)) (And.intro (len_map (rI .i64) (show x83_1.steps.length = x83_1.steps.length from rfl)) (And.intro (len_map (rL (rI .u8)) (show x83_1.parts.length = x83_1.parts.length from rfl)) (And.intro (all_le0 rB x83_1.keys rfl) (And.intro (all_t rB x83_1.keys rfl) (And.intro (all_le0 (rI .i64) x83_1.steps rfl) (And.intro (all_t (rI .i64) x83_1.steps rfl) (And.intro (all_le0 (rL (rI .u8)) x83_1.parts rfl) (And.intro (all_t (rL (rI .u8)) x83_1.parts rfl) True.intro))))))))))) (rfl : res_impl_ReadParts x83_1 = res_impl_ReadParts x83_1) (by kernel_rfl)
  · skip
    obtain ⟨x83_1, h83_1, hm⟩ := bind_some hm
    obtain ⟨x83_2, h83_2, hm⟩ := bind_some hm
    obtain ⟨x83_3, h83_3, hm⟩ := bind_some hm
    obtain ⟨x83_4, h83_4, hm⟩ := bind_some hm
    obtain ⟨x83_5, h83_5, hm⟩ := bind_some hm
    obtain ⟨x83_6, h83_6, hm⟩ := bind_some hm
    obtain ⟨x83_7, h83_7, hm⟩ := bind_some hm
    refine go_on (u' := .c c_impl_ReadParts_40) (K' := K_impl_ReadParts_40) (st' := s_impl_ReadParts_40 (l40_0.drop (Int.toNat (w64 (i77_0 + 4)))) i40_1 i40_2 (l40_3 ++ ([b77_2] : List Bool)) (l40_4 ++ ([i77_1] : List Int)) (l40_5 ++ ([(([] : List Int) ++ ((l40_0.take (Int.toNat i77_0)).drop (Int.toNat 5)))] : List (List Int)))) [.bit false, .rows (List.map rB ([b77_2] : List Bool)), .num 1, .rows (List.map rB (l40_3 ++ ([b77_2] : List Bool))), .num ((l40_3 ++ ([b77_2] : List Bool)).length), .rows (List.map (rI .i64) ([i77_1] : List Int)), .num 1, .rows (List.map (rI .i64) (l40_4 ++ ([i77_1] : List Int))), .num ((l40_4 ++ ([i77_1] : List Int)).length), .rows (List.map (rI .u8) ((l40_0.take (Int.toNat i77_0)).drop (Int.toNat 5))), .rows (List.map (rI .u8) ([] : List Int)), .num 0, .rows (List.map (rI .u8) (([] : List Int) ++ ((l40_0.take (Int.toNat i77_0)).drop (Int.toNat 5)))), .num ((([] : List Int) ++ ((l40_0.take (Int.toNat i77_0)).drop (Int.toNat 5))).length), .rows (List.map (rI .u8) (([] : List Int) ++ ((l40_0.take (Int.toNat i77_0)).drop (Int.toNat 5)))), .rows (List.map (rL (rI .u8)) ([(([] : List Int) ++ ((l40_0.take (Int.toNat i77_0)).drop (Int.toNat 5)))] : List (List Int))), .num 1, .rows (List.map (rL (rI .u8)) (l40_5 ++ ([(([] : List Int) ++ ((l40_0.take (Int.toNat i77_0)).drop (Int.toNat 5)))] : List (List Int)))), .num ((l40_5 ++ ([(([] : List Int) ++ ((l40_0.take (Int.toNat i77_0)).drop (Int.toNat 5)))] : List (List Int))).length), .rows (List.map (rI .u8) (l40_0.drop (Int.toNat (w64 (i77_0 + 4))))), .num (([] : List Bool).length), .num (([] : List Int).length), .num (([] : List (List Int)).length), .num ((l40_3 ++ ([b77_2] : List Bool)).length), .num ((l40_4 ++ ([i77_1] : List Int)).length), .num ((l40_5 ++ ([(([] : List Int) ++ ((l40_0.take (Int.toNat i77_0)).drop (Int.toNat 5)))] : List (List Int))).length)] 1000 (And.intro h83_0 (And.intro (Eq.refl (List.map rB ([b77_2] : List Bool))) (And.intro (len_map rB (show 1 = ([b77_2] : List Bool).length from rfl)) (And.intro (all_le rB ([b77_2] : List Bool) rfl) (And.intro (app_ck rB l40_3 ([b77_2] : List Bool) rfl rfl h83_1) (And.intro (app_tell rB l40_3 ([b77_2] : List Bool) rfl rfl) (And.intro (len_map rB (show (l40_3 ++ ([b77_2] : List Bool)).length = (l40_3 ++ ([b77_2] : List Bool)).length from rfl)) (And.intro (Eq.refl (List.map (rI .i64) ([i77_1] : List Int))) (And.intro (len_map (rI .i64) (show 1 = ([i77_1] : List Int).length from rfl)) (And.intro (all_le (rI .i64) ([i77_1] : List Int) rfl) (And.intro (app_ck (rI .i64) l40_4 ([i77_1] : List Int) rfl rfl h83_2) (And.intro (app_tell (rI .i64) l40_4 ([i77_1] : List Int) rfl rfl) (And.intro (len_map (rI .i64) (show (l40_4 ++ ([i77_1] : List Int)).length = (l40_4 ++ ([i77_1] : List Int)).length from rfl)) (And.intro (slc_hi (rI .u8) l40_0 (ck_p h83_3)) (And.intro (ck_p h83_4) (And.intro (slc_tell (rI .u8) l40_0 (Int.toNat 5) (Int.toNat i77_0)) (And.intro (Eq.refl (List.map (rI .u8) ([] : List Int))) (And.intro (len_map (rI .u8) (show 0 = ([] : List Int).length from rfl)) (And.intro (app_ck_ro (rI .u8) ([] : List Int) ((l40_0.take (Int.toNat i77_0)).drop (Int.toNat 5)) rfl h83_5) (And.intro (app_tell_ro (rI .u8) ([] : List Int) ((l40_0.take (Int.toNat i77_0)).drop (Int.toNat 5)) rfl) (And.intro (len_map (rI .u8) (show (([] : List Int) ++ ((l40_0.take (Int.toNat i77_0)).drop (Int.toNat 5))).length = (([] : List Int) ++ ((l40_0.take (Int.toNat i77_0)).drop (Int.toNat 5))).length from rfl)) (And.intro (all_le0 (rI .u8) (([] : List Int) ++ ((l40_0.take (Int.toNat i77_0)).drop (Int.toNat 5))) rfl) (And.intro (all_t (rI .u8) (([] : List Int) ++ ((l40_0.take (Int.toNat i77_0)).drop (Int.toNat 5))) rfl) (And.intro (Eq.refl (List.map (rL (rI .u8)) ([(([] : List Int) ++ ((l40_0.take (Int.toNat i77_0)).drop (Int.toNat 5)))] : List (List Int)))) (And.intro (len_map (rL (rI .u8)) (show 1 = ([(([] : List Int) ++ ((l40_0.take (Int.toNat i77_0)).drop (Int.toNat 5)))] : List (List Int)).length from rfl)) (And.intro (all_eq (rL (rI .u8)) ([(([] : List Int) ++ ((l40_0.take (Int.toNat i77_0)).drop (Int.toNat 5)))] : List (List Int)) rfl) (And.intro (all_le (rL (rI .u8)) ([(([] : List Int) ++ ((l40_0.take (Int.toNat i77_0)).drop (Int.toNat 5)))] : List (List Int)) rfl) (And.intro (app_ck_ro (rL (rI .u8)) l40_5 ([(([] : List Int) ++ ((l40_0.take (Int.toNat i77_0)).drop (Int.toNat 5)))] : List (List Int)) rfl h83_6) (And.intro (app_tell_ro (rL (rI .u8)) l40_5 ([(([] : List Int) ++ ((l40_0.take (Int.toNat i77_0)).drop (Int.toNat 5)))] : List (List Int)) rfl) (And.intro (len_map (rL (rI .u8)) (show (l40_5 ++ ([(([] : List Int) ++ ((l40_0.take (Int.toNat i77_0)).drop (Int.toNat 5)))] : List (List Int))).length = (l40_5 ++ ([(([] : List Int) ++ ((l40_0.take (Int.toNat i77_0)).drop (Int.toNat 5)))] : List (List Int))).length from rfl)) (And.intro (slc_hi (rI .u8) l40_0 (ck_p h83_7)) (And.intro (slc_tell2 (rI .u8) l40_0 (Int.toNat (w64 (i77_0 + 4)))) (And.intro (lens (([] : List Bool).length) (([] : List Bool).length) rfl) (And.intro (lens (([] : List Int).length) (([] : List Int).length) rfl) (And.intro (lens (([] : List (List Int)).length) (([] : List (List Int)).length) rfl) (And.intro (lens ((l40_3 ++ ([b77_2] : List Bool)).length) ((l40_3 ++ ([b77_2] : List Bool)).length) rfl) (And.intro (lens ((l40_4 ++ ([i77_1] : List Int)).length) ((l40_4 ++ ([i77_1] : List Int)).length) rfl) (And.intro (lens ((l40_5 ++ ([(([] : List Int) ++ ((l40_0.take (Int.toNat i77_0)).drop (Int.toNat 5)))] : List (List Int))).length) ((l40_5 ++ ([(([] : List Int) ++ ((l40_0.take (Int.toNat i77_0)).drop (Int.toNat 5)))] : List (List Int))).length) rfl) True.intro)))))))))))))))))))))))))))))))))))))) ?_ (by kernel_rfl)
    exact hin ((l40_0.drop (Int.toNat (w64 (i77_0 + 4)))), i40_1, i40_2, (l40_3 ++ ([b77_2] : List Bool)), (l40_4 ++ ([i77_1] : List Int)), (l40_5 ++ ([(([] : List Int) ++ ((l40_0.take (Int.toNat i77_0)).drop (Int.toNat 5)))] : List (List Int)))) (Option.some.inj hm).symm

theorem ok_impl_ReadParts_77 (l40_0 : (List Int)) (i40_1 : Int) (i40_2 : Int) (l40_3 : (List Bool)) (l40_4 : (List Int)) (l40_5 : (List (List Int))) (i77_0 : Int) (i77_1 : Int) (b77_2 : Bool) (b77_3 : Bool) (y : ((List Int) × Int × Int × (List Bool) × (List Int) × (List (List Int))) ⊕ (((Int × Int × (List Bool) × (List Int) × (List (List Int)))) ⊕ (S_Piled))) (hm : m_impl_ReadParts_77 l40_0 i40_1 i40_2 l40_3 l40_4 l40_5 i77_0 i77_1 b77_2 b77_3 = some y) (Q : VX → St → Prop)
    (hin : ∀ s, y = .inl s → EvU ext tbl (.c c_impl_ReadParts_40) K_impl_ReadParts_40 (s_impl_ReadParts_40 s.1 s.2.1 s.2.2.1 s.2.2.2.1 s.2.2.2.2.1 s.2.2.2.2.2) Q) (hout : ∀ e, y = .inr e → O_impl_ReadParts_40 Q e) : EvU ext tbl (.c c_impl_ReadParts_77) K_impl_ReadParts_77 (s_impl_ReadParts_77 l40_0 i40_1 i40_2 l40_3 l40_4 l40_5 i77_0 i77_1 b77_2 b77_3) Q := by
  obtain ⟨h77_0, hm⟩ | ⟨h77_0, hm⟩ := split_ite hm
  · skip
    obtain ⟨x77_1, h77_1, hm⟩ := bind_some hm
    have hQ : Q = Post vf_impl_ReadParts (res_impl_ReadParts x77_1) := hout (.inr x77_1) (Option.some.inj hm).symm
    subst hQ
    exact go_end [.bit true, .res (res_impl_ReadPartsC1 x77_1), .num x77_1.keys.length, .num x77_1.steps.length, .num x77_1.parts.length, .rows (List.map rB x77_1.keys), .rows (List.map (rI .i64) x77_1.steps), .rows (List.map (rL (rI .u8)) x77_1.parts)] 1000 (And.intro h77_0 (And.intro (ok_impl_ReadPartsC1 6 x77_1 h77_1) (And.intro (len_map rB (show x77_1.keys.length = x77_1.keys.length from rfl)) (And.intro (len_map (rI .i64) (show x77_1.steps.length = x77_1.steps.length from rfl)) (And.intro (len_map (rL (rI .u8)) (show x77_1.parts.length = x77_1.parts.length from rfl)) (And.intro (all_le0 rB x77_1.keys rfl) (And.intro (all_t rB x77_1.keys rfl) (And.intro (all_le0 (rI .i64) x77_1.steps rfl) (And.intro (all_t (rI .i64) x77_1.steps rfl) (And.intro (all_le0 (rL (rI .u8)) x77_1.parts rfl) (And.intro (all_t (rL (rI .u8)) x77_1.parts rfl) True.intro))))))))))) (rfl : res_impl_ReadParts x77_1 = res_impl_ReadParts x77_1) (by kernel_rfl)
  · skip
    obtain ⟨h77_1, hm⟩ | ⟨h77_1, hm⟩ := split_ite hm
    · skip
      refine go_on (u' := .c c_impl_ReadParts_83) (K' := K_impl_ReadParts_83) (st' := s_impl_ReadParts_83 l40_0 i77_0 i77_1 b77_2 i40_1 i40_2 l40_3 l40_4 l40_5 true) [.bit false, .bit true, .bit true, .bit true, .bit true, .bit true, .bit true, .bit true, .bit true, .bit true, .bit true, .bit true, .bit true, .num (([] : List Bool).length), .num (([] : List Int).length), .num (([] : List (List Int)).length), .num l40_3.length, .num l40_4.length, .num l40_5.length] 1000 (And.intro h77_0 (And.intro h77_1 (And.intro h77_1 (And.intro h77_1 (And.intro h77_1 (And.intro h77_1 (And.intro h77_1 (And.intro h77_1 (And.intro h77_1 (And.intro h77_1 (And.intro h77_1 (And.intro h77_1 (And.intro h77_1 (And.intro (lens (([] : List Bool).length) (([] : List Bool).length) rfl) (And.intro (lens (([] : List Int).length) (([] : List Int).length) rfl) (And.intro (lens (([] : List (List Int)).length) (([] : List (List Int)).length) rfl) (And.intro (lens l40_3.length l40_3.length rfl) (And.intro (lens l40_4.length l40_4.length rfl) (And.intro (lens l40_5.length l40_5.length rfl) True.intro))))))))))))))))))) ?_ (by kernel_rfl)
      exact ok_impl_ReadParts_83 l40_0 i77_0 i77_1 b77_2 i40_1 i40_2 l40_3 l40_4 l40_5 true y hm Q hin hout
    · skip
      refine go_on (u' := .c c_impl_ReadParts_83) (K' := K_impl_ReadParts_83) (st' := s_impl_ReadParts_83 l40_0 i77_0 i77_1 b77_2 i40_1 i40_2 l40_3 l40_4 l40_5 (decide ((w64 ((w64 ((w64 ((l40_5.length : Int) + 1)) * i40_1)) * i40_2)) > 8192))) [.bit false, .bit false, .bit false, .bit false, .bit false, .bit false, .bit false, .bit false, .bit false, .bit false, .bit false, .bit false, .bit false, .num (([] : List Bool).length), .num (([] : List Int).length), .num (([] : List (List Int)).length), .num l40_3.length, .num l40_4.length, .num l40_5.length] 1000 (And.intro h77_0 (And.intro h77_1 (And.intro h77_1 (And.intro h77_1 (And.intro h77_1 (And.intro h77_1 (And.intro h77_1 (And.intro h77_1 (And.intro h77_1 (And.intro h77_1 (And.intro h77_1 (And.intro h77_1 (And.intro h77_1 (And.intro (lens (([] : List Bool).length) (([] : List Bool).length) rfl) (And.intro (lens (([] : List Int).length) (([] : List Int).length) rfl) (And.intro (lens (([] : List (List Int)).length) (([] : List (List Int)).length) rfl) (And.intro (lens l40_3.length l40_3.length rfl) (And.intro (lens l40_4.length l40_4.length rfl) (And.intro (lens l40_5.length l40_5.length rfl) True.intro))))))))))))))))))) ?_ (by kernel_rfl)
      exact ok_impl_ReadParts_83 l40_0 i77_0 i77_1 b77_2 i40_1 i40_2 l40_3 l40_4 l40_5 (decide ((w64 ((w64 ((w64 ((l40_5.length : Int) + 1)) * i40_1)) * i40_2)) > 8192)) y hm Q hin hout

theorem ok_impl_ReadParts_50 (l40_0 : (List Int)) (i40_1 : Int) (i40_2 : Int) (l40_3 : (List Bool)) (l40_4 : (List Int)) (l40_5 : (List (List Int))) (b50_0 : Bool) (y : ((List Int) × Int × Int × (List Bool) × (List Int) × (List (List Int))) ⊕ (((Int × Int × (List Bool) × (List Int) × (List (List Int)))) ⊕ (S_Piled))) (hm : m_impl_ReadParts_50 l40_0 i40_1 i40_2 l40_3 l40_4 l40_5 b50_0 = some y) (Q : VX → St → Prop)
    (hin : ∀ s, y = .inl s → EvU ext tbl (.c c_impl_ReadParts_40) K_impl_ReadParts_40 (s_impl_ReadParts_40 s.1 s.2.1 s.2.2.1 s.2.2.2.1 s.2.2.2.2.1 s.2.2.2.2.2) Q) (hout : ∀ e, y = .inr e → O_impl_ReadParts_40 Q e) : EvU ext tbl (.c c_impl_ReadParts_50) K_impl_ReadParts_50 (s_impl_ReadParts_50 l40_0 i40_1 i40_2 l40_3 l40_4 l40_5 b50_0) Q := by
  obtain ⟨h50_0, hm⟩ | ⟨h50_0, hm⟩ := split_ite hm
  · skip
    obtain ⟨x50_1, h50_1, hm⟩ := bind_some hm
    have hQ : Q = Post vf_impl_ReadParts (res_impl_ReadParts x50_1) := hout (.inr x50_1) (Option.some.inj hm).symm
    subst hQ
    exact go_end [.bit true, .res (res_impl_ReadPartsC1 x50_1), .num x50_1.keys.length, .num x50_1.steps.length, .num x50_1.parts.length, .rows (List.map rB x50_1.keys), .rows (List.map (rI .i64) x50_1.steps), .rows (List.map (rL (rI .u8)) x50_1.parts)] 1000 (And.intro h50_0 (And.intro (ok_impl_ReadPartsC1 2 x50_1 h50_1) (And.intro (len_map rB (show x50_1.keys.length = x50_1.keys.length from rfl)) (And.intro (len_map (rI .i64) (show x50_1.steps.length = x50_1.steps.length from rfl)) (And.intro (len_map (rL (rI .u8)) (show x50_1.parts.length = x50_1.parts.length from rfl)) (And.intro (all_le0 rB x50_1.keys rfl) (And.intro (all_t rB x50_1.keys rfl) (And.intro (all_le0 (rI .i64) x50_1.steps rfl) (And.intro (all_t (rI .i64) x50_1.steps rfl) (And.intro (all_le0 (rL (rI .u8)) x50_1.parts rfl) (And.intro (all_t (rL (rI .u8)) x50_1.parts rfl) True.intro))))))))))) (rfl : res_impl_ReadParts x50_1 = res_impl_ReadParts x50_1) (by kernel_rfl)
  · skip
    obtain ⟨x50_1, h50_1, hm⟩ := bind_some hm
    obtain ⟨x50_2, h50_2, hm⟩ := bind_some hm
    obtain ⟨x50_3, h50_3, hm⟩ := bind_some hm
    obtain ⟨h50_4, hm⟩ | ⟨h50_4, hm⟩ := split_ite hm
    · skip
      obtain ⟨x50_5, h50_5, hm⟩ := bind_some hm
      have hQ : Q = Post vf_impl_ReadParts (res_impl_ReadParts x50_5) := hout (.inr x50_5) (Option.some.inj hm).symm
      subst hQ
      exact go_end [.bit false, .rows (List.map (rI .u8) (l40_0.drop (Int.toNat 1))), .res (res_impl_zget4 x50_2), .row ((rI .u8) x50_3), .row ((rI .u8) x50_3), .bit true, .res (res_impl_ReadPartsC1 x50_5), .num x50_5.keys.length, .num x50_5.steps.length, .num x50_5.parts.length, .rows (List.map rB x50_5.keys), .rows (List.map (rI .i64) x50_5.steps), .rows (List.map (rL (rI .u8)) x50_5.parts)] 1000 (And.intro h50_0 (And.intro (slc_hi (rI .u8) l40_0 (ck_p h50_1)) (And.intro (slc_tell2 (rI .u8) l40_0 (Int.toNat 1)) (And.intro (ok_impl_zget4 (l40_0.drop (Int.toNat 1)) x50_2 h50_2) (And.intro (rd_nn h50_3) (And.intro (at_row (rI .u8) (rd_get h50_3)) (And.intro (rd_nn h50_3) (And.intro (at_row (rI .u8) (rd_get h50_3)) (And.intro h50_4 (And.intro (ok_impl_ReadPartsC1 5 x50_5 h50_5) (And.intro (len_map rB (show x50_5.keys.length = x50_5.keys.length from rfl)) (And.intro (len_map (rI .i64) (show x50_5.steps.length = x50_5.steps.length from rfl)) (And.intro (len_map (rL (rI .u8)) (show x50_5.parts.length = x50_5.parts.length from rfl)) (And.intro (all_le0 rB x50_5.keys rfl) (And.intro (all_t rB x50_5.keys rfl) (And.intro (all_le0 (rI .i64) x50_5.steps rfl) (And.intro (all_t (rI .i64) x50_5.steps rfl) (And.intro (all_le0 (rL (rI .u8)) x50_5.parts rfl) (And.intro (all_t (rL (rI .u8)) x50_5.parts rfl) True.intro))))))))))))))))))) (rfl : res_impl_ReadParts x50_5 = res_impl_ReadParts x50_5) (by kernel_rfl)
    · skip
      obtain ⟨x50_5, h50_5, hm⟩ := bind_some hm
      obtain ⟨x50_6, h50_6, hm⟩ := bind_some hm
      obtain ⟨x50_7, h50_7, hm⟩ := bind_some hm
      obtain ⟨h50_8, hm⟩ | ⟨h50_8, hm⟩ := split_ite hm
      · skip
        obtain ⟨x50_9, h50_9, hm⟩ := bind_some hm
        have hQ : Q = Post vf_impl_ReadParts (res_impl_ReadParts x50_9) := hout (.inr x50_9) (Option.some.inj hm).symm
        subst hQ
        exact go_end [.bit false, .rows (List.map (rI .u8) (l40_0.drop (Int.toNat 1))), .res (res_impl_zget4 x50_2), .row ((rI .u8) x50_3), .row ((rI .u8) x50_3), .bit false, .rows (List.map (rI .u8) (l40_0.drop (Int.toNat (w64 (5 + x50_2))))), .res (res_impl_zget4 x50_6), .rows (List.map (rI .u8) ((l40_0.take (Int.toNat (w64 (5 + x50_2)))).drop 0)), .res (res_impl_Crc x50_7), .bit true, .res (res_impl_ReadPartsC1 x50_9), .num x50_9.keys.length, .num x50_9.steps.length, .num x50_9.parts.length, .rows (List.map rB x50_9.keys), .rows (List.map (rI .i64) x50_9.steps), .rows (List.map (rL (rI .u8)) x50_9.parts)] 1000 (And.intro h50_0 (And.intro (slc_hi (rI .u8) l40_0 (ck_p h50_1)) (And.intro (slc_tell2 (rI .u8) l40_0 (Int.toNat 1)) (And.intro (ok_impl_zget4 (l40_0.drop (Int.toNat 1)) x50_2 h50_2) (And.intro (rd_nn h50_3) (And.intro (at_row (rI .u8) (rd_get h50_3)) (And.intro (rd_nn h50_3) (And.intro (at_row (rI .u8) (rd_get h50_3)) (And.intro h50_4 (And.intro (slc_hi (rI .u8) l40_0 (ck_p h50_5)) (And.intro (slc_tell2 (rI .u8) l40_0 (Int.toNat (w64 (5 + x50_2)))) (And.intro (ok_impl_zget4 (l40_0.drop (Int.toNat (w64 (5 + x50_2)))) x50_6 h50_6) (And.intro (slc_hi (rI .u8) l40_0 (ck_p h50_5)) (And.intro (slc_tell (rI .u8) l40_0 0 (Int.toNat (w64 (5 + x50_2)))) (And.intro (ok_impl_Crc ((l40_0.take (Int.toNat (w64 (5 + x50_2)))).drop 0) x50_7 h50_7) (And.intro h50_8 (And.intro (ok_impl_ReadPartsC1 3 x50_9 h50_9) (And.intro (len_map rB (show x50_9.keys.length = x50_9.keys.length from rfl)) (And.intro (len_map (rI .i64) (show x50_9.steps.length = x50_9.steps.length from rfl)) (And.intro (len_map (rL (rI .u8)) (show x50_9.parts.length = x50_9.parts.length from rfl)) (And.intro (all_le0 rB x50_9.keys rfl) (And.intro (all_t rB x50_9.keys rfl) (And.intro (all_le0 (rI .i64) x50_9.steps rfl) (And.intro (all_t (rI .i64) x50_9.steps rfl) (And.intro (all_le0 (rL (rI .u8)) x50_9.parts rfl) (And.intro (all_t (rL (rI .u8)) x50_9.parts rfl) True.intro)))))))))))))))))))))))))) (rfl : res_impl_ReadParts x50_9 = res_impl_ReadParts x50_9) (by kernel_rfl)
      · skip
        obtain ⟨h50_9, hm⟩ | ⟨h50_9, hm⟩ := split_ite hm
        · skip
          refine go_on (u' := .c c_impl_ReadParts_77) (K' := K_impl_ReadParts_77) (st' := s_impl_ReadParts_77 l40_0 i40_1 i40_2 l40_3 l40_4 l40_5 (w64 (5 + x50_2)) (w64 (andI .u8 x50_3 127)) (decide (x50_3 > 127)) (!(decide (x50_3 > 127)))) [.bit false, .rows (List.map (rI .u8) (l40_0.drop (Int.toNat 1))), .res (res_impl_zget4 x50_2), .row ((rI .u8) x50_3), .row ((rI .u8) x50_3), .bit false, .rows (List.map (rI .u8) (l40_0.drop (Int.toNat (w64 (5 + x50_2))))), .res (res_impl_zget4 x50_6), .rows (List.map (rI .u8) ((l40_0.take (Int.toNat (w64 (5 + x50_2)))).drop 0)), .res (res_impl_Crc x50_7), .bit false, .bit true, .bit true, .bit true, .num (([] : List Bool).length), .num (([] : List Int).length), .num (([] : List (List Int)).length), .num l40_3.length, .num l40_4.length, .num l40_5.length] 1000 (And.intro h50_0 (And.intro (slc_hi (rI .u8) l40_0 (ck_p h50_1)) (And.intro (slc_tell2 (rI .u8) l40_0 (Int.toNat 1)) (And.intro (ok_impl_zget4 (l40_0.drop (Int.toNat 1)) x50_2 h50_2) (And.intro (rd_nn h50_3) (And.intro (at_row (rI .u8) (rd_get h50_3)) (And.intro (rd_nn h50_3) (And.intro (at_row (rI .u8) (rd_get h50_3)) (And.intro h50_4 (And.intro (slc_hi (rI .u8) l40_0 (ck_p h50_5)) (And.intro (slc_tell2 (rI .u8) l40_0 (Int.toNat (w64 (5 + x50_2)))) (And.intro (ok_impl_zget4 (l40_0.drop (Int.toNat (w64 (5 + x50_2)))) x50_6 h50_6) (And.intro (slc_hi (rI .u8) l40_0 (ck_p h50_5)) (And.intro (slc_tell (rI .u8) l40_0 0 (Int.toNat (w64 (5 + x50_2)))) (And.intro (ok_impl_Crc ((l40_0.take (Int.toNat (w64 (5 + x50_2)))).drop 0) x50_7 h50_7) (And.intro h50_8 (And.intro h50_9 (And.intro h50_9 (And.intro h50_9 (And.intro (lens (([] : List Bool).length) (([] : List Bool).length) rfl) (And.intro (lens (([] : List Int).length) (([] : List Int).length) rfl) (And.intro (lens (([] : List (List Int)).length) (([] : List (List Int)).length) rfl) (And.intro (lens l40_3.length l40_3.length rfl) (And.intro (lens l40_4.length l40_4.length rfl) (And.intro (lens l40_5.length l40_5.length rfl) True.intro))))))))))))))))))))))))) ?_ (by kernel_rfl)
          exact ok_impl_ReadParts_77 l40_0 i40_1 i40_2 l40_3 l40_4 l40_5 (w64 (5 + x50_2)) (w64 (andI .u8 x50_3 127)) (decide (x50_3 > 127)) (!(decide (x50_3 > 127))) y hm Q hin hout
        · skip
          refine go_on (u' := .c c_impl_ReadParts_77) (K' := K_impl_ReadParts_77) (st' := s_impl_ReadParts_77 l40_0 i40_1 i40_2 l40_3 l40_4 l40_5 (w64 (5 + x50_2)) (w64 (andI .u8 x50_3 127)) (decide (x50_3 > 127)) false) [.bit false, .rows (List.map (rI .u8) (l40_0.drop (Int.toNat 1))), .res (res_impl_zget4 x50_2), .row ((rI .u8) x50_3), .row ((rI .u8) x50_3), .bit false, .rows (List.map (rI .u8) (l40_0.drop (Int.toNat (w64 (5 + x50_2))))), .res (res_impl_zget4 x50_6), .rows (List.map (rI .u8) ((l40_0.take (Int.toNat (w64 (5 + x50_2)))).drop 0)), .res (res_impl_Crc x50_7), .bit false, .bit false, .bit false, .bit false, .num (([] : List Bool).length), .num (([] : List Int).length), .num (([] : List (List Int)).length), .num l40_3.length, .num l40_4.length, .num l40_5.length] 1000 (And.intro h50_0 (And.intro (slc_hi (rI .u8) l40_0 (ck_p h50_1)) (And.intro (slc_tell2 (rI .u8) l40_0 (Int.toNat 1)) (And.intro (ok_impl_zget4 (l40_0.drop (Int.toNat 1)) x50_2 h50_2) (And.intro (rd_nn h50_3) (And.intro (at_row (rI .u8) (rd_get h50_3)) (And.intro (rd_nn h50_3) (And.intro (at_row (rI .u8) (rd_get h50_3)) (And.intro h50_4 (And.intro (slc_hi (rI .u8) l40_0 (ck_p h50_5)) (And.intro (slc_tell2 (rI .u8) l40_0 (Int.toNat (w64 (5 + x50_2)))) (And.intro (ok_impl_zget4 (l40_0.drop (Int.toNat (w64 (5 + x50_2)))) x50_6 h50_6) (And.intro (slc_hi (rI .u8) l40_0 (ck_p h50_5)) (And.intro (slc_tell (rI .u8) l40_0 0 (Int.toNat (w64 (5 + x50_2)))) (And.intro (ok_impl_Crc ((l40_0.take (Int.toNat (w64 (5 + x50_2)))).drop 0) x50_7 h50_7) (And.intro h50_8 (And.intro h50_9 (And.intro h50_9 (And.intro h50_9 (And.intro (lens (([] : List Bool).length) (([] : List Bool).length) rfl) (And.intro (lens (([] : List Int).length) (([] : List Int).length) rfl) (And.intro (lens (([] : List (List Int)).length) (([] : List (List Int)).length) rfl) (And.intro (lens l40_3.length l40_3.length rfl) (And.intro (lens l40_4.length l40_4.length rfl) (And.intro (lens l40_5.length l40_5.length rfl) True.intro))))))))))))))))))))))))) ?_ (by kernel_rfl)
          exact ok_impl_ReadParts_77 l40_0 i40_1 i40_2 l40_3 l40_4 l40_5 (w64 (5 + x50_2)) (w64 (andI .u8 x50_3 127)) (decide (x50_3 > 127)) false y hm Q hin hout

theorem ok_impl_ReadParts_95 (i95_0 : Int) (i95_1 : Int) (l95_2 : (List Bool)) (l95_3 : (List Int)) (l95_4 : (List (List Int))) (r : S_Piled) (hm : m_impl_ReadParts_95 i95_0 i95_1 l95_2 l95_3 l95_4 = some r) : EvU ext tbl (.c c_impl_ReadParts_95) K_impl_ReadParts_95 (s_impl_ReadParts_95 i95_0 i95_1 l95_2 l95_3 l95_4) (Post vf_impl_ReadParts (res_impl_ReadParts r)) := by
  obtain ⟨h95_0, hm⟩ | ⟨h95_0, hm⟩ := split_ite hm
  · skip
    obtain ⟨x95_1, h95_1, hm⟩ := bind_some hm
    exact go_end [.bit true, .res (res_impl_ReadPartsC1 x95_1), .num x95_1.keys.length, .num x95_1.steps.length, .num x95_1.parts.length, .rows (List.map rB x95_1.keys), .rows (List.map (rI .i64) x95_1.steps), .rows (List.map (rL (rI .u8)) x95_1.parts)] 1000 (And.intro h95_0 (And.intro (ok_impl_ReadPartsC1 2 x95_1 h95_1) (And.intro (len_map rB (show x95_1.keys.length = x95_1.keys.length from rfl)) (And.intro (len_map (rI .i64) (show x95_1.steps.length = x95_1.steps.length from rfl)) (And.intro (len_map (rL (rI .u8)) (show x95_1.parts.length = x95_1.parts.length from rfl)) (And.intro (all_le0 rB x95_1.keys rfl) (And.intro (all_t rB x95_1.keys rfl) (And.intro (all_le0 (rI .i64) x95_1.steps rfl) (And.intro (all_t (rI .i64) x95_1.steps rfl) (And.intro (all_le0 (rL (rI .u8)) x95_1.parts rfl) (And.intro (all_t (rL (rI .u8)) x95_1.parts rfl) True.intro))))))))))) (congrArg res_impl_ReadParts (Option.some.inj hm)) (by kernel_rfl)
  · skip
    exact go_end [.bit false, .rows (List.map rB l95_2), .rows (List.map (rI .i64) l95_3), .rows (List.map (rL (rI .u8)) l95_4)] 1000 (And.intro h95_0 (And.intro (all_le0 rB l95_2 rfl) (And.intro (all_t rB l95_2 rfl) (And.intro (all_le0 (rI .i64) l95_3 rfl) (And.intro (all_t (rI .i64) l95_3 rfl) (And.intro (all_le0 (rL (rI .u8)) l95_4 rfl) (And.intro (all_t (rL (rI .u8)) l95_4 rfl) True.intro))))))) (congrArg res_impl_ReadParts (Option.some.inj hm)) (by kernel_rfl)

theorem ok_impl_ReadParts_40 (l40_0 : (List Int)) (i40_1 : Int) (i40_2 : Int) (l40_3 : (List Bool)) (l40_4 : (List Int)) (l40_5 : (List (List Int))) (y : ((List Int) × Int × Int × (List Bool) × (List Int) × (List (List Int))) ⊕ (((Int × Int × (List Bool) × (List Int) × (List (List Int)))) ⊕ (S_Piled))) (hm : m_impl_ReadParts_40 l40_0 i40_1 i40_2 l40_3 l40_4 l40_5 = some y) (Q : VX → St → Prop)
    (hin : ∀ s, y = .inl s → EvU ext tbl (.c c_impl_ReadParts_40) K_impl_ReadParts_40 (s_impl_ReadParts_40 s.1 s.2.1 s.2.2.1 s.2.2.2.1 s.2.2.2.2.1 s.2.2.2.2.2) Q) (hout : ∀ e, y = .inr e → O_impl_ReadParts_40 Q e) : EvU ext tbl (.c c_impl_ReadParts_40) K_impl_ReadParts_40 (s_impl_ReadParts_40 l40_0 i40_1 i40_2 l40_3 l40_4 l40_5) Q := by
  obtain ⟨h40_0, hm⟩ | ⟨h40_0, hm⟩ := split_ite hm
  · skip
    obtain ⟨h40_1, hm⟩ | ⟨h40_1, hm⟩ := split_ite hm
    · skip
      refine go_on (u' := .c c_impl_ReadParts_50) (K' := K_impl_ReadParts_50) (st' := s_impl_ReadParts_50 l40_0 i40_1 i40_2 l40_3 l40_4 l40_5 true) [.num l40_0.length, .bit true, .num l40_0.length, .bit true, .bit true, .bit true, .bit true, .bit true, .bit true, .bit true, .bit true, .num (([] : List Bool).length), .num (([] : List Int).length), .num (([] : List (List Int)).length), .num l40_3.length, .num l40_4.length, .num l40_5.length] 1000 (And.intro (len_map (rI .u8) (show l40_0.length = l40_0.length from rfl)) (And.intro h40_0 (And.intro (len_map (rI .u8) (show l40_0.length = l40_0.length from rfl)) (And.intro h40_1 (And.intro h40_1 (And.intro h40_1 (And.intro h40_1 (And.intro h40_1 (And.intro h40_1 (And.intro h40_1 (And.intro h40_1 (And.intro (lens (([] : List Bool).length) (([] : List Bool).length) rfl) (And.intro (lens (([] : List Int).length) (([] : List Int).length) rfl) (And.intro (lens (([] : List (List Int)).length) (([] : List (List Int)).length) rfl) (And.intro (lens l40_3.length l40_3.length rfl) (And.intro (lens l40_4.length l40_4.length rfl) (And.intro (lens l40_5.length l40_5.length rfl) True.intro))))))))))))))))) ?_ (by kernel_rfl)
      exact ok_impl_ReadParts_50 l40_0 i40_1 i40_2 l40_3 l40_4 l40_5 true y hm Q hin hout
    · skip
      obtain ⟨x40_2, h40_2, hm⟩ := bind_some hm
      obtain ⟨x40_3, h40_3, hm⟩ := bind_some hm
      refine go_on (u' := .c c_impl_ReadParts_50) (K' := K_impl_ReadParts_50) (st' := s_impl_ReadParts_50 l40_0 i40_1 i40_2 l40_3 l40_4 l40_5 (decide (x40_3 > (w64 ((l40_0.length : Int) - 9))))) [.num l40_0.length, .bit true, .num l40_0.length, .bit false, .bit false, .rows (List.map (rI .u8) (l40_0.drop (Int.toNat 1))), .bit false, .res (res_impl_zget4 x40_3), .bit false, .bit false, .num l40_0.length, .bit false, .bit false, .bit false, .num (([] : List Bool).length), .num (([] : List Int).length), .num (([] : List (List Int)).length), .num l40_3.length, .num l40_4.length, .num l40_5.length] 1000 (And.intro (len_map (rI .u8) (show l40_0.length = l40_0.length from rfl)) (And.intro h40_0 (And.intro (len_map (rI .u8) (show l40_0.length = l40_0.length from rfl)) (And.intro h40_1 (And.intro h40_1 (And.intro (slc_hi (rI .u8) l40_0 (ck_p h40_2)) (And.intro (slc_tell2 (rI .u8) l40_0 (Int.toNat 1)) (And.intro h40_1 (And.intro (ok_impl_zget4 (l40_0.drop (Int.toNat 1)) x40_3 h40_3) (And.intro h40_1 (And.intro h40_1 (And.intro (len_map (rI .u8) (show l40_0.length = l40_0.length from rfl)) (And.intro h40_1 (And.intro h40_1 (And.intro h40_1 (And.intro (lens (([] : List Bool).length) (([] : List Bool).length) rfl) (And.intro (lens (([] : List Int).length) (([] : List Int).length) rfl) (And.intro (lens (([] : List (List Int)).length) (([] : List (List Int)).length) rfl) (And.intro (lens l40_3.length l40_3.length rfl) (And.intro (lens l40_4.length l40_4.length rfl) (And.intro (lens l40_5.length l40_5.length rfl) True.intro))))))))))))))))))))) ?_ (by kernel_rfl)
      exact ok_impl_ReadParts_50 l40_0 i40_1 i40_2 l40_3 l40_4 l40_5 (decide (x40_3 > (w64 ((l40_0.length : Int) - 9)))) y hm Q hin hout
  · skip
    refine go_on (u' := .c c_impl_ReadParts_95) (K' := K_impl_ReadParts_95) (st' := s_impl_ReadParts_95 i40_1 i40_2 l40_3 l40_4 l40_5) [.num l40_0.length, .bit false, .num (([] : List Bool).length), .num (([] : List Int).length), .num (([] : List (List Int)).length), .num l40_3.length, .num l40_4.length, .num l40_5.length] 1000 (And.intro (len_map (rI .u8) (show l40_0.length = l40_0.length from rfl)) (And.intro h40_0 (And.intro (lens (([] : List Bool).length) (([] : List Bool).length) rfl) (And.intro (lens (([] : List Int).length) (([] : List Int).length) rfl) (And.intro (lens (([] : List (List Int)).length) (([] : List (List Int)).length) rfl) (And.intro (lens l40_3.length l40_3.length rfl) (And.intro (lens l40_4.length l40_4.length rfl) (And.intro (lens l40_5.length l40_5.length rfl) True.intro)))))))) ?_ (by kernel_rfl)
    exact hout (.inl (i40_1, i40_2, l40_3, l40_4, l40_5)) (Option.some.inj hm).symm

theorem ok_impl_ReadParts_0 (p0 : (List Int)) (r : S_Piled) (hm : m_impl_ReadParts_0 p0 = some r) : EvU ext tbl (.c c_impl_ReadParts_0) K_impl_ReadParts_0 (s_impl_ReadParts_0 p0) (Post vf_impl_ReadParts (res_impl_ReadParts r)) := by
  obtain ⟨h0_0, hm⟩ | ⟨h0_0, hm⟩ := split_ite hm
  · skip
    obtain ⟨x0_1, h0_1, hm⟩ := bind_some hm
    exact go_end [.num p0.length, .bit true, .res (res_impl_ReadPartsC1 x0_1), .num x0_1.keys.length, .num x0_1.steps.length, .num x0_1.parts.length, .rows (List.map rB x0_1.keys), .rows (List.map (rI .i64) x0_1.steps), .rows (List.map (rL (rI .u8)) x0_1.parts)] 1000 (And.intro (len_map (rI .u8) (show p0.length = p0.length from rfl)) (And.intro h0_0 (And.intro (ok_impl_ReadPartsC1 1 x0_1 h0_1) (And.intro (len_map rB (show x0_1.keys.length = x0_1.keys.length from rfl)) (And.intro (len_map (rI .i64) (show x0_1.steps.length = x0_1.steps.length from rfl)) (And.intro (len_map (rL (rI .u8)) (show x0_1.parts.length = x0_1.parts.length from rfl)) (And.intro (all_le0 rB x0_1.keys rfl) (And.intro (all_t rB x0_1.keys rfl) (And.intro (all_le0 (rI .i64) x0_1.steps rfl) (And.intro (all_t (rI .i64) x0_1.steps rfl) (And.intro (all_le0 (rL (rI .u8)) x0_1.parts rfl) (And.intro (all_t (rL (rI .u8)) x0_1.parts rfl) True.intro)))))))))))) (congrArg res_impl_ReadParts (Option.some.inj hm)) (by kernel_rfl)
  · skip
    obtain ⟨x0_1, h0_1, hm⟩ := bind_some hm
    obtain ⟨h0_2, hm⟩ | ⟨h0_2, hm⟩ := split_ite hm
    · skip
      obtain ⟨x0_3, h0_3, hm⟩ := bind_some hm
      exact go_end [.num p0.length, .bit false, .res (res_impl_zmagic x0_1), .bit true, .res (res_impl_zmagic x0_1), .res (res_impl_ReadPartsC1 x0_3), .num x0_3.keys.length, .num x0_3.steps.length, .num x0_3.parts.length, .rows (List.map rB x0_3.keys), .rows (List.map (rI .i64) x0_3.steps), .rows (List.map (rL (rI .u8)) x0_3.parts)] 1000 (And.intro (len_map (rI .u8) (show p0.length = p0.length from rfl)) (And.intro h0_0 (And.intro (ok_impl_zmagic p0 (ByteArray.mk #[86, 73, 68, 49]) x0_1 h0_1) (And.intro h0_2 (And.intro (ok_impl_zmagic p0 (ByteArray.mk #[86, 73, 68, 49]) x0_1 h0_1) (And.intro (ok_impl_ReadPartsC1 x0_1 x0_3 h0_3) (And.intro (len_map rB (show x0_3.keys.length = x0_3.keys.length from rfl)) (And.intro (len_map (rI .i64) (show x0_3.steps.length = x0_3.steps.length from rfl)) (And.intro (len_map (rL (rI .u8)) (show x0_3.parts.length = x0_3.parts.length from rfl)) (And.intro (all_le0 rB x0_3.keys rfl) (And.intro (all_t rB x0_3.keys rfl) (And.intro (all_le0 (rI .i64) x0_3.steps rfl) (And.intro (all_t (rI .i64) x0_3.steps rfl) (And.intro (all_le0 (rL (rI .u8)) x0_3.parts rfl) (And.intro (all_t (rL (rI .u8)) x0_3.parts rfl) True.intro))))))))))))))) (congrArg res_impl_ReadParts (Option.some.inj hm)) (by kernel_rfl)
    · skip
      obtain ⟨h0_3, hm⟩ | ⟨h0_3, hm⟩ := split_ite hm
      · skip
        obtain ⟨x0_4, h0_4, hm⟩ := bind_some hm
        exact go_end [.num p0.length, .bit false, .res (res_impl_zmagic x0_1), .bit false, .num p0.length, .bit true, .res (res_impl_ReadPartsC1 x0_4), .num x0_4.keys.length, .num x0_4.steps.length, .num x0_4.parts.length, .rows (List.map rB x0_4.keys), .rows (List.map (rI .i64) x0_4.steps), .rows (List.map (rL (rI .u8)) x0_4.parts)] 1000 (And.intro (len_map (rI .u8) (show p0.length = p0.length from rfl)) (And.intro h0_0 (And.intro (ok_impl_zmagic p0 (ByteArray.mk #[86, 73, 68, 49]) x0_1 h0_1) (And.intro h0_2 (And.intro (len_map (rI .u8) (show p0.length = p0.length from rfl)) (And.intro h0_3 (And.intro (ok_impl_ReadPartsC1 2 x0_4 h0_4) (And.intro (len_map rB (show x0_4.keys.length = x0_4.keys.length from rfl)) (And.intro (len_map (rI .i64) (show x0_4.steps.length = x0_4.steps.length from rfl)) (And.intro (len_map (rL (rI .u8)) (show x0_4.parts.length = x0_4.parts.length from rfl)) (And.intro (all_le0 rB x0_4.keys rfl) (And.intro (all_t rB x0_4.keys rfl) (And.intro (all_le0 (rI .i64) x0_4.steps rfl) (And.intro (all_t (rI .i64) x0_4.steps rfl) (And.intro (all_le0 (rL (rI .u8)) x0_4.parts rfl) (And.intro (all_t (rL (rI .u8)) x0_4.parts rfl) True.intro)))))))))))))))) (congrArg res_impl_ReadParts (Option.some.inj hm)) (by kernel_rfl)
      · skip
        obtain ⟨x0_4, h0_4, hm⟩ := bind_some hm
        obtain ⟨x0_5, h0_5, hm⟩ := bind_some hm
        obtain ⟨x0_6, h0_6, hm⟩ := bind_some hm
        obtain ⟨h0_7, hm⟩ | ⟨h0_7, hm⟩ := split_ite hm
        · skip
          obtain ⟨x0_8, h0_8, hm⟩ := bind_some hm
          refine go_on (u' := .c c_impl_ReadParts_40) (K' := K_impl_ReadParts_40) (st' := s_impl_ReadParts_40 (p0.drop (Int.toNat 6)) (w64 (8 * (w64 x0_4))) (w64 (8 * (w64 x0_5))) ([] : List Bool) ([] : List Int) ([] : List (List Int))) [.num p0.length, .bit false, .res (res_impl_zmagic x0_1), .bit false, .num p0.length, .bit false, .row ((rI .u8) x0_4), .row ((rI .u8) x0_5), .res (res_impl_zsides x0_6), .bit false, .rows (List.map (rI .u8) (p0.drop (Int.toNat 6))), .num (([] : List Bool).length), .num (([] : List Int).length), .num (([] : List (List Int)).length), .num (([] : List Bool).length), .num (([] : List Int).length), .num (([] : List (List Int)).length)] 1000 (And.intro (len_map (rI .u8) (show p0.length = p0.length from rfl)) (And.intro h0_0 (And.intro (ok_impl_zmagic p0 (ByteArray.mk #[86, 73, 68, 49]) x0_1 h0_1) (And.intro h0_2 (And.intro (len_map (rI .u8) (show p0.length = p0.length from rfl)) (And.intro h0_3 (And.intro (rd_nn h0_4) (And.intro (at_row (rI .u8) (rd_get h0_4)) (And.intro (rd_nn h0_5) (And.intro (at_row (rI .u8) (rd_get h0_5)) (And.intro (ok_impl_zsides (w64 (8 * (w64 x0_4))) (w64 (8 * (w64 x0_5))) x0_6 h0_6) (And.intro (not_f h0_7) (And.intro (slc_hi (rI .u8) p0 (ck_p h0_8)) (And.intro (slc_tell2 (rI .u8) p0 (Int.toNat 6)) (And.intro (lens 0 (([] : List Bool).length) rfl) (And.intro (lens 0 (([] : List Int).length) rfl) (And.intro (lens 0 (([] : List (List Int)).length) rfl) (And.intro (lens 0 (([] : List Bool).length) rfl) (And.intro (lens 0 (([] : List Int).length) rfl) (And.intro (lens 0 (([] : List (List Int)).length) rfl) True.intro)))))))))))))))))))) ?_ (by kernel_rfl)
          obtain ⟨e, he, hm⟩ := bind_some hm
          refine loop_rule (u := .c c_impl_ReadParts_40) (K := K_impl_ReadParts_40) (Q := (Post vf_impl_ReadParts (res_impl_ReadParts r))) (b := lp_impl_ReadParts_40) (We := O_impl_ReadParts_40 (Post vf_impl_ReadParts (res_impl_ReadParts r))) (stJ := fun s => s_impl_ReadParts_40 s.1 s.2.1 s.2.2.1 s.2.2.2.1 s.2.2.2.2.1 s.2.2.2.2.2) (s := ((p0.drop (Int.toNat 6)), (w64 (8 * (w64 x0_4))), (w64 (8 * (w64 x0_5))), ([] : List Bool), ([] : List Int), ([] : List (List Int)))) (fun s y hb hin hout => ok_impl_ReadParts_40 s.1 s.2.1 s.2.2.1 s.2.2.2.1 s.2.2.2.2.1 s.2.2.2.2.2 y hb (Post vf_impl_ReadParts (res_impl_ReadParts r)) hin hout) he ?_
          rcases e with e | e
          · skip
            show EvU ext tbl (.c c_impl_ReadParts_95) K_impl_ReadParts_95 (s_impl_ReadParts_95 e.1 e.2.1 e.2.2.1 e.2.2.2.1 e.2.2.2.2) _
            exact ok_impl_ReadParts_95 e.1 e.2.1 e.2.2.1 e.2.2.2.1 e.2.2.2.2 r hm
          · skip
            exact congrArg (fun r => Post vf_impl_ReadParts (res_impl_ReadParts r)) (Option.some.inj hm).symm
        · skip
          obtain ⟨x0_8, h0_8, hm⟩ := bind_some hm
          exact go_end [.num p0.length, .bit false, .res (res_impl_zmagic x0_1), .bit false, .num p0.length, .bit false, .row ((rI .u8) x0_4), .row ((rI .u8) x0_5), .res (res_impl_zsides x0_6), .bit true, .res (res_impl_ReadPartsC1 x0_8), .num x0_8.keys.length, .num x0_8.steps.length, .num x0_8.parts.length, .rows (List.map rB x0_8.keys), .rows (List.map (rI .i64) x0_8.steps), .rows (List.map (rL (rI .u8)) x0_8.parts)] 1000 (And.intro (len_map (rI .u8) (show p0.length = p0.length from rfl)) (And.intro h0_0 (And.intro (ok_impl_zmagic p0 (ByteArray.mk #[86, 73, 68, 49]) x0_1 h0_1) (And.intro h0_2 (And.intro (len_map (rI .u8) (show p0.length = p0.length from rfl)) (And.intro h0_3 (And.intro (rd_nn h0_4) (And.intro (at_row (rI .u8) (rd_get h0_4)) (And.intro (rd_nn h0_5) (And.intro (at_row (rI .u8) (rd_get h0_5)) (And.intro (ok_impl_zsides (w64 (8 * (w64 x0_4))) (w64 (8 * (w64 x0_5))) x0_6 h0_6) (And.intro (not_t h0_7) (And.intro (ok_impl_ReadPartsC1 5 x0_8 h0_8) (And.intro (len_map rB (show x0_8.keys.length = x0_8.keys.length from rfl)) (And.intro (len_map (rI .i64) (show x0_8.steps.length = x0_8.steps.length from rfl)) (And.intro (len_map (rL (rI .u8)) (show x0_8.parts.length = x0_8.parts.length from rfl)) (And.intro (all_le0 rB x0_8.keys rfl) (And.intro (all_t rB x0_8.keys rfl) (And.intro (all_le0 (rI .i64) x0_8.steps rfl) (And.intro (all_t (rI .i64) x0_8.steps rfl) (And.intro (all_le0 (rL (rI .u8)) x0_8.parts rfl) (And.intro (all_t (rL (rI .u8)) x0_8.parts rfl) True.intro)))))))))))))))))))))) (congrArg res_impl_ReadParts (Option.some.inj hm)) (by kernel_rfl)

theorem ok_impl_ReadParts (p0 : (List Int)) (r : S_Piled) (hm : m_impl_ReadParts p0 = some r) : Runs ext tbl 118 (as_impl_ReadParts p0) (res_impl_ReadParts r) :=
  runs_of (vf := vf_impl_ReadParts) (by kernel_rfl) rfl (st := (enter vf_impl_ReadParts (as_impl_ReadParts p0)).getD default) (by kernel_rfl) (go_on [] 1000 True.intro (ok_impl_ReadParts_0 p0 r hm) (by kernel_rfl))
end Go.Proofs.V

/- printed by a program: the plain functions, the code and the proofs of one law -/
set_option linter.unusedVariables false
set_option maxRecDepth 100000
namespace Go.Proofs.V
open Go
theorem ok_impl_WriteParts_0 (p0 : S_Piled) (r : (List Int)) (hm : m_impl_WriteParts_0 p0 = some r) : EvU ext tbl (.c c_impl_WriteParts_0) K_impl_WriteParts_0 (s_impl_WriteParts_0 p0) (Post vf_impl_WriteParts (res_impl_WriteParts r)) := by
  obtain ⟨h0_0, hm⟩ | ⟨h0_0, hm⟩ := split_ite hm
  · skip
    exact go_end [.num p0.parts.length, .bit true, .bit true, .bit true, .bit true, .bit true, .bit true, .bit true, .bit true, .bit true, .bit true, .bit true, .bit true, .bit true, .bit true, .bit true, .bit true, .bit true, .bit true, .bit true, .bit true, .bit true, .bit true, .bit true, .bit true, .bit true, .bit true, .rows (List.map (rI .u8) ([] : List Int))] 1000 (And.intro (len_map (rL (rI .u8)) (show p0.parts.length = p0.parts.length from rfl)) (And.intro h0_0 (And.intro h0_0 (And.intro h0_0 (And.intro h0_0 (And.intro h0_0 (And.intro h0_0 (And.intro (Eq.refl true) (And.intro (Eq.refl true) (And.intro (Eq.refl true) (And.intro (Eq.refl true) (And.intro (Eq.refl true) (And.intro (Eq.refl true) (And.intro (Eq.refl true) (And.intro (Eq.refl true) (And.intro (Eq.refl true) (And.intro (Eq.refl true) (And.intro (Eq.refl true) (And.intro (Eq.refl true) (And.intro (Eq.refl true) (And.intro (Eq.refl true) (And.intro (Eq.refl true) (And.intro (Eq.refl true) (And.intro (Eq.refl true) (And.intro (Eq.refl true) (And.intro (Eq.refl true) (And.intro (Eq.refl true) (And.intro (all_le0 (rI .u8) ([] : List Int) rfl) (And.intro (all_t (rI .u8) ([] : List Int) rfl) True.intro))))))))))))))))))))))))))))) (congrArg res_impl_WriteParts (Option.some.inj hm)) (by kernel_rfl)
  · skip
    obtain ⟨h0_1, hm⟩ | ⟨h0_1, hm⟩ := split_ite hm
    · skip
      exact go_end [.num p0.parts.length, .bit false, .bit false, .bit false, .num p0.keys.length, .bit false, .bit false, .bit false, .bit true, .bit true, .bit true, .bit true, .bit true, .bit true, .bit true, .bit true, .bit true, .bit true, .bit true, .bit true, .bit true, .bit true, .bit true, .bit true, .bit true, .bit true, .bit true, .bit true, .rows (List.map (rI .u8) ([] : List Int))] 1000 (And.intro (len_map (rL (rI .u8)) (show p0.parts.length = p0.parts.length from rfl)) (And.intro h0_0 (And.intro h0_0 (And.intro h0_0 (And.intro (len_map rB (show p0.keys.length = p0.keys.length from rfl)) (And.intro h0_0 (And.intro h0_0 (And.intro h0_0 (And.intro h0_1 (And.intro h0_1 (And.intro h0_1 (And.intro h0_1 (And.intro h0_1 (And.intro h0_1 (And.intro (Eq.refl true) (And.intro (Eq.refl true) (And.intro (Eq.refl true) (And.intro (Eq.refl true) (And.intro (Eq.refl true) (And.intro (Eq.refl true) (And.intro (Eq.refl true) (And.intro (Eq.refl true) (And.intro (Eq.refl true) (And.intro (Eq.refl true) (And.intro (Eq.refl true) (And.intro (Eq.refl true) (And.intro (Eq.refl true) (And.intro (Eq.refl true) (And.intro (all_le0 (rI .u8) ([] : List Int) rfl) (And.intro (all_t (rI .u8) ([] : List Int) rfl) True.intro)))))))))))))))))))))))))))))) (congrArg res_impl_WriteParts (Option.some.inj hm)) (by kernel_rfl)
    · skip
      obtain ⟨h0_2, hm⟩ | ⟨h0_2, hm⟩ := split_ite hm
      · skip
        exact go_end [.num p0.parts.length, .bit false, .bit false, .bit false, .num p0.keys.length, .bit false, .bit false, .bit false, .bit false, .bit false, .bit false, .num p0.steps.length, .bit false, .bit false, .bit false, .bit true, .bit true, .bit true, .bit true, .bit true, .bit true, .bit true, .bit true, .bit true, .bit true, .bit true, .bit true, .bit true, .bit true, .rows (List.map (rI .u8) ([] : List Int))] 1000 (And.intro (len_map (rL (rI .u8)) (show p0.parts.length = p0.parts.length from rfl)) (And.intro h0_0 (And.intro h0_0 (And.intro h0_0 (And.intro (len_map rB (show p0.keys.length = p0.keys.length from rfl)) (And.intro h0_0 (And.intro h0_0 (And.intro h0_0 (And.intro h0_1 (And.intro h0_1 (And.intro h0_1 (And.intro (len_map (rI .i64) (show p0.steps.length = p0.steps.length from rfl)) (And.intro h0_1 (And.intro h0_1 (And.intro h0_1 (And.intro h0_2 (And.intro h0_2 (And.intro h0_2 (And.intro h0_2 (And.intro h0_2 (And.intro h0_2 (And.intro (Eq.refl true) (And.intro (Eq.refl true) (And.intro (Eq.refl true) (And.intro (Eq.refl true) (And.intro (Eq.refl true) (And.intro (Eq.refl true) (And.intro (Eq.refl true) (And.intro (Eq.refl true) (And.intro (all_le0 (rI .u8) ([] : List Int) rfl) (And.intro (all_t (rI .u8) ([] : List Int) rfl) True.intro))))))))))))))))))))))))))))))) (congrArg res_impl_WriteParts (Option.some.inj hm)) (by kernel_rfl)
      · skip
        obtain ⟨x0_3, h0_3, hm⟩ := bind_some hm
        obtain ⟨h0_4, hm⟩ | ⟨h0_4, hm⟩ := split_ite hm
        · skip
          obtain ⟨x0_5, h0_5, hm⟩ := bind_some hm
          obtain ⟨h0_6, hm⟩ | ⟨h0_6, hm⟩ := split_ite hm
          · skip
            obtain ⟨x0_7, h0_7, hm⟩ := bind_some hm
            obtain ⟨x0_8, h0_8, hm⟩ := bind_some hm
            obtain ⟨h0_9, hm⟩ | ⟨h0_9, hm⟩ := split_ite hm
            · skip
              exact go_end [.num p0.parts.length, .bit false, .bit false, .bit false, .num p0.keys.length, .bit false, .bit false, .bit false, .bit false, .bit false, .bit false, .num p0.steps.length, .bit false, .bit false, .bit false, .bit false, .bit false, .bit false, .bit false, .res (res_impl_zrange x0_3), .bit false, .bit false, .bit false, .bit false, .bit false, .bit false, .bit false, .res (res_impl_zsides x0_5), .bit false, .bit false, .bit false, .res (res_impl_zpile x0_7), .num x0_7.length, .rows (List.map (rI .u8) x0_7), .res (res_impl_ReadParts x0_8), .num x0_8.keys.length, .num x0_8.steps.length, .num x0_8.parts.length, .bit true, .bit true, .bit true, .bit true, .bit true, .bit true, .bit true, .rows (List.map (rI .u8) ([] : List Int))] 1000 (And.intro (len_map (rL (rI .u8)) (show p0.parts.length = p0.parts.length from rfl)) (And.intro h0_0 (And.intro h0_0 (And.intro h0_0 (And.intro (len_map rB (show p0.keys.length = p0.keys.length from rfl)) (And.intro h0_0 (And.intro h0_0 (And.intro h0_0 (And.intro h0_1 (And.intro h0_1 (And.intro h0_1 (And.intro (len_map (rI .i64) (show p0.steps.length = p0.steps.length from rfl)) (And.intro h0_1 (And.intro h0_1 (And.intro h0_1 (And.intro h0_2 (And.intro h0_2 (And.intro h0_2 (And.intro h0_2 (And.intro (ok_impl_zrange p0.steps 0 40 (p0.parts.length : Int) x0_3 h0_3) (And.intro h0_2 (And.intro h0_2 (And.intro (not_f h0_4) (And.intro (not_f h0_4) (And.intro (not_f h0_4) (And.intro (not_f h0_4) (And.intro (not_f h0_4) (And.intro (ok_impl_zsides p0.width p0.height x0_5 h0_5) (And.intro (not_f h0_4) (And.intro (not_f h0_4) (And.intro (not_f h0_6) (And.intro (ok_impl_zpile p0 x0_7 h0_7) (And.intro (len_map (rI .u8) (show x0_7.length = x0_7.length from rfl)) (And.intro (all_le (rI .u8) x0_7 rfl) (And.intro (all_dt (rI .u8) x0_7 rfl) (And.intro (ok_impl_ReadParts x0_7 x0_8 h0_8) (And.intro (len_map rB (show x0_8.keys.length = x0_8.keys.length from rfl)) (And.intro (len_map (rI .i64) (show x0_8.steps.length = x0_8.steps.length from rfl)) (And.intro (len_map (rL (rI .u8)) (show x0_8.parts.length = x0_8.parts.length from rfl)) (And.intro h0_9 (And.intro h0_9 (And.intro h0_9 (And.intro h0_9 (And.intro h0_9 (And.intro h0_9 (And.intro (Eq.refl true) (And.intro (all_le0 (rI .u8) ([] : List Int) rfl) (And.intro (all_t (rI .u8) ([] : List Int) rfl) True.intro)))))))))))))))))))))))))))))))))))))))))))))))) (congrArg res_impl_WriteParts (Option.some.inj hm)) (by kernel_rfl)
            · skip
              obtain ⟨h0_10, hm⟩ | ⟨h0_10, hm⟩ := split_ite hm
              · skip
                exact go_end [.num p0.parts.length, .bit false, .bit false, .bit false, .num p0.keys.length, .bit false, .bit false, .bit false, .bit false, .bit false, .bit false, .num p0.steps.length, .bit false, .bit false, .bit false, .bit false, .bit false, .bit false, .bit false, .res (res_impl_zrange x0_3), .bit false, .bit false, .bit false, .bit false, .bit false, .bit false, .bit false, .res (res_impl_zsides x0_5), .bit false, .bit false, .bit false, .res (res_impl_zpile x0_7), .num x0_7.length, .rows (List.map (rI .u8) x0_7), .res (res_impl_ReadParts x0_8), .num x0_8.keys.length, .num x0_8.steps.length, .num x0_8.parts.length, .bit false, .bit false, .bit false, .bit false, .bit false, .bit false, .bit true, .rows (List.map (rI .u8) ([] : List Int))] 1000 (And.intro (len_map (rL (rI .u8)) (show p0.parts.length = p0.parts.length from rfl)) (And.intro h0_0 (And.intro h0_0 (And.intro h0_0 (And.intro (len_map rB (show p0.keys.length = p0.keys.length from rfl)) (And.intro h0_0 (And.intro h0_0 (And.intro h0_0 (And.intro h0_1 (And.intro h0_1 (And.intro h0_1 (And.intro (len_map (rI .i64) (show p0.steps.length = p0.steps.length from rfl)) (And.intro h0_1 (And.intro h0_1 (And.intro h0_1 (And.intro h0_2 (And.intro h0_2 (And.intro h0_2 (And.intro h0_2 (And.intro (ok_impl_zrange p0.steps 0 40 (p0.parts.length : Int) x0_3 h0_3) (And.intro h0_2 (And.intro h0_2 (And.intro (not_f h0_4) (And.intro (not_f h0_4) (And.intro (not_f h0_4) (And.intro (not_f h0_4) (And.intro (not_f h0_4) (And.intro (ok_impl_zsides p0.width p0.height x0_5 h0_5) (And.intro (not_f h0_4) (And.intro (not_f h0_4) (And.intro (not_f h0_6) (And.intro (ok_impl_zpile p0 x0_7 h0_7) (And.intro (len_map (rI .u8) (show x0_7.length = x0_7.length from rfl)) (And.intro (all_le (rI .u8) x0_7 rfl) (And.intro (all_dt (rI .u8) x0_7 rfl) (And.intro (ok_impl_ReadParts x0_7 x0_8 h0_8) (And.intro (len_map rB (show x0_8.keys.length = x0_8.keys.length from rfl)) (And.intro (len_map (rI .i64) (show x0_8.steps.length = x0_8.steps.length from rfl)) (And.intro (len_map (rL (rI .u8)) (show x0_8.parts.length = x0_8.parts.length from rfl)) (And.intro h0_9 (And.intro h0_9 (And.intro h0_9 (And.intro h0_9 (And.intro h0_9 (And.intro h0_9 (And.intro h0_10 (And.intro (all_le0 (rI .u8) ([] : List Int) rfl) (And.intro (all_t (rI .u8) ([] : List Int) rfl) True.intro)))))))))))))))))))))))))))))))))))))))))))))))) (congrArg res_impl_WriteParts (Option.some.inj hm)) (by kernel_rfl)
              · skip
                exact go_end [.num p0.parts.length, .bit false, .bit false, .bit false, .num p0.keys.length, .bit false, .bit false, .bit false, .bit false, .bit false, .bit false, .num p0.steps.length, .bit false, .bit false, .bit false, .bit false, .bit false, .bit false, .bit false, .res (res_impl_zrange x0_3), .bit false, .bit false, .bit false, .bit false, .bit false, .bit false, .bit false, .res (res_impl_zsides x0_5), .bit false, .bit false, .bit false, .res (res_impl_zpile x0_7), .num x0_7.length, .rows (List.map (rI .u8) x0_7), .res (res_impl_ReadParts x0_8), .num x0_8.keys.length, .num x0_8.steps.length, .num x0_8.parts.length, .bit false, .bit false, .bit false, .bit false, .bit false, .bit false, .bit false, .rows (List.map (rI .u8) x0_7)] 1000 (And.intro (len_map (rL (rI .u8)) (show p0.parts.length = p0.parts.length from rfl)) (And.intro h0_0 (And.intro h0_0 (And.intro h0_0 (And.intro (len_map rB (show p0.keys.length = p0.keys.length from rfl)) (And.intro h0_0 (And.intro h0_0 (And.intro h0_0 (And.intro h0_1 (And.intro h0_1 (And.intro h0_1 (And.intro (len_map (rI .i64) (show p0.steps.length = p0.steps.length from rfl)) (And.intro h0_1 (And.intro h0_1 (And.intro h0_1 (And.intro h0_2 (And.intro h0_2 (And.intro h0_2 (And.intro h0_2 (And.intro (ok_impl_zrange p0.steps 0 40 (p0.parts.length : Int) x0_3 h0_3) (And.intro h0_2 (And.intro h0_2 (And.intro (not_f h0_4) (And.intro (not_f h0_4) (And.intro (not_f h0_4) (And.intro (not_f h0_4) (And.intro (not_f h0_4) (And.intro (ok_impl_zsides p0.width p0.height x0_5 h0_5) (And.intro (not_f h0_4) (And.intro (not_f h0_4) (And.intro (not_f h0_6) (And.intro (ok_impl_zpile p0 x0_7 h0_7) (And.intro (len_map (rI .u8) (show x0_7.length = x0_7.length from rfl)) (And.intro (all_le (rI .u8) x0_7 rfl) (And.intro (all_dt (rI .u8) x0_7 rfl) (And.intro (ok_impl_ReadParts x0_7 x0_8 h0_8) (And.intro (len_map rB (show x0_8.keys.length = x0_8.keys.length from rfl)) (And.intro (len_map (rI .i64) (show x0_8.steps.length = x0_8.steps.length from rfl)) (And.intro (len_map (rL (rI .u8)) (show x0_8.parts.length = x0_8.parts.length from rfl)) (And.intro h0_9 (And.intro h0_9 (And.intro h0_9 (And.intro h0_9 (And.intro h0_9 (And.intro h0_9 (And.intro h0_10 (And.intro (all_le0 (rI .u8) x0_7 rfl) (And.intro (all_t (rI .u8) x0_7 rfl) True.intro)))))))))))))))))))))))))))))))))))))))))))))))) (congrArg res_impl_WriteParts (Option.some.inj hm)) (by kernel_rfl)
          · skip
            exact go_end [.num p0.parts.length, .bit false, .bit false, .bit false, .num p0.keys.length, .bit false, .bit false, .bit false, .bit false, .bit false, .bit false, .num p0.steps.length, .bit false, .bit false, .bit false, .bit false, .bit false, .bit false, .bit false, .res (res_impl_zrange x0_3), .bit false, .bit false, .bit false, .bit false, .bit false, .bit false, .bit false, .res (res_impl_zsides x0_5), .bit false, .bit false, .bit true, .rows (List.map (rI .u8) ([] : List Int))] 1000 (And.intro (len_map (rL (rI .u8)) (show p0.parts.length = p0.parts.length from rfl)) (And.intro h0_0 (And.intro h0_0 (And.intro h0_0 (And.intro (len_map rB (show p0.keys.length = p0.keys.length from rfl)) (And.intro h0_0 (And.intro h0_0 (And.intro h0_0 (And.intro h0_1 (And.intro h0_1 (And.intro h0_1 (And.intro (len_map (rI .i64) (show p0.steps.length = p0.steps.length from rfl)) (And.intro h0_1 (And.intro h0_1 (And.intro h0_1 (And.intro h0_2 (And.intro h0_2 (And.intro h0_2 (And.intro h0_2 (And.intro (ok_impl_zrange p0.steps 0 40 (p0.parts.length : Int) x0_3 h0_3) (And.intro h0_2 (And.intro h0_2 (And.intro (not_f h0_4) (And.intro (not_f h0_4) (And.intro (not_f h0_4) (And.intro (not_f h0_4) (And.intro (not_f h0_4) (And.intro (ok_impl_zsides p0.width p0.height x0_5 h0_5) (And.intro (not_f h0_4) (And.intro (not_f h0_4) (And.intro (not_t h0_6) (And.intro (all_le0 (rI .u8) ([] : List Int) rfl) (And.intro (all_t (rI .u8) ([] : List Int) rfl) True.intro))))))))))))))))))))))))))))))))) (congrArg res_impl_WriteParts (Option.some.inj hm)) (by kernel_rfl)
        · skip
          exact go_end [.num p0.parts.length, .bit false, .bit false, .bit false, .num p0.keys.length, .bit false, .bit false, .bit false, .bit false, .bit false, .bit false, .num p0.steps.length, .bit false, .bit false, .bit false, .bit false, .bit false, .bit false, .bit false, .res (res_impl_zrange x0_3), .bit false, .bit false, .bit true, .bit true, .bit true, .bit true, .bit true, .bit true, .bit true, .bit true, .rows (List.map (rI .u8) ([] : List Int))] 1000 (And.intro (len_map (rL (rI .u8)) (show p0.parts.length = p0.parts.length from rfl)) (And.intro h0_0 (And.intro h0_0 (And.intro h0_0 (And.intro (len_map rB (show p0.keys.length = p0.keys.length from rfl)) (And.intro h0_0 (And.intro h0_0 (And.intro h0_0 (And.intro h0_1 (And.intro h0_1 (And.intro h0_1 (And.intro (len_map (rI .i64) (show p0.steps.length = p0.steps.length from rfl)) (And.intro h0_1 (And.intro h0_1 (And.intro h0_1 (And.intro h0_2 (And.intro h0_2 (And.intro h0_2 (And.intro h0_2 (And.intro (ok_impl_zrange p0.steps 0 40 (p0.parts.length : Int) x0_3 h0_3) (And.intro h0_2 (And.intro h0_2 (And.intro (not_t h0_4) (And.intro (not_t h0_4) (And.intro (not_t h0_4) (And.intro (not_t h0_4) (And.intro (not_t h0_4) (And.intro (not_t h0_4) (And.intro (not_t h0_4) (And.intro (Eq.refl true) (And.intro (all_le0 (rI .u8) ([] : List Int) rfl) (And.intro (all_t (rI .u8) ([] : List Int) rfl) True.intro)))))))))))))))))))))))))))))))) (congrArg res_impl_WriteParts (Option.some.inj hm)) (by kernel_rfl)

theorem ok_impl_WriteParts (p0 : S_Piled) (r : (List Int)) (hm : m_impl_WriteParts p0 = some r) : Runs ext tbl 33 (as_impl_WriteParts p0) (res_impl_WriteParts r) :=
  runs_of (vf := vf_impl_WriteParts) (by kernel_rfl) rfl (st := (enter vf_impl_WriteParts (as_impl_WriteParts p0)).getD default) (by kernel_rfl) (go_on [] 1000 True.intro (ok_impl_WriteParts_0 p0 r hm) (by kernel_rfl))
def O_laws_eqByteS_15 (Q : VX → St → Prop) (e : (Bool) ⊕ ((Unit))) : Prop := match e with | .inl e => Q = Post vf_laws_eqByteS (res_laws_eqByteS e) | .inr e => EvU ext tbl (.c c_laws_eqByteS_31) K_laws_eqByteS_31 (s_laws_eqByteS_31) Q
theorem ok_laws_eqByteS_31 (r : Bool) (hm : m_laws_eqByteS_31 = some r) : EvU ext tbl (.c c_laws_eqByteS_31) K_laws_eqByteS_31 (s_laws_eqByteS_31) (Post vf_laws_eqByteS (res_laws_eqByteS r)) := by
  exact go_end [] 1000 True.intro (congrArg res_laws_eqByteS (Option.some.inj hm)) (by kernel_rfl)

theorem ok_laws_eqByteS_15 (p0 : (List Int)) (p1 : (List Int)) (i15_0 : Int) (y : (Int) ⊕ ((Bool) ⊕ ((Unit)))) (hm : m_laws_eqByteS_15 p0 p1 i15_0 = some y) (Q : VX → St → Prop)
    (hin : ∀ s, y = .inl s → EvU ext tbl (.c c_laws_eqByteS_15) K_laws_eqByteS_15 (s_laws_eqByteS_15 p0 p1 s) Q) (hout : ∀ e, y = .inr e → O_laws_eqByteS_15 Q e) : EvU ext tbl (.c c_laws_eqByteS_15) K_laws_eqByteS_15 (s_laws_eqByteS_15 p0 p1 i15_0) Q := by
  obtain ⟨h15_0, hm⟩ | ⟨h15_0, hm⟩ := split_ite hm
  · skip
    obtain ⟨x15_1, h15_1, hm⟩ := bind_some hm
    obtain ⟨x15_2, h15_2, hm⟩ := bind_some hm
    obtain ⟨h15_3, hm⟩ | ⟨h15_3, hm⟩ := split_ite hm
    · skip
      have hQ : Q = Post vf_laws_eqByteS (res_laws_eqByteS false) := hout (.inl false) (Option.some.inj hm).symm
      subst hQ
      exact go_end [.num p0.length, .bit true, .row ((rI .u8) x15_1), .row ((rI .u8) x15_2), .bit true] 1000 (And.intro (len_map (rI .u8) (show p0.length = p0.length from rfl)) (And.intro h15_0 (And.intro (rd_nn h15_1) (And.intro (at_row (rI .u8) (rd_get h15_1)) (And.intro (rd_nn h15_2) (And.intro (at_row (rI .u8) (rd_get h15_2)) (And.intro h15_3 True.intro))))))) (rfl : res_laws_eqByteS false = res_laws_eqByteS false) (by kernel_rfl)
    · skip
      refine go_on (u' := .c c_laws_eqByteS_15) (K' := K_laws_eqByteS_15) (st' := s_laws_eqByteS_15 p0 p1 (w64 (i15_0 + 1))) [.num p0.length, .bit true, .row ((rI .u8) x15_1), .row ((rI .u8) x15_2), .bit false] 1000 (And.intro (len_map (rI .u8) (show p0.length = p0.length from rfl)) (And.intro h15_0 (And.intro (rd_nn h15_1) (And.intro (at_row (rI .u8) (rd_get h15_1)) (And.intro (rd_nn h15_2) (And.intro (at_row (rI .u8) (rd_get h15_2)) (And.intro h15_3 True.intro))))))) ?_ (by kernel_rfl)
      exact hin (w64 (i15_0 + 1)) (Option.some.inj hm).symm
  · skip
    refine go_on (u' := .c c_laws_eqByteS_31) (K' := K_laws_eqByteS_31) (st' := s_laws_eqByteS_31) [.num p0.length, .bit false] 1000 (And.intro (len_map (rI .u8) (show p0.length = p0.length from rfl)) (And.intro h15_0 True.intro)) ?_ (by kernel_rfl)
    exact hout (.inr ()) (Option.some.inj hm).symm

theorem ok_laws_eqByteS_0 (p0 : (List Int)) (p1 : (List Int)) (r : Bool) (hm : m_laws_eqByteS_0 p0 p1 = some r) : EvU ext tbl (.c c_laws_eqByteS_0) K_laws_eqByteS_0 (s_laws_eqByteS_0 p0 p1) (Post vf_laws_eqByteS (res_laws_eqByteS r)) := by
  obtain ⟨h0_0, hm⟩ | ⟨h0_0, hm⟩ := split_ite hm
  · skip
    exact go_end [.num p0.length, .num p1.length, .bit true] 1000 (And.intro (len_map (rI .u8) (show p0.length = p0.length from rfl)) (And.intro (len_map (rI .u8) (show p1.length = p1.length from rfl)) (And.intro h0_0 True.intro))) (congrArg res_laws_eqByteS (Option.some.inj hm)) (by kernel_rfl)
  · skip
    refine go_on (u' := .c c_laws_eqByteS_15) (K' := K_laws_eqByteS_15) (st' := s_laws_eqByteS_15 p0 p1 0) [.num p0.length, .num p1.length, .bit false] 1000 (And.intro (len_map (rI .u8) (show p0.length = p0.length from rfl)) (And.intro (len_map (rI .u8) (show p1.length = p1.length from rfl)) (And.intro h0_0 True.intro))) ?_ (by kernel_rfl)
    obtain ⟨e, he, hm⟩ := bind_some hm
    refine loop_rule (u := .c c_laws_eqByteS_15) (K := K_laws_eqByteS_15) (Q := (Post vf_laws_eqByteS (res_laws_eqByteS r))) (b := lp_laws_eqByteS_15 p0 p1) (We := O_laws_eqByteS_15 (Post vf_laws_eqByteS (res_laws_eqByteS r))) (stJ := fun s => s_laws_eqByteS_15 p0 p1 s) (s := 0) (fun s y hb hin hout => ok_laws_eqByteS_15 p0 p1 s y hb (Post vf_laws_eqByteS (res_laws_eqByteS r)) hin hout) he ?_
    rcases e with e | e
    · skip
      exact congrArg (fun r => Post vf_laws_eqByteS (res_laws_eqByteS r)) (Option.some.inj hm).symm
    · skip
      show EvU ext tbl (.c c_laws_eqByteS_31) K_laws_eqByteS_31 (s_laws_eqByteS_31) _
      exact ok_laws_eqByteS_31 r hm

theorem ok_laws_eqByteS (p0 : (List Int)) (p1 : (List Int)) (r : Bool) (hm : m_laws_eqByteS p0 p1 = some r) : Runs ext tbl 16 (as_laws_eqByteS p0 p1) (res_laws_eqByteS r) :=
  runs_of (vf := vf_laws_eqByteS) (by kernel_rfl) rfl (st := (enter vf_laws_eqByteS (as_laws_eqByteS p0 p1)).getD default) (by kernel_rfl) (go_on [] 1000 True.intro (ok_laws_eqByteS_0 p0 p1 r hm) (by kernel_rfl))
def O_laws_eqBoolS_15 (Q : VX → St → Prop) (e : (Bool) ⊕ ((Unit))) : Prop := match e with | .inl e => Q = Post vf_laws_eqBoolS (res_laws_eqBoolS e) | .inr e => EvU ext tbl (.c c_laws_eqBoolS_31) K_laws_eqBoolS_31 (s_laws_eqBoolS_31) Q
theorem ok_laws_eqBoolS_31 (r : Bool) (hm : m_laws_eqBoolS_31 = some r) : EvU ext tbl (.c c_laws_eqBoolS_31) K_laws_eqBoolS_31 (s_laws_eqBoolS_31) (Post vf_laws_eqBoolS (res_laws_eqBoolS r)) := by
  exact go_end [] 1000 True.intro (congrArg res_laws_eqBoolS (Option.some.inj hm)) (by kernel_rfl)

theorem ok_laws_eqBoolS_15 (p0 : (List Bool)) (p1 : (List Bool)) (i15_0 : Int) (y : (Int) ⊕ ((Bool) ⊕ ((Unit)))) (hm : m_laws_eqBoolS_15 p0 p1 i15_0 = some y) (Q : VX → St → Prop)
    (hin : ∀ s, y = .inl s → EvU ext tbl (.c c_laws_eqBoolS_15) K_laws_eqBoolS_15 (s_laws_eqBoolS_15 p0 p1 s) Q) (hout : ∀ e, y = .inr e → O_laws_eqBoolS_15 Q e) : EvU ext tbl (.c c_laws_eqBoolS_15) K_laws_eqBoolS_15 (s_laws_eqBoolS_15 p0 p1 i15_0) Q := by
  obtain ⟨h15_0, hm⟩ | ⟨h15_0, hm⟩ := split_ite hm
  · skip
    obtain ⟨x15_1, h15_1, hm⟩ := bind_some hm
    obtain ⟨x15_2, h15_2, hm⟩ := bind_some hm
    obtain ⟨h15_3, hm⟩ | ⟨h15_3, hm⟩ := split_ite hm
    · skip
      refine go_on (u' := .c c_laws_eqBoolS_15) (K' := K_laws_eqBoolS_15) (st' := s_laws_eqBoolS_15 p0 p1 (w64 (i15_0 + 1))) [.num p0.length, .bit true, .row (rB x15_1), .row (rB x15_2), .bit false] 1000 (And.intro (len_map rB (show p0.length = p0.length from rfl)) (And.intro h15_0 (And.intro (rd_nn h15_1) (And.intro (at_row rB (rd_get h15_1)) (And.intro (rd_nn h15_2) (And.intro (at_row rB (rd_get h15_2)) (And.intro (not_f h15_3) True.intro))))))) ?_ (by kernel_rfl)
      exact hin (w64 (i15_0 + 1)) (Option.some.inj hm).symm
    · skip
      have hQ : Q = Post vf_laws_eqBoolS (res_laws_eqBoolS false) := hout (.inl false) (Option.some.inj hm).symm
      subst hQ
      exact go_end [.num p0.length, .bit true, .row (rB x15_1), .row (rB x15_2), .bit true] 1000 (And.intro (len_map rB (show p0.length = p0.length from rfl)) (And.intro h15_0 (And.intro (rd_nn h15_1) (And.intro (at_row rB (rd_get h15_1)) (And.intro (rd_nn h15_2) (And.intro (at_row rB (rd_get h15_2)) (And.intro (not_t h15_3) True.intro))))))) (rfl : res_laws_eqBoolS false = res_laws_eqBoolS false) (by kernel_rfl)
  · skip
    refine go_on (u' := .c c_laws_eqBoolS_31) (K' := K_laws_eqBoolS_31) (st' := s_laws_eqBoolS_31) [.num p0.length, .bit false] 1000 (And.intro (len_map rB (show p0.length = p0.length from rfl)) (And.intro h15_0 True.intro)) ?_ (by kernel_rfl)
    exact hout (.inr ()) (Option.some.inj hm).symm

theorem ok_laws_eqBoolS_0 (p0 : (List Bool)) (p1 : (List Bool)) (r : Bool) (hm : m_laws_eqBoolS_0 p0 p1 = some r) : EvU ext tbl (.c c_laws_eqBoolS_0) K_laws_eqBoolS_0 (s_laws_eqBoolS_0 p0 p1) (Post vf_laws_eqBoolS (res_laws_eqBoolS r)) := by
  obtain ⟨h0_0, hm⟩ | ⟨h0_0, hm⟩ := split_ite hm
  · skip
    exact go_end [.num p0.length, .num p1.length, .bit true] 1000 (And.intro (len_map rB (show p0.length = p0.length from rfl)) (And.intro (len_map rB (show p1.length = p1.length from rfl)) (And.intro h0_0 True.intro))) (congrArg res_laws_eqBoolS (Option.some.inj hm)) (by kernel_rfl)
  · skip
    refine go_on (u' := .c c_laws_eqBoolS_15) (K' := K_laws_eqBoolS_15) (st' := s_laws_eqBoolS_15 p0 p1 0) [.num p0.length, .num p1.length, .bit false] 1000 (And.intro (len_map rB (show p0.length = p0.length from rfl)) (And.intro (len_map rB (show p1.length = p1.length from rfl)) (And.intro h0_0 True.intro))) ?_ (by kernel_rfl)
    obtain ⟨e, he, hm⟩ := bind_some hm
    refine loop_rule (u := .c c_laws_eqBoolS_15) (K := K_laws_eqBoolS_15) (Q := (Post vf_laws_eqBoolS (res_laws_eqBoolS r))) (b := lp_laws_eqBoolS_15 p0 p1) (We := O_laws_eqBoolS_15 (Post vf_laws_eqBoolS (res_laws_eqBoolS r))) (stJ := fun s => s_laws_eqBoolS_15 p0 p1 s) (s := 0) (fun s y hb hin hout => ok_laws_eqBoolS_15 p0 p1 s y hb (Post vf_laws_eqBoolS (res_laws_eqBoolS r)) hin hout) he ?_
    rcases e with e | e
    · skip
      exact congrArg (fun r => Post vf_laws_eqBoolS (res_laws_eqBoolS r)) (Option.some.inj hm).symm
    · skip
      show EvU ext tbl (.c c_laws_eqBoolS_31) K_laws_eqBoolS_31 (s_laws_eqBoolS_31) _
      exact ok_laws_eqBoolS_31 r hm

theorem ok_laws_eqBoolS (p0 : (List Bool)) (p1 : (List Bool)) (r : Bool) (hm : m_laws_eqBoolS p0 p1 = some r) : Runs ext tbl 119 (as_laws_eqBoolS p0 p1) (res_laws_eqBoolS r) :=
  runs_of (vf := vf_laws_eqBoolS) (by kernel_rfl) rfl (st := (enter vf_laws_eqBoolS (as_laws_eqBoolS p0 p1)).getD default) (by kernel_rfl) (go_on [] 1000 True.intro (ok_laws_eqBoolS_0 p0 p1 r hm) (by kernel_rfl))
def O_laws_eqIntS_15 (Q : VX → St → Prop) (e : (Bool) ⊕ ((Unit))) : Prop := match e with | .inl e => Q = Post vf_laws_eqIntS (res_laws_eqIntS e) | .inr e => EvU ext tbl (.c c_laws_eqIntS_31) K_laws_eqIntS_31 (s_laws_eqIntS_31) Q
theorem ok_laws_eqIntS_31 (r : Bool) (hm : m_laws_eqIntS_31 = some r) : EvU ext tbl (.c c_laws_eqIntS_31) K_laws_eqIntS_31 (s_laws_eqIntS_31) (Post vf_laws_eqIntS (res_laws_eqIntS r)) := by
  exact go_end [] 1000 True.intro (congrArg res_laws_eqIntS (Option.some.inj hm)) (by kernel_rfl)

theorem ok_laws_eqIntS_15 (p0 : (List Int)) (p1 : (List Int)) (i15_0 : Int) (y : (Int) ⊕ ((Bool) ⊕ ((Unit)))) (hm : m_laws_eqIntS_15 p0 p1 i15_0 = some y) (Q : VX → St → Prop)
    (hin : ∀ s, y = .inl s → EvU ext tbl (.c c_laws_eqIntS_15) K_laws_eqIntS_15 (s_laws_eqIntS_15 p0 p1 s) Q) (hout : ∀ e, y = .inr e → O_laws_eqIntS_15 Q e) : EvU ext tbl (.c c_laws_eqIntS_15) K_laws_eqIntS_15 (s_laws_eqIntS_15 p0 p1 i15_0) Q := by
  obtain ⟨h15_0, hm⟩ | ⟨h15_0, hm⟩ := split_ite hm
  · skip
    obtain ⟨x15_1, h15_1, hm⟩ := bind_some hm
    obtain ⟨x15_2, h15_2, hm⟩ := bind_some hm
    obtain ⟨h15_3, hm⟩ | ⟨h15_3, hm⟩ := split_ite hm
    · skip
      have hQ : Q = Post vf_laws_eqIntS (res_laws_eqIntS false) := hout (.inl false) (Option.some.inj hm).symm
      subst hQ
      exact go_end [.num p0.length, .bit true, .row ((rI .i64) x15_1), .row ((rI .i64) x15_2), .bit true] 1000 (And.intro (len_map (rI .i64) (show p0.length = p0.length from rfl)) (And.intro h15_0 (And.intro (rd_nn h15_1) (And.intro (at_row (rI .i64) (rd_get h15_1)) (And.intro (rd_nn h15_2) (And.intro (at_row (rI .i64) (rd_get h15_2)) (And.intro h15_3 True.intro))))))) (rfl : res_laws_eqIntS false = res_laws_eqIntS false) (by kernel_rfl)
    · skip
      refine go_on (u' := .c c_laws_eqIntS_15) (K' := K_laws_eqIntS_15) (st' := s_laws_eqIntS_15 p0 p1 (w64 (i15_0 + 1))) [.num p0.length, .bit true, .row ((rI .i64) x15_1), .row ((rI .i64) x15_2), .bit false] 1000 (And.intro (len_map (rI .i64) (show p0.length = p0.length from rfl)) (And.intro h15_0 (And.intro (rd_nn h15_1) (And.intro (at_row (rI .i64) (rd_get h15_1)) (And.intro (rd_nn h15_2) (And.intro (at_row (rI .i64) (rd_get h15_2)) (And.intro h15_3 True.intro))))))) ?_ (by kernel_rfl)
      exact hin (w64 (i15_0 + 1)) (Option.some.inj hm).symm
  · skip
    refine go_on (u' := .c c_laws_eqIntS_31) (K' := K_laws_eqIntS_31) (st' := s_laws_eqIntS_31) [.num p0.length, .bit false] 1000 (And.intro (len_map (rI .i64) (show p0.length = p0.length from rfl)) (And.intro h15_0 True.intro)) ?_ (by kernel_rfl)
    exact hout (.inr ()) (Option.some.inj hm).symm

theorem ok_laws_eqIntS_0 (p0 : (List Int)) (p1 : (List Int)) (r : Bool) (hm : m_laws_eqIntS_0 p0 p1 = some r) : EvU ext tbl (.c c_laws_eqIntS_0) K_laws_eqIntS_0 (s_laws_eqIntS_0 p0 p1) (Post vf_laws_eqIntS (res_laws_eqIntS r)) := by
  obtain ⟨h0_0, hm⟩ | ⟨h0_0, hm⟩ := split_ite hm
  · skip
    exact go_end [.num p0.length, .num p1.length, .bit true] 1000 (And.intro (len_map (rI .i64) (show p0.length = p0.length from rfl)) (And.intro (len_map (rI .i64) (show p1.length = p1.length from rfl)) (And.intro h0_0 True.intro))) (congrArg res_laws_eqIntS (Option.some.inj hm)) (by kernel_rfl)
  · skip
    refine go_on (u' := .c c_laws_eqIntS_15) (K' := K_laws_eqIntS_15) (st' := s_laws_eqIntS_15 p0 p1 0) [.num p0.length, .num p1.length, .bit false] 1000 (And.intro (len_map (rI .i64) (show p0.length = p0.length from rfl)) (And.intro (len_map (rI .i64) (show p1.length = p1.length from rfl)) (And.intro h0_0 True.intro))) ?_ (by kernel_rfl)
    obtain ⟨e, he, hm⟩ := bind_some hm
    refine loop_rule (u := .c c_laws_eqIntS_15) (K := K_laws_eqIntS_15) (Q := (Post vf_laws_eqIntS (res_laws_eqIntS r))) (b := lp_laws_eqIntS_15 p0 p1) (We := O_laws_eqIntS_15 (Post vf_laws_eqIntS (res_laws_eqIntS r))) (stJ := fun s => s_laws_eqIntS_15 p0 p1 s) (s := 0) (fun s y hb hin hout => ok_laws_eqIntS_15 p0 p1 s y hb (Post vf_laws_eqIntS (res_laws_eqIntS r)) hin hout) he ?_
    rcases e with e | e
    · skip
      exact congrArg (fun r => Post vf_laws_eqIntS (res_laws_eqIntS r)) (Option.some.inj hm).symm
    · skip
      show EvU ext tbl (.c c_laws_eqIntS_31) K_laws_eqIntS_31 (s_laws_eqIntS_31) _
      exact ok_laws_eqIntS_31 r hm

theorem ok_laws_eqIntS (p0 : (List Int)) (p1 : (List Int)) (r : Bool) (hm : m_laws_eqIntS p0 p1 = some r) : Runs ext tbl 62 (as_laws_eqIntS p0 p1) (res_laws_eqIntS r) :=
  runs_of (vf := vf_laws_eqIntS) (by kernel_rfl) rfl (st := (enter vf_laws_eqIntS (as_laws_eqIntS p0 p1)).getD default) (by kernel_rfl) (go_on [] 1000 True.intro (ok_laws_eqIntS_0 p0 p1 r hm) (by kernel_rfl))
def O_laws_eqByteSS_15 (Q : VX → St → Prop) (e : (Bool) ⊕ ((Unit))) : Prop := match e with | .inl e => Q = Post vf_laws_eqByteSS (res_laws_eqByteSS e) | .inr e => EvU ext tbl (.c c_laws_eqByteSS_31) K_laws_eqByteSS_31 (s_laws_eqByteSS_31) Q
theorem ok_laws_eqByteSS_31 (r : Bool) (hm : m_laws_eqByteSS_31 = some r) : EvU ext tbl (.c c_laws_eqByteSS_31) K_laws_eqByteSS_31 (s_laws_eqByteSS_31) (Post vf_laws_eqByteSS (res_laws_eqByteSS r)) := by
  exact go_end [] 1000 True.intro (congrArg res_laws_eqByteSS (Option.some.inj hm)) (by kernel_rfl)

theorem ok_laws_eqByteSS_15 (p0 : (List (List Int))) (p1 : (List (List Int))) (i15_0 : Int) (y : (Int) ⊕ ((Bool) ⊕ ((Unit)))) (hm : m_laws_eqByteSS_15 p0 p1 i15_0 = some y) (Q : VX → St → Prop)
    (hin : ∀ s, y = .inl s → EvU ext tbl (.c c_laws_eqByteSS_15) K_laws_eqByteSS_15 (s_laws_eqByteSS_15 p0 p1 s) Q) (hout : ∀ e, y = .inr e → O_laws_eqByteSS_15 Q e) : EvU ext tbl (.c c_laws_eqByteSS_15) K_laws_eqByteSS_15 (s_laws_eqByteSS_15 p0 p1 i15_0) Q := by
  obtain ⟨h15_0, hm⟩ | ⟨h15_0, hm⟩ := split_ite hm
  · skip
    obtain ⟨x15_1, h15_1, hm⟩ := bind_some hm
    obtain ⟨x15_2, h15_2, hm⟩ := bind_some hm
    obtain ⟨x15_3, h15_3, hm⟩ := bind_some hm
    obtain ⟨h15_4, hm⟩ | ⟨h15_4, hm⟩ := split_ite hm
    · skip
      refine go_on (u' := .c c_laws_eqByteSS_15) (K' := K_laws_eqByteSS_15) (st' := s_laws_eqByteSS_15 p0 p1 (w64 (i15_0 + 1))) [.num p0.length, .bit true, .row ((rL (rI .u8)) x15_1), .row ((rL (rI .u8)) x15_2), .res (res_laws_eqByteS x15_3), .bit false] 1000 (And.intro (len_map (rL (rI .u8)) (show p0.length = p0.length from rfl)) (And.intro h15_0 (And.intro (rd_nn h15_1) (And.intro (at_row (rL (rI .u8)) (rd_get h15_1)) (And.intro (rd_nn h15_2) (And.intro (at_row (rL (rI .u8)) (rd_get h15_2)) (And.intro (ok_laws_eqByteS x15_1 x15_2 x15_3 h15_3) (And.intro (not_f h15_4) True.intro)))))))) ?_ (by kernel_rfl)
      exact hin (w64 (i15_0 + 1)) (Option.some.inj hm).symm
    · skip
      have hQ : Q = Post vf_laws_eqByteSS (res_laws_eqByteSS false) := hout (.inl false) (Option.some.inj hm).symm
      subst hQ
      exact go_end [.num p0.length, .bit true, .row ((rL (rI .u8)) x15_1), .row ((rL (rI .u8)) x15_2), .res (res_laws_eqByteS x15_3), .bit true] 1000 (And.intro (len_map (rL (rI .u8)) (show p0.length = p0.length from rfl)) (And.intro h15_0 (And.intro (rd_nn h15_1) (And.intro (at_row (rL (rI .u8)) (rd_get h15_1)) (And.intro (rd_nn h15_2) (And.intro (at_row (rL (rI .u8)) (rd_get h15_2)) (And.intro (ok_laws_eqByteS x15_1 x15_2 x15_3 h15_3) (And.intro (not_t h15_4) True.intro)))))))) (rfl : res_laws_eqByteSS false = res_laws_eqByteSS false) (by kernel_rfl)
  · skip
    refine go_on (u' := .c c_laws_eqByteSS_31) (K' := K_laws_eqByteSS_31) (st' := s_laws_eqByteSS_31) [.num p0.length, .bit false] 1000 (And.intro (len_map (rL (rI .u8)) (show p0.length = p0.length from rfl)) (And.intro h15_0 True.intro)) ?_ (by kernel_rfl)
    exact hout (.inr ()) (Option.some.inj hm).symm

theorem ok_laws_eqByteSS_0 (p0 : (List (List Int))) (p1 : (List (List Int))) (r : Bool) (hm : m_laws_eqByteSS_0 p0 p1 = some r) : EvU ext tbl (.c c_laws_eqByteSS_0) K_laws_eqByteSS_0 (s_laws_eqByteSS_0 p0 p1) (Post vf_laws_eqByteSS (res_laws_eqByteSS r)) := by
  obtain ⟨h0_0, hm⟩ | ⟨h0_0, hm⟩ := split_ite hm
  · skip
    exact go_end [.num p0.length, .num p1.length, .bit true] 1000 (And.intro (len_map (rL (rI .u8)) (show p0.length = p0.length from rfl)) (And.intro (len_map (rL (rI .u8)) (show p1.length = p1.length from rfl)) (And.intro h0_0 True.intro))) (congrArg res_laws_eqByteSS (Option.some.inj hm)) (by kernel_rfl)
  · skip
    refine go_on (u' := .c c_laws_eqByteSS_15) (K' := K_laws_eqByteSS_15) (st' := s_laws_eqByteSS_15 p0 p1 0) [.num p0.length, .num p1.length, .bit false] 1000 (And.intro (len_map (rL (rI .u8)) (show p0.length = p0.length from rfl)) (And.intro (len_map (rL (rI .u8)) (show p1.length = p1.length from rfl)) (And.intro h0_0 True.intro))) ?_ (by kernel_rfl)
    obtain ⟨e, he, hm⟩ := bind_some hm
    refine loop_rule (u := .c c_laws_eqByteSS_15) (K := K_laws_eqByteSS_15) (Q := (Post vf_laws_eqByteSS (res_laws_eqByteSS r))) (b := lp_laws_eqByteSS_15 p0 p1) (We := O_laws_eqByteSS_15 (Post vf_laws_eqByteSS (res_laws_eqByteSS r))) (stJ := fun s => s_laws_eqByteSS_15 p0 p1 s) (s := 0) (fun s y hb hin hout => ok_laws_eqByteSS_15 p0 p1 s y hb (Post vf_laws_eqByteSS (res_laws_eqByteSS r)) hin hout) he ?_
    rcases e with e | e
    · skip
      exact congrArg (fun r => Post vf_laws_eqByteSS (res_laws_eqByteSS r)) (Option.some.inj hm).symm
    · skip
      show EvU ext tbl (.c c_laws_eqByteSS_31) K_laws_eqByteSS_31 (s_laws_eqByteSS_31) _
      exact ok_laws_eqByteSS_31 r hm

theorem ok_laws_eqByteSS (p0 : (List (List Int))) (p1 : (List (List Int))) (r : Bool) (hm : m_laws_eqByteSS p0 p1 = some r) : Runs ext tbl 120 (as_laws_eqByteSS p0 p1) (res_laws_eqByteSS r) :=
  runs_of (vf := vf_laws_eqByteSS) (by kernel_rfl) rfl (st := (enter vf_laws_eqByteSS (as_laws_eqByteSS p0 p1)).getD default) (by kernel_rfl) (go_on [] 1000 True.intro (ok_laws_eqByteSS_0 p0 p1 r hm) (by kernel_rfl))
theorem ok_laws_eqPiled_0 (p0 : S_Piled) (p1 : S_Piled) (r : Bool) (hm : m_laws_eqPiled_0 p0 p1 = some r) : EvU ext tbl (.c c_laws_eqPiled_0) K_laws_eqPiled_0 (s_laws_eqPiled_0 p0 p1) (Post vf_laws_eqPiled (res_laws_eqPiled r)) := by
  obtain ⟨h0_0, hm⟩ | ⟨h0_0, hm⟩ := split_ite hm
  · skip
    exact go_end [.bit true] 1000 (And.intro h0_0 True.intro) (congrArg res_laws_eqPiled (Option.some.inj hm)) (by kernel_rfl)
  · skip
    obtain ⟨h0_1, hm⟩ | ⟨h0_1, hm⟩ := split_ite hm
    · skip
      exact go_end [.bit false, .bit true] 1000 (And.intro h0_0 (And.intro h0_1 True.intro)) (congrArg res_laws_eqPiled (Option.some.inj hm)) (by kernel_rfl)
    · skip
      obtain ⟨h0_2, hm⟩ | ⟨h0_2, hm⟩ := split_ite hm
      · skip
        exact go_end [.bit false, .bit false, .bit true] 1000 (And.intro h0_0 (And.intro h0_1 (And.intro h0_2 True.intro))) (congrArg res_laws_eqPiled (Option.some.inj hm)) (by kernel_rfl)
      · skip
        obtain ⟨x0_3, h0_3, hm⟩ := bind_some hm
        obtain ⟨h0_4, hm⟩ | ⟨h0_4, hm⟩ := split_ite hm
        · skip
          obtain ⟨x0_5, h0_5, hm⟩ := bind_some hm
          obtain ⟨h0_6, hm⟩ | ⟨h0_6, hm⟩ := split_ite hm
          · skip
            obtain ⟨x0_7, h0_7, hm⟩ := bind_some hm
            obtain ⟨h0_8, hm⟩ | ⟨h0_8, hm⟩ := split_ite hm
            · skip
              exact go_end [.bit false, .bit false, .bit false, .res (res_laws_eqBoolS x0_3), .bit false, .res (res_laws_eqIntS x0_5), .bit false, .res (res_laws_eqByteSS x0_7), .bit false] 1000 (And.intro h0_0 (And.intro h0_1 (And.intro h0_2 (And.intro (ok_laws_eqBoolS p0.keys p1.keys x0_3 h0_3) (And.intro (not_f h0_4) (And.intro (ok_laws_eqIntS p0.steps p1.steps x0_5 h0_5) (And.intro (not_f h0_6) (And.intro (ok_laws_eqByteSS p0.parts p1.parts x0_7 h0_7) (And.intro (not_f h0_8) True.intro))))))))) (congrArg res_laws_eqPiled (Option.some.inj hm)) (by kernel_rfl)
            · skip
              exact go_end [.bit false, .bit false, .bit false, .res (res_laws_eqBoolS x0_3), .bit false, .res (res_laws_eqIntS x0_5), .bit false, .res (res_laws_eqByteSS x0_7), .bit true] 1000 (And.intro h0_0 (And.intro h0_1 (And.intro h0_2 (And.intro (ok_laws_eqBoolS p0.keys p1.keys x0_3 h0_3) (And.intro (not_f h0_4) (And.intro (ok_laws_eqIntS p0.steps p1.steps x0_5 h0_5) (And.intro (not_f h0_6) (And.intro (ok_laws_eqByteSS p0.parts p1.parts x0_7 h0_7) (And.intro (not_t h0_8) True.intro))))))))) (congrArg res_laws_eqPiled (Option.some.inj hm)) (by kernel_rfl)
          · skip
            exact go_end [.bit false, .bit false, .bit false, .res (res_laws_eqBoolS x0_3), .bit false, .res (res_laws_eqIntS x0_5), .bit true] 1000 (And.intro h0_0 (And.intro h0_1 (And.intro h0_2 (And.intro (ok_laws_eqBoolS p0.keys p1.keys x0_3 h0_3) (And.intro (not_f h0_4) (And.intro (ok_laws_eqIntS p0.steps p1.steps x0_5 h0_5) (And.intro (not_t h0_6) True.intro))))))) (congrArg res_laws_eqPiled (Option.some.inj hm)) (by kernel_rfl)
        · skip
          exact go_end [.bit false, .bit false, .bit false, .res (res_laws_eqBoolS x0_3), .bit true] 1000 (And.intro h0_0 (And.intro h0_1 (And.intro h0_2 (And.intro (ok_laws_eqBoolS p0.keys p1.keys x0_3 h0_3) (And.intro (not_t h0_4) True.intro))))) (congrArg res_laws_eqPiled (Option.some.inj hm)) (by kernel_rfl)

theorem ok_laws_eqPiled (p0 : S_Piled) (p1 : S_Piled) (r : Bool) (hm : m_laws_eqPiled p0 p1 = some r) : Runs ext tbl 34 (as_laws_eqPiled p0 p1) (res_laws_eqPiled r) :=
  runs_of (vf := vf_laws_eqPiled) (by kernel_rfl) rfl (st := (enter vf_laws_eqPiled (as_laws_eqPiled p0 p1)).getD default) (by kernel_rfl) (go_on [] 1000 True.intro (ok_laws_eqPiled_0 p0 p1 r hm) (by kernel_rfl))
def O_laws_markBoolS_7 (Q : VX → St → Prop) (e : (Int × (List Bool))) : Prop := EvU ext tbl (.c c_laws_markBoolS_19) K_laws_markBoolS_19 (s_laws_markBoolS_19 e.1 e.2) Q
theorem ok_laws_markBoolS_19 (i19_0 : Int) (l19_1 : (List Bool)) (r : Int × (List Bool)) (hm : m_laws_markBoolS_19 i19_0 l19_1 = some r) : EvU ext tbl (.c c_laws_markBoolS_19) K_laws_markBoolS_19 (s_laws_markBoolS_19 i19_0 l19_1) (Post vf_laws_markBoolS (res_laws_markBoolS r)) := by
  exact go_end [] 1000 True.intro (congrArg res_laws_markBoolS (Option.some.inj hm)) (by kernel_rfl)

theorem ok_laws_markBoolS_7 (i7_0 : Int) (i7_1 : Int) (l7_2 : (List Bool)) (y : (Int × Int × (List Bool)) ⊕ ((Int × (List Bool)))) (hm : m_laws_markBoolS_7 i7_0 i7_1 l7_2 = some y) (Q : VX → St → Prop)
    (hin : ∀ s, y = .inl s → EvU ext tbl (.c c_laws_markBoolS_7) K_laws_markBoolS_7 (s_laws_markBoolS_7 s.1 s.2.1 s.2.2) Q) (hout : ∀ e, y = .inr e → O_laws_markBoolS_7 Q e) : EvU ext tbl (.c c_laws_markBoolS_7) K_laws_markBoolS_7 (s_laws_markBoolS_7 i7_0 i7_1 l7_2) Q := by
  obtain ⟨h7_0, hm⟩ | ⟨h7_0, hm⟩ := split_ite hm
  · skip
    obtain ⟨x7_1, h7_1, hm⟩ := bind_some hm
    refine go_on (u' := .c c_laws_markBoolS_7) (K' := K_laws_markBoolS_7) (st' := s_laws_markBoolS_7 (w64 (i7_0 + 1)) (w64 (i7_1 + 1)) (l7_2.set (0 + Int.toNat i7_1) ((Int.tmod i7_0 3) == 0))) [.bit true, .rows (List.map rB (l7_2.set (0 + Int.toNat i7_1) ((Int.tmod i7_0 3) == 0))), .num ((l7_2.set (0 + Int.toNat i7_1) ((Int.tmod i7_0 3) == 0)).length)] 1000 (And.intro h7_0 (And.intro (by decide : (3 : Int) ≠ 0) (And.intro (rd_in rfl h7_1) (And.intro (put_ob rB ((Int.tmod i7_0 3) == 0) 0 (.lit (.bool ((Int.tmod i7_0 3) == 0))) (rd_get0 h7_1) (by kernel_rfl) (by kernel_rfl)) (And.intro (lens l7_2.length ((l7_2.set (0 + Int.toNat i7_1) ((Int.tmod i7_0 3) == 0)).length) (set_len rfl)) True.intro))))) ?_ (by kernel_rfl)
    exact hin ((w64 (i7_0 + 1)), (w64 (i7_1 + 1)), (l7_2.set (0 + Int.toNat i7_1) ((Int.tmod i7_0 3) == 0))) (Option.some.inj hm).symm
  · skip
    refine go_on (u' := .c c_laws_markBoolS_19) (K' := K_laws_markBoolS_19) (st' := s_laws_markBoolS_19 i7_0 l7_2) [.bit false, .num l7_2.length] 1000 (And.intro h7_0 (And.intro (lens l7_2.length l7_2.length rfl) True.intro)) ?_ (by kernel_rfl)
    exact hout (i7_0, l7_2) (Option.some.inj hm).symm

theorem ok_laws_markBoolS_0 (p1 : Int) (p0 : (List Bool)) (r : Int × (List Bool)) (hm : m_laws_markBoolS_0 p1 p0 = some r) : EvU ext tbl (.c c_laws_markBoolS_0) K_laws_markBoolS_0 (s_laws_markBoolS_0 p1 p0) (Post vf_laws_markBoolS (res_laws_markBoolS r)) := by
  refine go_on (u' := .c c_laws_markBoolS_7) (K' := K_laws_markBoolS_7) (st' := s_laws_markBoolS_7 p1 0 p0) [.num p0.length] 1000 (And.intro (lens p0.length p0.length rfl) True.intro) ?_ (by kernel_rfl)
  obtain ⟨e, he, hm⟩ := bind_some hm
  refine loop_rule (u := .c c_laws_markBoolS_7) (K := K_laws_markBoolS_7) (Q := (Post vf_laws_markBoolS (res_laws_markBoolS r))) (b := lp_laws_markBoolS_7) (We := O_laws_markBoolS_7 (Post vf_laws_markBoolS (res_laws_markBoolS r))) (stJ := fun s => s_laws_markBoolS_7 s.1 s.2.1 s.2.2) (s := (p1, 0, p0)) (fun s y hb hin hout => ok_laws_markBoolS_7 s.1 s.2.1 s.2.2 y hb (Post vf_laws_markBoolS (res_laws_markBoolS r)) hin hout) he ?_
  show EvU ext tbl (.c c_laws_markBoolS_19) K_laws_markBoolS_19 (s_laws_markBoolS_19 e.1 e.2) _
  exact ok_laws_markBoolS_19 e.1 e.2 r hm

theorem ok_laws_markBoolS (p0 : (List Bool)) (p1 : Int) (r : Int × (List Bool)) (hm : m_laws_markBoolS p0 p1 = some r) : Runs ext tbl 121 (as_laws_markBoolS p0 p1) (res_laws_markBoolS r) :=
  runs_of (vf := vf_laws_markBoolS) (by kernel_rfl) rfl (st := (enter vf_laws_markBoolS (as_laws_markBoolS p0 p1)).getD default) (by kernel_rfl) (go_on [.num p0.length] 1000 (And.intro (len_map rB (rfl : p0.length = p0.length)) True.intro) (ok_laws_markBoolS_0 p1 p0 r hm) (by kernel_rfl))
def O_laws_markIntS_7 (Q : VX → St → Prop) (e : (Int × (List Int))) : Prop := EvU ext tbl (.c c_laws_markIntS_19) K_laws_markIntS_19 (s_laws_markIntS_19 e.1 e.2) Q
theorem ok_laws_markIntS_19 (i19_0 : Int) (l19_1 : (List Int)) (r : Int × (List Int)) (hm : m_laws_markIntS_19 i19_0 l19_1 = some r) : EvU ext tbl (.c c_laws_markIntS_19) K_laws_markIntS_19 (s_laws_markIntS_19 i19_0 l19_1) (Post vf_laws_markIntS (res_laws_markIntS r)) := by
  exact go_end [] 1000 True.intro (congrArg res_laws_markIntS (Option.some.inj hm)) (by kernel_rfl)

theorem ok_laws_markIntS_7 (i7_0 : Int) (i7_1 : Int) (l7_2 : (List Int)) (y : (Int × Int × (List Int)) ⊕ ((Int × (List Int)))) (hm : m_laws_markIntS_7 i7_0 i7_1 l7_2 = some y) (Q : VX → St → Prop)
    (hin : ∀ s, y = .inl s → EvU ext tbl (.c c_laws_markIntS_7) K_laws_markIntS_7 (s_laws_markIntS_7 s.1 s.2.1 s.2.2) Q) (hout : ∀ e, y = .inr e → O_laws_markIntS_7 Q e) : EvU ext tbl (.c c_laws_markIntS_7) K_laws_markIntS_7 (s_laws_markIntS_7 i7_0 i7_1 l7_2) Q := by
  obtain ⟨h7_0, hm⟩ | ⟨h7_0, hm⟩ := split_ite hm
  · skip
    obtain ⟨x7_1, h7_1, hm⟩ := bind_some hm
    refine go_on (u' := .c c_laws_markIntS_7) (K' := K_laws_markIntS_7) (st' := s_laws_markIntS_7 (w64 (i7_0 + 1)) (w64 (i7_1 + 1)) (l7_2.set (0 + Int.toNat i7_1) i7_0)) [.bit true, .rows (List.map (rI .i64) (l7_2.set (0 + Int.toNat i7_1) i7_0)), .num ((l7_2.set (0 + Int.toNat i7_1) i7_0).length)] 1000 (And.intro h7_0 (And.intro (rd_in rfl h7_1) (And.intro (put_ob (rI .i64) i7_0 0 (.lit (.int .i64 i7_0)) (rd_get0 h7_1) (by kernel_rfl) (by kernel_rfl)) (And.intro (lens l7_2.length ((l7_2.set (0 + Int.toNat i7_1) i7_0).length) (set_len rfl)) True.intro)))) ?_ (by kernel_rfl)
    exact hin ((w64 (i7_0 + 1)), (w64 (i7_1 + 1)), (l7_2.set (0 + Int.toNat i7_1) i7_0)) (Option.some.inj hm).symm
  · skip
    refine go_on (u' := .c c_laws_markIntS_19) (K' := K_laws_markIntS_19) (st' := s_laws_markIntS_19 i7_0 l7_2) [.bit false, .num l7_2.length] 1000 (And.intro h7_0 (And.intro (lens l7_2.length l7_2.length rfl) True.intro)) ?_ (by kernel_rfl)
    exact hout (i7_0, l7_2) (Option.some.inj hm).symm

theorem ok_laws_markIntS_0 (p1 : Int) (p0 : (List Int)) (r : Int × (List Int)) (hm : m_laws_markIntS_0 p1 p0 = some r) : EvU ext tbl (.c c_laws_markIntS_0) K_laws_markIntS_0 (s_laws_markIntS_0 p1 p0) (Post vf_laws_markIntS (res_laws_markIntS r)) := by
  refine go_on (u' := .c c_laws_markIntS_7) (K' := K_laws_markIntS_7) (st' := s_laws_markIntS_7 p1 0 p0) [.num p0.length] 1000 (And.intro (lens p0.length p0.length rfl) True.intro) ?_ (by kernel_rfl)
  obtain ⟨e, he, hm⟩ := bind_some hm
  refine loop_rule (u := .c c_laws_markIntS_7) (K := K_laws_markIntS_7) (Q := (Post vf_laws_markIntS (res_laws_markIntS r))) (b := lp_laws_markIntS_7) (We := O_laws_markIntS_7 (Post vf_laws_markIntS (res_laws_markIntS r))) (stJ := fun s => s_laws_markIntS_7 s.1 s.2.1 s.2.2) (s := (p1, 0, p0)) (fun s y hb hin hout => ok_laws_markIntS_7 s.1 s.2.1 s.2.2 y hb (Post vf_laws_markIntS (res_laws_markIntS r)) hin hout) he ?_
  show EvU ext tbl (.c c_laws_markIntS_19) K_laws_markIntS_19 (s_laws_markIntS_19 e.1 e.2) _
  exact ok_laws_markIntS_19 e.1 e.2 r hm

theorem ok_laws_markIntS (p0 : (List Int)) (p1 : Int) (r : Int × (List Int)) (hm : m_laws_markIntS p0 p1 = some r) : Runs ext tbl 63 (as_laws_markIntS p0 p1) (res_laws_markIntS r) :=
  runs_of (vf := vf_laws_markIntS) (by kernel_rfl) rfl (st := (enter vf_laws_markIntS (as_laws_markIntS p0 p1)).getD default) (by kernel_rfl) (go_on [.num p0.length] 1000 (And.intro (len_map (rI .i64) (rfl : p0.length = p0.length)) True.intro) (ok_laws_markIntS_0 p1 p0 r hm) (by kernel_rfl))
def O_laws_markByteS_7 (Q : VX → St → Prop) (e : (Int × (List Int))) : Prop := EvU ext tbl (.c c_laws_markByteS_19) K_laws_markByteS_19 (s_laws_markByteS_19 e.1 e.2) Q
theorem ok_laws_markByteS_19 (i19_0 : Int) (l19_1 : (List Int)) (r : Int × (List Int)) (hm : m_laws_markByteS_19 i19_0 l19_1 = some r) : EvU ext tbl (.c c_laws_markByteS_19) K_laws_markByteS_19 (s_laws_markByteS_19 i19_0 l19_1) (Post vf_laws_markByteS (res_laws_markByteS r)) := by
  exact go_end [] 1000 True.intro (congrArg res_laws_markByteS (Option.some.inj hm)) (by kernel_rfl)

theorem ok_laws_markByteS_7 (i7_0 : Int) (i7_1 : Int) (l7_2 : (List Int)) (y : (Int × Int × (List Int)) ⊕ ((Int × (List Int)))) (hm : m_laws_markByteS_7 i7_0 i7_1 l7_2 = some y) (Q : VX → St → Prop)
    (hin : ∀ s, y = .inl s → EvU ext tbl (.c c_laws_markByteS_7) K_laws_markByteS_7 (s_laws_markByteS_7 s.1 s.2.1 s.2.2) Q) (hout : ∀ e, y = .inr e → O_laws_markByteS_7 Q e) : EvU ext tbl (.c c_laws_markByteS_7) K_laws_markByteS_7 (s_laws_markByteS_7 i7_0 i7_1 l7_2) Q := by
  obtain ⟨h7_0, hm⟩ | ⟨h7_0, hm⟩ := split_ite hm
  · skip
    obtain ⟨x7_1, h7_1, hm⟩ := bind_some hm
    refine go_on (u' := .c c_laws_markByteS_7) (K' := K_laws_markByteS_7) (st' := s_laws_markByteS_7 (w64 (i7_0 + 1)) (w64 (i7_1 + 1)) (l7_2.set (0 + Int.toNat i7_1) (wr .u8 i7_0))) [.bit true, .rows (List.map (rI .u8) (l7_2.set (0 + Int.toNat i7_1) (wr .u8 i7_0))), .num ((l7_2.set (0 + Int.toNat i7_1) (wr .u8 i7_0)).length)] 1000 (And.intro h7_0 (And.intro (rd_in rfl h7_1) (And.intro (put_ob (rI .u8) (wr .u8 i7_0) 0 (.lit (.int .u8 (wr .u8 i7_0))) (rd_get0 h7_1) (by kernel_rfl) (by kernel_rfl)) (And.intro (lens l7_2.length ((l7_2.set (0 + Int.toNat i7_1) (wr .u8 i7_0)).length) (set_len rfl)) True.intro)))) ?_ (by kernel_rfl)
    exact hin ((w64 (i7_0 + 1)), (w64 (i7_1 + 1)), (l7_2.set (0 + Int.toNat i7_1) (wr .u8 i7_0))) (Option.some.inj hm).symm
  · skip
    refine go_on (u' := .c c_laws_markByteS_19) (K' := K_laws_markByteS_19) (st' := s_laws_markByteS_19 i7_0 l7_2) [.bit false, .num l7_2.length] 1000 (And.intro h7_0 (And.intro (lens l7_2.length l7_2.length rfl) True.intro)) ?_ (by kernel_rfl)
    exact hout (i7_0, l7_2) (Option.some.inj hm).symm

theorem ok_laws_markByteS_0 (p1 : Int) (p0 : (List Int)) (r : Int × (List Int)) (hm : m_laws_markByteS_0 p1 p0 = some r) : EvU ext tbl (.c c_laws_markByteS_0) K_laws_markByteS_0 (s_laws_markByteS_0 p1 p0) (Post vf_laws_markByteS (res_laws_markByteS r)) := by
  refine go_on (u' := .c c_laws_markByteS_7) (K' := K_laws_markByteS_7) (st' := s_laws_markByteS_7 p1 0 p0) [.num p0.length] 1000 (And.intro (lens p0.length p0.length rfl) True.intro) ?_ (by kernel_rfl)
  obtain ⟨e, he, hm⟩ := bind_some hm
  refine loop_rule (u := .c c_laws_markByteS_7) (K := K_laws_markByteS_7) (Q := (Post vf_laws_markByteS (res_laws_markByteS r))) (b := lp_laws_markByteS_7) (We := O_laws_markByteS_7 (Post vf_laws_markByteS (res_laws_markByteS r))) (stJ := fun s => s_laws_markByteS_7 s.1 s.2.1 s.2.2) (s := (p1, 0, p0)) (fun s y hb hin hout => ok_laws_markByteS_7 s.1 s.2.1 s.2.2 y hb (Post vf_laws_markByteS (res_laws_markByteS r)) hin hout) he ?_
  show EvU ext tbl (.c c_laws_markByteS_19) K_laws_markByteS_19 (s_laws_markByteS_19 e.1 e.2) _
  exact ok_laws_markByteS_19 e.1 e.2 r hm

theorem ok_laws_markByteS (p0 : (List Int)) (p1 : Int) (r : Int × (List Int)) (hm : m_laws_markByteS p0 p1 = some r) : Runs ext tbl 19 (as_laws_markByteS p0 p1) (res_laws_markByteS r) :=
  runs_of (vf := vf_laws_markByteS) (by kernel_rfl) rfl (st := (enter vf_laws_markByteS (as_laws_markByteS p0 p1)).getD default) (by kernel_rfl) (go_on [.num p0.length] 1000 (And.intro (len_map (rI .u8) (rfl : p0.length = p0.length)) True.intro) (ok_laws_markByteS_0 p1 p0 r hm) (by kernel_rfl))
def O_laws_markByteSS_7 (Q : VX → St → Prop) (e : (Int × (List (List Int)))) : Prop := EvU ext tbl (.c c_laws_markByteSS_17) K_laws_markByteSS_17 (s_laws_markByteSS_17 e.1 e.2) Q
theorem ok_laws_markByteSS_17 (i17_0 : Int) (l17_1 : (List (List Int))) (r : Int × (List (List Int))) (hm : m_laws_markByteSS_17 i17_0 l17_1 = some r) : EvU ext tbl (.c c_laws_markByteSS_17) K_laws_markByteSS_17 (s_laws_markByteSS_17 i17_0 l17_1) (Post vf_laws_markByteSS (res_laws_markByteSS r)) := by
  exact go_end [] 1000 True.intro (congrArg res_laws_markByteSS (Option.some.inj hm)) (by kernel_rfl)

theorem ok_laws_markByteSS_7 (i7_0 : Int) (i7_1 : Int) (l7_2 : (List (List Int))) (y : (Int × Int × (List (List Int))) ⊕ ((Int × (List (List Int))))) (hm : m_laws_markByteSS_7 i7_0 i7_1 l7_2 = some y) (Q : VX → St → Prop)
    (hin : ∀ s, y = .inl s → EvU ext tbl (.c c_laws_markByteSS_7) K_laws_markByteSS_7 (s_laws_markByteSS_7 s.1 s.2.1 s.2.2) Q) (hout : ∀ e, y = .inr e → O_laws_markByteSS_7 Q e) : EvU ext tbl (.c c_laws_markByteSS_7) K_laws_markByteSS_7 (s_laws_markByteSS_7 i7_0 i7_1 l7_2) Q := by
  obtain ⟨h7_0, hm⟩ | ⟨h7_0, hm⟩ := split_ite hm
  · skip
    obtain ⟨x7_1, h7_1, hm⟩ := bind_some hm
    obtain ⟨x7_2, h7_2, hm⟩ := bind_some hm
    obtain ⟨x7_3, h7_3, hm⟩ := bind_some hm
    refine go_on (u' := .c c_laws_markByteSS_7) (K' := K_laws_markByteSS_7) (st' := s_laws_markByteSS_7 x7_2.1 (w64 (i7_1 + 1)) (l7_2.set (0 + Int.toNat i7_1) x7_2.2)) [.bit true, .row ((rL (rI .u8)) x7_1), .num x7_1.length, .row ((rL (rI .u8)) x7_1), .res (res_laws_markByteS x7_2), .row ((rL (rI .u8)) x7_1), .row ((rL (rI .u8)) x7_1), .rows (List.map (rL (rI .u8)) (l7_2.set (0 + Int.toNat i7_1) x7_2.2)), .num ((l7_2.set (0 + Int.toNat i7_1) x7_2.2).length)] 1000 (And.intro h7_0 (And.intro (rd_in rfl h7_1) (And.intro (at_row (rL (rI .u8)) (rd_get0 h7_1)) (And.intro (len_map (rI .u8) (show x7_1.length = x7_1.length from rfl)) (And.intro (at_row (rL (rI .u8)) (rd_get0 h7_1)) (And.intro (all_eq (rI .u8) x7_1 rfl) (And.intro (ok_laws_markByteS x7_1 i7_0 x7_2 h7_2) (And.intro (at_row (rL (rI .u8)) (rd_get0 h7_1)) (And.intro (len2 (rI .u8) x7_2.2 x7_1 (ck_p h7_3)) (And.intro (at_row (rL (rI .u8)) (rd_get0 h7_1)) (And.intro (upd_ob (rL (rI .u8)) l7_2 (0 + Int.toNat i7_1) x7_1 x7_2.2 0 (.sl (x7_2.2.map (rI .u8))) (by kernel_rfl)) (And.intro (lens l7_2.length ((l7_2.set (0 + Int.toNat i7_1) x7_2.2).length) (set_len rfl)) True.intro)))))))))))) ?_ (by kernel_rfl)
    exact hin (x7_2.1, (w64 (i7_1 + 1)), (l7_2.set (0 + Int.toNat i7_1) x7_2.2)) (Option.some.inj hm).symm
  · skip
    refine go_on (u' := .c c_laws_markByteSS_17) (K' := K_laws_markByteSS_17) (st' := s_laws_markByteSS_17 i7_0 l7_2) [.bit false, .num l7_2.length] 1000 (And.intro h7_0 (And.intro (lens l7_2.length l7_2.length rfl) True.intro)) ?_ (by kernel_rfl)
    exact hout (i7_0, l7_2) (Option.some.inj hm).symm

theorem ok_laws_markByteSS_0 (p1 : Int) (p0 : (List (List Int))) (r : Int × (List (List Int))) (hm : m_laws_markByteSS_0 p1 p0 = some r) : EvU ext tbl (.c c_laws_markByteSS_0) K_laws_markByteSS_0 (s_laws_markByteSS_0 p1 p0) (Post vf_laws_markByteSS (res_laws_markByteSS r)) := by
  refine go_on (u' := .c c_laws_markByteSS_7) (K' := K_laws_markByteSS_7) (st' := s_laws_markByteSS_7 p1 0 p0) [.num p0.length] 1000 (And.intro (lens p0.length p0.length rfl) True.intro) ?_ (by kernel_rfl)
  obtain ⟨e, he, hm⟩ := bind_some hm
  refine loop_rule (u := .c c_laws_markByteSS_7) (K := K_laws_markByteSS_7) (Q := (Post vf_laws_markByteSS (res_laws_markByteSS r))) (b := lp_laws_markByteSS_7) (We := O_laws_markByteSS_7 (Post vf_laws_markByteSS (res_laws_markByteSS r))) (stJ := fun s => s_laws_markByteSS_7 s.1 s.2.1 s.2.2) (s := (p1, 0, p0)) (fun s y hb hin hout => ok_laws_markByteSS_7 s.1 s.2.1 s.2.2 y hb (Post vf_laws_markByteSS (res_laws_markByteSS r)) hin hout) he ?_
  show EvU ext tbl (.c c_laws_markByteSS_17) K_laws_markByteSS_17 (s_laws_markByteSS_17 e.1 e.2) _
  exact ok_laws_markByteSS_17 e.1 e.2 r hm

theorem ok_laws_markByteSS (p0 : (List (List Int))) (p1 : Int) (r : Int × (List (List Int))) (hm : m_laws_markByteSS p0 p1 = some r) : Runs ext tbl 122 (as_laws_markByteSS p0 p1) (res_laws_markByteSS r) :=
  runs_of (vf := vf_laws_markByteSS) (by kernel_rfl) rfl (st := (enter vf_laws_markByteSS (as_laws_markByteSS p0 p1)).getD default) (by kernel_rfl) (go_on [.num p0.length] 1000 (And.intro (len_map (rL (rI .u8)) (rfl : p0.length = p0.length)) True.intro) (ok_laws_markByteSS_0 p1 p0 r hm) (by kernel_rfl))
theorem ok_laws_markPiled_0 (p0 : S_Piled) (p1 : Int) (r : Int × S_Piled) (hm : m_laws_markPiled_0 p0 p1 = some r) : EvU ext tbl (.c c_laws_markPiled_0) K_laws_markPiled_0 (s_laws_markPiled_0 p0 p1) (Post vf_laws_markPiled (res_laws_markPiled r)) := by
  obtain ⟨x0_0, h0_0, hm⟩ := bind_some hm
  obtain ⟨x0_1, h0_1, hm⟩ := bind_some hm
  obtain ⟨x0_2, h0_2, hm⟩ := bind_some hm
  obtain ⟨x0_3, h0_3, hm⟩ := bind_some hm
  obtain ⟨x0_4, h0_4, hm⟩ := bind_some hm
  obtain ⟨x0_5, h0_5, hm⟩ := bind_some hm
  exact go_end [.res (res_laws_markBoolS x0_0), .res (res_laws_markIntS x0_2), .res (res_laws_markByteSS x0_4)] 1000 (And.intro (all_eq rB p0.keys rfl) (And.intro (ok_laws_markBoolS p0.keys p1 x0_0 h0_0) (And.intro (len2 rB x0_0.2 p0.keys (ck_p h0_1)) (And.intro (all_eq (rI .i64) p0.steps rfl) (And.intro (ok_laws_markIntS p0.steps x0_0.1 x0_2 h0_2) (And.intro (len2 (rI .i64) x0_2.2 p0.steps (ck_p h0_3)) (And.intro (all_eq (rL (rI .u8)) p0.parts rfl) (And.intro (ok_laws_markByteSS p0.parts x0_2.1 x0_4 h0_4) (And.intro (len2 (rL (rI .u8)) x0_4.2 p0.parts (ck_p h0_5)) True.intro))))))))) (congrArg res_laws_markPiled (Option.some.inj hm)) (by kernel_rfl)

theorem ok_laws_markPiled (p0 : S_Piled) (p1 : Int) (r : Int × S_Piled) (hm : m_laws_markPiled p0 p1 = some r) : Runs ext tbl 35 (as_laws_markPiled p0 p1) (res_laws_markPiled r) :=
  runs_of (vf := vf_laws_markPiled) (by kernel_rfl) rfl (st := (enter vf_laws_markPiled (as_laws_markPiled p0 p1)).getD default) (by kernel_rfl) (go_on [.num p0.keys.length, .num p0.steps.length, .num p0.parts.length] 1000 (And.intro (len_map rB (rfl : p0.keys.length = p0.keys.length)) (And.intro (len_map (rI .i64) (rfl : p0.steps.length = p0.steps.length)) (And.intro (len_map (rL (rI .u8)) (rfl : p0.parts.length = p0.parts.length)) True.intro))) (ok_laws_markPiled_0 p0 p1 r hm) (by kernel_rfl))
def O_laws_heldByteS_7 (Q : VX → St → Prop) (e : (Int) ⊕ ((Int))) : Prop := match e with | .inl e => Q = Post vf_laws_heldByteS (res_laws_heldByteS e) | .inr e => EvU ext tbl (.c c_laws_heldByteS_25) K_laws_heldByteS_25 (s_laws_heldByteS_25 e) Q
theorem ok_laws_heldByteS_25 (i25_0 : Int) (r : Int) (hm : m_laws_heldByteS_25 i25_0 = some r) : EvU ext tbl (.c c_laws_heldByteS_25) K_laws_heldByteS_25 (s_laws_heldByteS_25 i25_0) (Post vf_laws_heldByteS (res_laws_heldByteS r)) := by
  exact go_end [] 1000 True.intro (congrArg res_laws_heldByteS (Option.some.inj hm)) (by kernel_rfl)

theorem ok_laws_heldByteS_7 (p0 : (List Int)) (i7_0 : Int) (i7_1 : Int) (y : (Int × Int) ⊕ ((Int) ⊕ ((Int)))) (hm : m_laws_heldByteS_7 p0 i7_0 i7_1 = some y) (Q : VX → St → Prop)
    (hin : ∀ s, y = .inl s → EvU ext tbl (.c c_laws_heldByteS_7) K_laws_heldByteS_7 (s_laws_heldByteS_7 p0 s.1 s.2) Q) (hout : ∀ e, y = .inr e → O_laws_heldByteS_7 Q e) : EvU ext tbl (.c c_laws_heldByteS_7) K_laws_heldByteS_7 (s_laws_heldByteS_7 p0 i7_0 i7_1) Q := by
  obtain ⟨h7_0, hm⟩ | ⟨h7_0, hm⟩ := split_ite hm
  · skip
    obtain ⟨x7_1, h7_1, hm⟩ := bind_some hm
    obtain ⟨h7_2, hm⟩ | ⟨h7_2, hm⟩ := split_ite hm
    · skip
      have hQ : Q = Post vf_laws_heldByteS (res_laws_heldByteS (-1)) := hout (.inl (-1)) (Option.some.inj hm).symm
      subst hQ
      exact go_end [.num p0.length, .bit true, .row ((rI .u8) x7_1), .bit true] 1000 (And.intro (len_map (rI .u8) (show p0.length = p0.length from rfl)) (And.intro h7_0 (And.intro (rd_nn h7_1) (And.intro (at_row (rI .u8) (rd_get h7_1)) (And.intro h7_2 True.intro))))) (rfl : res_laws_heldByteS (-1) = res_laws_heldByteS (-1)) (by kernel_rfl)
    · skip
      refine go_on (u' := .c c_laws_heldByteS_7) (K' := K_laws_heldByteS_7) (st' := s_laws_heldByteS_7 p0 (w64 (i7_0 + 1)) (w64 (i7_1 + 1))) [.num p0.length, .bit true, .row ((rI .u8) x7_1), .bit false] 1000 (And.intro (len_map (rI .u8) (show p0.length = p0.length from rfl)) (And.intro h7_0 (And.intro (rd_nn h7_1) (And.intro (at_row (rI .u8) (rd_get h7_1)) (And.intro h7_2 True.intro))))) ?_ (by kernel_rfl)
      exact hin ((w64 (i7_0 + 1)), (w64 (i7_1 + 1))) (Option.some.inj hm).symm
  · skip
    refine go_on (u' := .c c_laws_heldByteS_25) (K' := K_laws_heldByteS_25) (st' := s_laws_heldByteS_25 i7_0) [.num p0.length, .bit false] 1000 (And.intro (len_map (rI .u8) (show p0.length = p0.length from rfl)) (And.intro h7_0 True.intro)) ?_ (by kernel_rfl)
    exact hout (.inr i7_0) (Option.some.inj hm).symm

theorem ok_laws_heldByteS_0 (p0 : (List Int)) (p1 : Int) (r : Int) (hm : m_laws_heldByteS_0 p0 p1 = some r) : EvU ext tbl (.c c_laws_heldByteS_0) K_laws_heldByteS_0 (s_laws_heldByteS_0 p0 p1) (Post vf_laws_heldByteS (res_laws_heldByteS r)) := by
  refine go_on (u' := .c c_laws_heldByteS_7) (K' := K_laws_heldByteS_7) (st' := s_laws_heldByteS_7 p0 p1 0) [] 1000 True.intro ?_ (by kernel_rfl)
  obtain ⟨e, he, hm⟩ := bind_some hm
  refine loop_rule (u := .c c_laws_heldByteS_7) (K := K_laws_heldByteS_7) (Q := (Post vf_laws_heldByteS (res_laws_heldByteS r))) (b := lp_laws_heldByteS_7 p0) (We := O_laws_heldByteS_7 (Post vf_laws_heldByteS (res_laws_heldByteS r))) (stJ := fun s => s_laws_heldByteS_7 p0 s.1 s.2) (s := (p1, 0)) (fun s y hb hin hout => ok_laws_heldByteS_7 p0 s.1 s.2 y hb (Post vf_laws_heldByteS (res_laws_heldByteS r)) hin hout) he ?_
  rcases e with e | e
  · skip
    exact congrArg (fun r => Post vf_laws_heldByteS (res_laws_heldByteS r)) (Option.some.inj hm).symm
  · skip
    show EvU ext tbl (.c c_laws_heldByteS_25) K_laws_heldByteS_25 (s_laws_heldByteS_25 e) _
    exact ok_laws_heldByteS_25 e r hm

theorem ok_laws_heldByteS (p0 : (List Int)) (p1 : Int) (r : Int) (hm : m_laws_heldByteS p0 p1 = some r) : Runs ext tbl 20 (as_laws_heldByteS p0 p1) (res_laws_heldByteS r) :=
  runs_of (vf := vf_laws_heldByteS) (by kernel_rfl) rfl (st := (enter vf_laws_heldByteS (as_laws_heldByteS p0 p1)).getD default) (by kernel_rfl) (go_on [] 1000 True.intro (ok_laws_heldByteS_0 p0 p1 r hm) (by kernel_rfl))
theorem ok_laws_FnExactWriteParts_0 (p0 : S_Piled) (r : Bool) (hm : m_laws_FnExactWriteParts_0 p0 = some r) : EvU ext tbl (.c c_laws_FnExactWriteParts_0) K_laws_FnExactWriteParts_0 (s_laws_FnExactWriteParts_0 p0) (Post vf_laws_FnExactWriteParts (res_laws_FnExactWriteParts r)) := by
  obtain ⟨x0_0, h0_0, hm⟩ := bind_some hm
  obtain ⟨h0_1, hm⟩ | ⟨h0_1, hm⟩ := split_ite hm
  · skip
    exact go_end [.res (res_laws_szPiled x0_0), .bit true] 1000 (And.intro (ok_laws_szPiled p0 1048576 x0_0 h0_0) (And.intro h0_1 True.intro)) (congrArg res_laws_FnExactWriteParts (Option.some.inj hm)) (by kernel_rfl)
  · skip
    obtain ⟨x0_2, h0_2, hm⟩ := bind_some hm
    obtain ⟨x0_3, h0_3, hm⟩ := bind_some hm
    obtain ⟨x0_4, h0_4, hm⟩ := bind_some hm
    obtain ⟨x0_5, h0_5, hm⟩ := bind_some hm
    obtain ⟨h0_6, hm⟩ | ⟨h0_6, hm⟩ := split_ite hm
    · skip
      obtain ⟨x0_7, h0_7, hm⟩ := bind_some hm
      obtain ⟨h0_8, hm⟩ | ⟨h0_8, hm⟩ := split_ite hm
      · skip
        obtain ⟨x0_9, h0_9, hm⟩ := bind_some hm
        obtain ⟨x0_10, h0_10, hm⟩ := bind_some hm
        obtain ⟨x0_11, h0_11, hm⟩ := bind_some hm
        obtain ⟨x0_12, h0_12, hm⟩ := bind_some hm
        obtain ⟨h0_13, hm⟩ | ⟨h0_13, hm⟩ := split_ite hm
        · skip
          exact go_end [.res (res_laws_szPiled x0_0), .bit false, .res (res_laws_toPiled x0_2), .num x0_2.keys.length, .num x0_2.steps.length, .num x0_2.parts.length, .rows (List.map rB x0_2.keys), .rows (List.map (rI .i64) x0_2.steps), .rows (List.map (rL (rI .u8)) x0_2.parts), .res (res_spec_WriteParts x0_3), .num x0_3.length, .res (res_laws_toPiled x0_2), .num x0_2.keys.length, .num x0_2.steps.length, .num x0_2.parts.length, .rows (List.map rB x0_2.keys), .rows (List.map (rI .i64) x0_2.steps), .rows (List.map (rL (rI .u8)) x0_2.parts), .res (res_impl_WriteParts x0_4), .num x0_4.length, .rows (List.map (rI .u8) x0_4), .rows (List.map (rI .u8) x0_3), .res (res_laws_eqByteS x0_5), .bit false, .res (res_laws_toPiled x0_2), .num x0_2.keys.length, .num x0_2.steps.length, .num x0_2.parts.length, .rows (List.map rB x0_2.keys), .rows (List.map (rI .i64) x0_2.steps), .rows (List.map (rL (rI .u8)) x0_2.parts), .rows (List.map rB x0_2.keys), .rows (List.map (rI .i64) x0_2.steps), .rows (List.map (rL (rI .u8)) x0_2.parts), .res (res_laws_eqPiled x0_7), .bit false, .rows (List.map rB x0_2.keys), .rows (List.map (rI .i64) x0_2.steps), .rows (List.map (rL (rI .u8)) x0_2.parts), .res (res_laws_markPiled x0_9), .bit true, .bit true, .bit true, .bit true, .bit true, .bit true] 1000 (And.intro (ok_laws_szPiled p0 1048576 x0_0 h0_0) (And.intro h0_1 (And.intro (ok_laws_toPiled p0 x0_2 h0_2) (And.intro (len_map rB (show x0_2.keys.length = x0_2.keys.length from rfl)) (And.intro (len_map (rI .i64) (show x0_2.steps.length = x0_2.steps.length from rfl)) (And.intro (len_map (rL (rI .u8)) (show x0_2.parts.length = x0_2.parts.length from rfl)) (And.intro (all_le rB x0_2.keys rfl) (And.intro (all_dt rB x0_2.keys rfl) (And.intro (all_le (rI .i64) x0_2.steps rfl) (And.intro (all_dt (rI .i64) x0_2.steps rfl) (And.intro (all_le (rL (rI .u8)) x0_2.parts rfl) (And.intro (all_dt (rL (rI .u8)) x0_2.parts rfl) (And.intro (ok_spec_WriteParts x0_2 x0_3 h0_3) (And.intro (len_map (rI .u8) (show x0_3.length = x0_3.length from rfl)) (And.intro (ok_laws_toPiled p0 x0_2 h0_2) (And.intro (len_map rB (show x0_2.keys.length = x0_2.keys.length from rfl)) (And.intro (len_map (rI .i64) (show x0_2.steps.length = x0_2.steps.length from rfl)) (And.intro (len_map (rL (rI .u8)) (show x0_2.parts.length = x0_2.parts.length from rfl)) (And.intro (all_le rB x0_2.keys rfl) (And.intro (all_dt rB x0_2.keys rfl) (And.intro (all_le (rI .i64) x0_2.steps rfl) (And.intro (all_dt (rI .i64) x0_2.steps rfl) (And.intro (all_le (rL (rI .u8)) x0_2.parts rfl) (And.intro (all_dt (rL (rI .u8)) x0_2.parts rfl) (And.intro (ok_impl_WriteParts x0_2 x0_4 h0_4) (And.intro (len_map (rI .u8) (show x0_4.length = x0_4.length from rfl)) (And.intro (all_le (rI .u8) x0_4 rfl) (And.intro (all_dt (rI .u8) x0_4 rfl) (And.intro (all_le (rI .u8) x0_3 rfl) (And.intro (all_dt (rI .u8) x0_3 rfl) (And.intro (ok_laws_eqByteS x0_4 x0_3 x0_5 h0_5) (And.intro (not_f h0_6) (And.intro (ok_laws_toPiled p0 x0_2 h0_2) (And.intro (len_map rB (show x0_2.keys.length = x0_2.keys.length from rfl)) (And.intro (len_map (rI .i64) (show x0_2.steps.length = x0_2.steps.length from rfl)) (And.intro (len_map (rL (rI .u8)) (show x0_2.parts.length = x0_2.parts.length from rfl)) (And.intro (all_le rB x0_2.keys rfl) (And.intro (all_dt rB x0_2.keys rfl) (And.intro (all_le (rI .i64) x0_2.steps rfl) (And.intro (all_dt (rI .i64) x0_2.steps rfl) (And.intro (all_le (rL (rI .u8)) x0_2.parts rfl) (And.intro (all_dt (rL (rI .u8)) x0_2.parts rfl) (And.intro (all_le rB x0_2.keys rfl) (And.intro (all_dt rB x0_2.keys rfl) (And.intro (all_le (rI .i64) x0_2.steps rfl) (And.intro (all_dt (rI .i64) x0_2.steps rfl) (And.intro (all_le (rL (rI .u8)) x0_2.parts rfl) (And.intro (all_dt (rL (rI .u8)) x0_2.parts rfl) (And.intro (ok_laws_eqPiled x0_2 x0_2 x0_7 h0_7) (And.intro (not_f h0_8) (And.intro (all_le0 rB x0_2.keys rfl) (And.intro (all_t rB x0_2.keys rfl) (And.intro (all_le0 (rI .i64) x0_2.steps rfl) (And.intro (all_t (rI .i64) x0_2.steps rfl) (And.intro (all_le0 (rL (rI .u8)) x0_2.parts rfl) (And.intro (all_t (rL (rI .u8)) x0_2.parts rfl) (And.intro (all_eq rB x0_2.keys rfl) (And.intro (all_eq (rI .i64) x0_2.steps rfl) (And.intro (all_eq (rL (rI .u8)) x0_2.parts rfl) (And.intro (ok_laws_markPiled x0_2 1 x0_9 h0_9) (And.intro (len2 rB x0_9.2.keys x0_2.keys (ck_p h0_10)) (And.intro (len2 (rI .i64) x0_9.2.steps x0_2.steps (ck_p h0_11)) (And.intro (len2 (rL (rI .u8)) x0_9.2.parts x0_2.parts (ck_p h0_12)) (And.intro h0_13 (And.intro h0_13 (And.intro h0_13 (And.intro h0_13 (And.intro h0_13 (And.intro (Eq.refl true) True.intro))))))))))))))))))))))))))))))))))))))))))))))))))))))))))))))))))))) (congrArg res_laws_FnExactWriteParts (Option.some.inj hm)) (by kernel_rfl)
        · skip
          obtain ⟨x0_14, h0_14, hm⟩ := bind_some hm
          obtain ⟨x0_15, h0_15, hm⟩ := bind_some hm
          obtain ⟨x0_16, h0_16, hm⟩ := bind_some hm
          obtain ⟨h0_17, hm⟩ | ⟨h0_17, hm⟩ := split_ite hm
          · skip
            exact go_end [.res (res_laws_szPiled x0_0), .bit false, .res (res_laws_toPiled x0_2), .num x0_2.keys.length, .num x0_2.steps.length, .num x0_2.parts.length, .rows (List.map rB x0_2.keys), .rows (List.map (rI .i64) x0_2.steps), .rows (List.map (rL (rI .u8)) x0_2.parts), .res (res_spec_WriteParts x0_3), .num x0_3.length, .res (res_laws_toPiled x0_2), .num x0_2.keys.length, .num x0_2.steps.length, .num x0_2.parts.length, .rows (List.map rB x0_2.keys), .rows (List.map (rI .i64) x0_2.steps), .rows (List.map (rL (rI .u8)) x0_2.parts), .res (res_impl_WriteParts x0_4), .num x0_4.length, .rows (List.map (rI .u8) x0_4), .rows (List.map (rI .u8) x0_3), .res (res_laws_eqByteS x0_5), .bit false, .res (res_laws_toPiled x0_2), .num x0_2.keys.length, .num x0_2.steps.length, .num x0_2.parts.length, .rows (List.map rB x0_2.keys), .rows (List.map (rI .i64) x0_2.steps), .rows (List.map (rL (rI .u8)) x0_2.parts), .rows (List.map rB x0_2.keys), .rows (List.map (rI .i64) x0_2.steps), .rows (List.map (rL (rI .u8)) x0_2.parts), .res (res_laws_eqPiled x0_7), .bit false, .rows (List.map rB x0_2.keys), .rows (List.map (rI .i64) x0_2.steps), .rows (List.map (rL (rI .u8)) x0_2.parts), .res (res_laws_markPiled x0_9), .bit false, .bit false, .bit false, .rows (List.map (rI .u8) x0_4), .rows (List.map (rI .u8) x0_3), .res (res_laws_eqByteS x0_5), .bit false, .bit false, .bit false, .res (res_laws_markByteS x0_14), .rows (List.map (rI .u8) x0_14.2), .res (res_laws_heldByteS x0_16), .bit true] 1000 (And.intro (ok_laws_szPiled p0 1048576 x0_0 h0_0) (And.intro h0_1 (And.intro (ok_laws_toPiled p0 x0_2 h0_2) (And.intro (len_map rB (show x0_2.keys.length = x0_2.keys.length from rfl)) (And.intro (len_map (rI .i64) (show x0_2.steps.length = x0_2.steps.length from rfl)) (And.intro (len_map (rL (rI .u8)) (show x0_2.parts.length = x0_2.parts.length from rfl)) (And.intro (all_le rB x0_2.keys rfl) (And.intro (all_dt rB x0_2.keys rfl) (And.intro (all_le (rI .i64) x0_2.steps rfl) (And.intro (all_dt (rI .i64) x0_2.steps rfl) (And.intro (all_le (rL (rI .u8)) x0_2.parts rfl) (And.intro (all_dt (rL (rI .u8)) x0_2.parts rfl) (And.intro (ok_spec_WriteParts x0_2 x0_3 h0_3) (And.intro (len_map (rI .u8) (show x0_3.length = x0_3.length from rfl)) (And.intro (ok_laws_toPiled p0 x0_2 h0_2) (And.intro (len_map rB (show x0_2.keys.length = x0_2.keys.length from rfl)) (And.intro (len_map (rI .i64) (show x0_2.steps.length = x0_2.steps.length from rfl)) (And.intro (len_map (rL (rI .u8)) (show x0_2.parts.length = x0_2.parts.length from rfl)) (And.intro (all_le rB x0_2.keys rfl) (And.intro (all_dt rB x0_2.keys rfl) (And.intro (all_le (rI .i64) x0_2.steps rfl) (And.intro (all_dt (rI .i64) x0_2.steps rfl) (And.intro (all_le (rL (rI .u8)) x0_2.parts rfl) (And.intro (all_dt (rL (rI .u8)) x0_2.parts rfl) (And.intro (ok_impl_WriteParts x0_2 x0_4 h0_4) (And.intro (len_map (rI .u8) (show x0_4.length = x0_4.length from rfl)) (And.intro (all_le (rI .u8) x0_4 rfl) (And.intro (all_dt (rI .u8) x0_4 rfl) (And.intro (all_le (rI .u8) x0_3 rfl) (And.intro (all_dt (rI .u8) x0_3 rfl) (And.intro (ok_laws_eqByteS x0_4 x0_3 x0_5 h0_5) (And.intro (not_f h0_6) (And.intro (ok_laws_toPiled p0 x0_2 h0_2) (And.intro (len_map rB (show x0_2.keys.length = x0_2.keys.length from rfl)) (And.intro (len_map (rI .i64) (show x0_2.steps.length = x0_2.steps.length from rfl)) (And.intro (len_map (rL (rI .u8)) (show x0_2.parts.length = x0_2.parts.length from rfl)) (And.intro (all_le rB x0_2.keys rfl) (And.intro (all_dt rB x0_2.keys rfl) (And.intro (all_le (rI .i64) x0_2.steps rfl) (And.intro (all_dt (rI .i64) x0_2.steps rfl) (And.intro (all_le (rL (rI .u8)) x0_2.parts rfl) (And.intro (all_dt (rL (rI .u8)) x0_2.parts rfl) (And.intro (all_le rB x0_2.keys rfl) (And.intro (all_dt rB x0_2.keys rfl) (And.intro (all_le (rI .i64) x0_2.steps rfl) (And.intro (all_dt (rI .i64) x0_2.steps rfl) (And.intro (all_le (rL (rI .u8)) x0_2.parts rfl) (And.intro (all_dt (rL (rI .u8)) x0_2.parts rfl) (And.intro (ok_laws_eqPiled x0_2 x0_2 x0_7 h0_7) (And.intro (not_f h0_8) (And.intro (all_le0 rB x0_2.keys rfl) (And.intro (all_t rB x0_2.keys rfl) (And.intro (all_le0 (rI .i64) x0_2.steps rfl) (And.intro (all_t (rI .i64) x0_2.steps rfl) (And.intro (all_le0 (rL (rI .u8)) x0_2.parts rfl) (And.intro (all_t (rL (rI .u8)) x0_2.parts rfl) (And.intro (all_eq rB x0_2.keys rfl) (And.intro (all_eq (rI .i64) x0_2.steps rfl) (And.intro (all_eq (rL (rI .u8)) x0_2.parts rfl) (And.intro (ok_laws_markPiled x0_2 1 x0_9 h0_9) (And.intro (len2 rB x0_9.2.keys x0_2.keys (ck_p h0_10)) (And.intro (len2 (rI .i64) x0_9.2.steps x0_2.steps (ck_p h0_11)) (And.intro (len2 (rL (rI .u8)) x0_9.2.parts x0_2.parts (ck_p h0_12)) (And.intro h0_13 (And.intro h0_13 (And.intro h0_13 (And.intro (all_le (rI .u8) x0_4 rfl) (And.intro (all_dt (rI .u8) x0_4 rfl) (And.intro (all_le (rI .u8) x0_3 rfl) (And.intro (all_dt (rI .u8) x0_3 rfl) (And.intro (ok_laws_eqByteS x0_4 x0_3 x0_5 h0_5) (And.intro h0_13 (And.intro h0_13 (And.intro (not_f h0_6) (And.intro (all_eq (rI .u8) x0_4 rfl) (And.intro (ok_laws_markByteS x0_4 1 x0_14 h0_14) (And.intro (len2 (rI .u8) x0_14.2 x0_4 (ck_p h0_15)) (And.intro (all_le (rI .u8) x0_14.2 (Eq.trans rfl (Eq.symm (ck_p h0_15)))) (And.intro (all_dt (rI .u8) x0_14.2 (Eq.trans rfl (Eq.symm (ck_p h0_15)))) (And.intro (ok_laws_heldByteS x0_14.2 1 x0_16 h0_16) (And.intro h0_17 True.intro))))))))))))))))))))))))))))))))))))))))))))))))))))))))))))))))))))))))))))))))) (congrArg res_laws_FnExactWriteParts (Option.some.inj hm)) (by kernel_rfl)
          · skip
            obtain ⟨h0_18, hm⟩ | ⟨h0_18, hm⟩ := split_ite hm
            · skip
              exact go_end [.res (res_laws_szPiled x0_0), .bit false, .res (res_laws_toPiled x0_2), .num x0_2.keys.length, .num x0_2.steps.length, .num x0_2.parts.length, .rows (List.map rB x0_2.keys), .rows (List.map (rI .i64) x0_2.steps), .rows (List.map (rL (rI .u8)) x0_2.parts), .res (res_spec_WriteParts x0_3), .num x0_3.length, .res (res_laws_toPiled x0_2), .num x0_2.keys.length, .num x0_2.steps.length, .num x0_2.parts.length, .rows (List.map rB x0_2.keys), .rows (List.map (rI .i64) x0_2.steps), .rows (List.map (rL (rI .u8)) x0_2.parts), .res (res_impl_WriteParts x0_4), .num x0_4.length, .rows (List.map (rI .u8) x0_4), .rows (List.map (rI .u8) x0_3), .res (res_laws_eqByteS x0_5), .bit false, .res (res_laws_toPiled x0_2), .num x0_2.keys.length, .num x0_2.steps.length, .num x0_2.parts.length, .rows (List.map rB x0_2.keys), .rows (List.map (rI .i64) x0_2.steps), .rows (List.map (rL (rI .u8)) x0_2.parts), .rows (List.map rB x0_2.keys), .rows (List.map (rI .i64) x0_2.steps), .rows (List.map (rL (rI .u8)) x0_2.parts), .res (res_laws_eqPiled x0_7), .bit false, .rows (List.map rB x0_2.keys), .rows (List.map (rI .i64) x0_2.steps), .rows (List.map (rL (rI .u8)) x0_2.parts), .res (res_laws_markPiled x0_9), .bit false, .bit false, .bit false, .rows (List.map (rI .u8) x0_4), .rows (List.map (rI .u8) x0_3), .res (res_laws_eqByteS x0_5), .bit false, .bit false, .bit false, .res (res_laws_markByteS x0_14), .rows (List.map (rI .u8) x0_14.2), .res (res_laws_heldByteS x0_16), .bit false, .bit true] 1000 (And.intro (ok_laws_szPiled p0 1048576 x0_0 h0_0) (And.intro h0_1 (And.intro (ok_laws_toPiled p0 x0_2 h0_2) (And.intro (len_map rB (show x0_2.keys.length = x0_2.keys.length from rfl)) (And.intro (len_map (rI .i64) (show x0_2.steps.length = x0_2.steps.length from rfl)) (And.intro (len_map (rL (rI .u8)) (show x0_2.parts.length = x0_2.parts.length from rfl)) (And.intro (all_le rB x0_2.keys rfl) (And.intro (all_dt rB x0_2.keys rfl) (And.intro (all_le (rI .i64) x0_2.steps rfl) (And.intro (all_dt (rI .i64) x0_2.steps rfl) (And.intro (all_le (rL (rI .u8)) x0_2.parts rfl) (And.intro (all_dt (rL (rI .u8)) x0_2.parts rfl) (And.intro (ok_spec_WriteParts x0_2 x0_3 h0_3) (And.intro (len_map (rI .u8) (show x0_3.length = x0_3.length from rfl)) (And.intro (ok_laws_toPiled p0 x0_2 h0_2) (And.intro (len_map rB (show x0_2.keys.length = x0_2.keys.length from rfl)) (And.intro (len_map (rI .i64) (show x0_2.steps.length = x0_2.steps.length from rfl)) (And.intro (len_map (rL (rI .u8)) (show x0_2.parts.length = x0_2.parts.length from rfl)) (And.intro (all_le rB x0_2.keys rfl) (And.intro (all_dt rB x0_2.keys rfl) (And.intro (all_le (rI .i64) x0_2.steps rfl) (And.intro (all_dt (rI .i64) x0_2.steps rfl) (And.intro (all_le (rL (rI .u8)) x0_2.parts rfl) (And.intro (all_dt (rL (rI .u8)) x0_2.parts rfl) (And.intro (ok_impl_WriteParts x0_2 x0_4 h0_4) (And.intro (len_map (rI .u8) (show x0_4.length = x0_4.length from rfl)) (And.intro (all_le (rI .u8) x0_4 rfl) (And.intro (all_dt (rI .u8) x0_4 rfl) (And.intro (all_le (rI .u8) x0_3 rfl) (And.intro (all_dt (rI .u8) x0_3 rfl) (And.intro (ok_laws_eqByteS x0_4 x0_3 x0_5 h0_5) (And.intro (not_f h0_6) (And.intro (ok_laws_toPiled p0 x0_2 h0_2) (And.intro (len_map rB (show x0_2.keys.length = x0_2.keys.length from rfl)) (And.intro (len_map (rI .i64) (show x0_2.steps.length = x0_2.steps.length from rfl)) (And.intro (len_map (rL (rI .u8)) (show x0_2.parts.length = x0_2.parts.length from rfl)) (And.intro (all_le rB x0_2.keys rfl) (And.intro (all_dt rB x0_2.keys rfl) (And.intro (all_le (rI .i64) x0_2.steps rfl) (And.intro (all_dt (rI .i64) x0_2.steps rfl) (And.intro (all_le (rL (rI .u8)) x0_2.parts rfl) (And.intro (all_dt (rL (rI .u8)) x0_2.parts rfl) (And.intro (all_le rB x0_2.keys rfl) (And.intro (all_dt rB x0_2.keys rfl) (And.intro (all_le (rI .i64) x0_2.steps rfl) (And.intro (all_dt (rI .i64) x0_2.steps rfl) (And.intro (all_le (rL (rI .u8)) x0_2.parts rfl) (And.intro (all_dt (rL (rI .u8)) x0_2.parts rfl) (And.intro (ok_laws_eqPiled x0_2 x0_2 x0_7 h0_7) (And.intro (not_f h0_8) (And.intro (all_le0 rB x0_2.keys rfl) (And.intro (all_t rB x0_2.keys rfl) (And.intro (all_le0 (rI .i64) x0_2.steps rfl) (And.intro (all_t (rI .i64) x0_2.steps rfl) (And.intro (all_le0 (rL (rI .u8)) x0_2.parts rfl) (And.intro (all_t (rL (rI .u8)) x0_2.parts rfl) (And.intro (all_eq rB x0_2.keys rfl) (And.intro (all_eq (rI .i64) x0_2.steps rfl) (And.intro (all_eq (rL (rI .u8)) x0_2.parts rfl) (And.intro (ok_laws_markPiled x0_2 1 x0_9 h0_9) (And.intro (len2 rB x0_9.2.keys x0_2.keys (ck_p h0_10)) (And.intro (len2 (rI .i64) x0_9.2.steps x0_2.steps (ck_p h0_11)) (And.intro (len2 (rL (rI .u8)) x0_9.2.parts x0_2.parts (ck_p h0_12)) (And.intro h0_13 (And.intro h0_13 (And.intro h0_13 (And.intro (all_le (rI .u8) x0_4 rfl) (And.intro (all_dt (rI .u8) x0_4 rfl) (And.intro (all_le (rI .u8) x0_3 rfl) (And.intro (all_dt (rI .u8) x0_3 rfl) (And.intro (ok_laws_eqByteS x0_4 x0_3 x0_5 h0_5) (And.intro h0_13 (And.intro h0_13 (And.intro (not_f h0_6) (And.intro (all_eq (rI .u8) x0_4 rfl) (And.intro (ok_laws_markByteS x0_4 1 x0_14 h0_14) (And.intro (len2 (rI .u8) x0_14.2 x0_4 (ck_p h0_15)) (And.intro (all_le (rI .u8) x0_14.2 (Eq.trans rfl (Eq.symm (ck_p h0_15)))) (And.intro (all_dt (rI .u8) x0_14.2 (Eq.trans rfl (Eq.symm (ck_p h0_15)))) (And.intro (ok_laws_heldByteS x0_14.2 1 x0_16 h0_16) (And.intro h0_17 (And.intro h0_18 True.intro)))))))))))))))))))))))))))))))))))))))))))))))))))))))))))))))))))))))))))))))))) (congrArg res_laws_FnExactWriteParts (Option.some.inj hm)) (by kernel_rfl)
            · skip
              exact go_end [.res (res_laws_szPiled x0_0), .bit false, .res (res_laws_toPiled x0_2), .num x0_2.keys.length, .num x0_2.steps.length, .num x0_2.parts.length, .rows (List.map rB x0_2.keys), .rows (List.map (rI .i64) x0_2.steps), .rows (List.map (rL (rI .u8)) x0_2.parts), .res (res_spec_WriteParts x0_3), .num x0_3.length, .res (res_laws_toPiled x0_2), .num x0_2.keys.length, .num x0_2.steps.length, .num x0_2.parts.length, .rows (List.map rB x0_2.keys), .rows (List.map (rI .i64) x0_2.steps), .rows (List.map (rL (rI .u8)) x0_2.parts), .res (res_impl_WriteParts x0_4), .num x0_4.length, .rows (List.map (rI .u8) x0_4), .rows (List.map (rI .u8) x0_3), .res (res_laws_eqByteS x0_5), .bit false, .res (res_laws_toPiled x0_2), .num x0_2.keys.length, .num x0_2.steps.length, .num x0_2.parts.length, .rows (List.map rB x0_2.keys), .rows (List.map (rI .i64) x0_2.steps), .rows (List.map (rL (rI .u8)) x0_2.parts), .rows (List.map rB x0_2.keys), .rows (List.map (rI .i64) x0_2.steps), .rows (List.map (rL (rI .u8)) x0_2.parts), .res (res_laws_eqPiled x0_7), .bit false, .rows (List.map rB x0_2.keys), .rows (List.map (rI .i64) x0_2.steps), .rows (List.map (rL (rI .u8)) x0_2.parts), .res (res_laws_markPiled x0_9), .bit false, .bit false, .bit false, .rows (List.map (rI .u8) x0_4), .rows (List.map (rI .u8) x0_3), .res (res_laws_eqByteS x0_5), .bit false, .bit false, .bit false, .res (res_laws_markByteS x0_14), .rows (List.map (rI .u8) x0_14.2), .res (res_laws_heldByteS x0_16), .bit false, .bit false, .res (res_laws_toPiled x0_2), .num x0_2.keys.length, .num x0_2.steps.length, .num x0_2.parts.length, .rows (List.map rB x0_2.keys), .rows (List.map (rI .i64) x0_2.steps), .rows (List.map (rL (rI .u8)) x0_2.parts), .res (res_impl_WriteParts x0_4), .num x0_4.length, .rows (List.map (rI .u8) x0_4), .rows (List.map (rI .u8) x0_3), .res (res_laws_eqByteS x0_5), .bit false, .rows (List.map (rI .u8) x0_14.2), .res (res_laws_heldByteS x0_16), .bit false, .bit false] 1000 (And.intro (ok_laws_szPiled p0 1048576 x0_0 h0_0) (And.intro h0_1 (And.intro (ok_laws_toPiled p0 x0_2 h0_2) (And.intro (len_map rB (show x0_2.keys.length = x0_2.keys.length from rfl)) (And.intro (len_map (rI .i64) (show x0_2.steps.length = x0_2.steps.length from rfl)) (And.intro (len_map (rL (rI .u8)) (show x0_2.parts.length = x0_2.parts.length from rfl)) (And.intro (all_le rB x0_2.keys rfl) (And.intro (all_dt rB x0_2.keys rfl) (And.intro (all_le (rI .i64) x0_2.steps rfl) (And.intro (all_dt (rI .i64) x0_2.steps rfl) (And.intro (all_le (rL (rI .u8)) x0_2.parts rfl) (And.intro (all_dt (rL (rI .u8)) x0_2.parts rfl) (And.intro (ok_spec_WriteParts x0_2 x0_3 h0_3) (And.intro (len_map (rI .u8) (show x0_3.length = x0_3.length from rfl)) (And.intro (ok_laws_toPiled p0 x0_2 h0_2) (And.intro (len_map rB (show x0_2.keys.length = x0_2.keys.length from rfl)) (And.intro (len_map (rI .i64) (show x0_2.steps.length = x0_2.steps.length from rfl)) (And.intro (len_map (rL (rI .u8)) (show x0_2.parts.length = x0_2.parts.length from rfl)) (And.intro (all_le rB x0_2.keys rfl) (And.intro (all_dt rB x0_2.keys rfl) (And.intro (all_le (rI .i64) x0_2.steps rfl) (And.intro (all_dt (rI .i64) x0_2.steps rfl) (And.intro (all_le (rL (rI .u8)) x0_2.parts rfl) (And.intro (all_dt (rL (rI .u8)) x0_2.parts rfl) (And.intro (ok_impl_WriteParts x0_2 x0_4 h0_4) (And.intro (len_map (rI .u8) (show x0_4.length = x0_4.length from rfl)) (And.intro (all_le (rI .u8) x0_4 rfl) (And.intro (all_dt (rI .u8) x0_4 rfl) (And.intro (all_le (rI .u8) x0_3 rfl) (And.intro (all_dt (rI .u8) x0_3 rfl) (And.intro (ok_laws_eqByteS x0_4 x0_3 x0_5 h0_5) (And.intro (not_f h0_6) (And.intro (ok_laws_toPiled p0 x0_2 h0_2) (And.intro (len_map rB (show x0_2.keys.length = x0_2.keys.length from rfl)) (And.intro (len_map (rI .i64) (show x0_2.steps.length = x0_2.steps.length from rfl)) (And.intro (len_map (rL (rI .u8)) (show x0_2.parts.length = x0_2.parts.length from rfl)) (And.intro (all_le rB x0_2.keys rfl) (And.intro (all_dt rB x0_2.keys rfl) (And.intro (all_le (rI .i64) x0_2.steps rfl) (And.intro (all_dt (rI .i64) x0_2.steps rfl) (And.intro (all_le (rL (rI .u8)) x0_2.parts rfl) (And.intro (all_dt (rL (rI .u8)) x0_2.parts rfl) (And.intro (all_le rB x0_2.keys rfl) (And.intro (all_dt rB x0_2.keys rfl) (And.intro (all_le (rI .i64) x0_2.steps rfl) (And.intro (all_dt (rI .i64) x0_2.steps rfl) (And.intro (all_le (rL (rI .u8)) x0_2.parts rfl) (And.intro (all_dt (rL (rI .u8)) x0_2.parts rfl) (And.intro (ok_laws_eqPiled x0_2 x0_2 x0_7 h0_7) (And.intro (not_f h0_8) (And.intro (all_le0 rB x0_2.keys rfl) (And.intro (all_t rB x0_2.keys rfl) (And.intro (all_le0 (rI .i64) x0_2.steps rfl) (And.intro (all_t (rI .i64) x0_2.steps rfl) (And.intro (all_le0 (rL (rI .u8)) x0_2.parts rfl) (And.intro (all_t (rL (rI .u8)) x0_2.parts rfl) (And.intro (all_eq rB x0_2.keys rfl) (And.intro (all_eq (rI .i64) x0_2.steps rfl) (And.intro (all_eq (rL (rI .u8)) x0_2.parts rfl) (And.intro (ok_laws_markPiled x0_2 1 x0_9 h0_9) (And.intro (len2 rB x0_9.2.keys x0_2.keys (ck_p h0_10)) (And.intro (len2 (rI .i64) x0_9.2.steps x0_2.steps (ck_p h0_11)) (And.intro (len2 (rL (rI .u8)) x0_9.2.parts x0_2.parts (ck_p h0_12)) (And.intro h0_13 (And.intro h0_13 (And.intro h0_13 (And.intro (all_le (rI .u8) x0_4 rfl) (And.intro (all_dt (rI .u8) x0_4 rfl) (And.intro (all_le (rI .u8) x0_3 rfl) (And.intro (all_dt (rI .u8) x0_3 rfl) (And.intro (ok_laws_eqByteS x0_4 x0_3 x0_5 h0_5) (And.intro h0_13 (And.intro h0_13 (And.intro (not_f h0_6) (And.intro (all_eq (rI .u8) x0_4 rfl) (And.intro (ok_laws_markByteS x0_4 1 x0_14 h0_14) (And.intro (len2 (rI .u8) x0_14.2 x0_4 (ck_p h0_15)) (And.intro (all_le (rI .u8) x0_14.2 (Eq.trans rfl (Eq.symm (ck_p h0_15)))) (And.intro (all_dt (rI .u8) x0_14.2 (Eq.trans rfl (Eq.symm (ck_p h0_15)))) (And.intro (ok_laws_heldByteS x0_14.2 1 x0_16 h0_16) (And.intro h0_17 (And.intro h0_18 (And.intro (ok_laws_toPiled p0 x0_2 h0_2) (And.intro (len_map rB (show x0_2.keys.length = x0_2.keys.length from rfl)) (And.intro (len_map (rI .i64) (show x0_2.steps.length = x0_2.steps.length from rfl)) (And.intro (len_map (rL (rI .u8)) (show x0_2.parts.length = x0_2.parts.length from rfl)) (And.intro (all_le rB x0_2.keys rfl) (And.intro (all_dt rB x0_2.keys rfl) (And.intro (all_le (rI .i64) x0_2.steps rfl) (And.intro (all_dt (rI .i64) x0_2.steps rfl) (And.intro (all_le (rL (rI .u8)) x0_2.parts rfl) (And.intro (all_dt (rL (rI .u8)) x0_2.parts rfl) (And.intro (ok_impl_WriteParts x0_2 x0_4 h0_4) (And.intro (len_map (rI .u8) (show x0_4.length = x0_4.length from rfl)) (And.intro (all_le (rI .u8) x0_4 rfl) (And.intro (all_dt (rI .u8) x0_4 rfl) (And.intro (all_le (rI .u8) x0_3 rfl) (And.intro (all_dt (rI .u8) x0_3 rfl) (And.intro (ok_laws_eqByteS x0_4 x0_3 x0_5 h0_5) (And.intro (not_f h0_6) (And.intro (all_le (rI .u8) x0_14.2 (Eq.trans rfl (Eq.symm (ck_p h0_15)))) (And.intro (all_dt (rI .u8) x0_14.2 (Eq.trans rfl (Eq.symm (ck_p h0_15)))) (And.intro (ok_laws_heldByteS x0_14.2 1 x0_16 h0_16) (And.intro h0_17 (And.intro h0_18 True.intro))))))))))))))))))))))))))))))))))))))))))))))))))))))))))))))))))))))))))))))))))))))))))))))))))))))))) (congrArg res_laws_FnExactWriteParts (Option.some.inj hm)) (by kernel_rfl)
      · skip
        exact go_end [.res (res_laws_szPiled x0_0), .bit false, .res (res_laws_toPiled x0_2), .num x0_2.keys.length, .num x0_2.steps.length, .num x0_2.parts.length, .rows (List.map rB x0_2.keys), .rows (List.map (rI .i64) x0_2.steps), .rows (List.map (rL (rI .u8)) x0_2.parts), .res (res_spec_WriteParts x0_3), .num x0_3.length, .res (res_laws_toPiled x0_2), .num x0_2.keys.length, .num x0_2.steps.length, .num x0_2.parts.length, .rows (List.map rB x0_2.keys), .rows (List.map (rI .i64) x0_2.steps), .rows (List.map (rL (rI .u8)) x0_2.parts), .res (res_impl_WriteParts x0_4), .num x0_4.length, .rows (List.map (rI .u8) x0_4), .rows (List.map (rI .u8) x0_3), .res (res_laws_eqByteS x0_5), .bit false, .res (res_laws_toPiled x0_2), .num x0_2.keys.length, .num x0_2.steps.length, .num x0_2.parts.length, .rows (List.map rB x0_2.keys), .rows (List.map (rI .i64) x0_2.steps), .rows (List.map (rL (rI .u8)) x0_2.parts), .rows (List.map rB x0_2.keys), .rows (List.map (rI .i64) x0_2.steps), .rows (List.map (rL (rI .u8)) x0_2.parts), .res (res_laws_eqPiled x0_7), .bit true] 1000 (And.intro (ok_laws_szPiled p0 1048576 x0_0 h0_0) (And.intro h0_1 (And.intro (ok_laws_toPiled p0 x0_2 h0_2) (And.intro (len_map rB (show x0_2.keys.length = x0_2.keys.length from rfl)) (And.intro (len_map (rI .i64) (show x0_2.steps.length = x0_2.steps.length from rfl)) (And.intro (len_map (rL (rI .u8)) (show x0_2.parts.length = x0_2.parts.length from rfl)) (And.intro (all_le rB x0_2.keys rfl) (And.intro (all_dt rB x0_2.keys rfl) (And.intro (all_le (rI .i64) x0_2.steps rfl) (And.intro (all_dt (rI .i64) x0_2.steps rfl) (And.intro (all_le (rL (rI .u8)) x0_2.parts rfl) (And.intro (all_dt (rL (rI .u8)) x0_2.parts rfl) (And.intro (ok_spec_WriteParts x0_2 x0_3 h0_3) (And.intro (len_map (rI .u8) (show x0_3.length = x0_3.length from rfl)) (And.intro (ok_laws_toPiled p0 x0_2 h0_2) (And.intro (len_map rB (show x0_2.keys.length = x0_2.keys.length from rfl)) (And.intro (len_map (rI .i64) (show x0_2.steps.length = x0_2.steps.length from rfl)) (And.intro (len_map (rL (rI .u8)) (show x0_2.parts.length = x0_2.parts.length from rfl)) (And.intro (all_le rB x0_2.keys rfl) (And.intro (all_dt rB x0_2.keys rfl) (And.intro (all_le (rI .i64) x0_2.steps rfl) (And.intro (all_dt (rI .i64) x0_2.steps rfl) (And.intro (all_le (rL (rI .u8)) x0_2.parts rfl) (And.intro (all_dt (rL (rI .u8)) x0_2.parts rfl) (And.intro (ok_impl_WriteParts x0_2 x0_4 h0_4) (And.intro (len_map (rI .u8) (show x0_4.length = x0_4.length from rfl)) (And.intro (all_le (rI .u8) x0_4 rfl) (And.intro (all_dt (rI .u8) x0_4 rfl) (And.intro (all_le (rI .u8) x0_3 rfl) (And.intro (all_dt (rI .u8) x0_3 rfl) (And.intro (ok_laws_eqByteS x0_4 x0_3 x0_5 h0_5) (And.intro (not_f h0_6) (And.intro (ok_laws_toPiled p0 x0_2 h0_2) (And.intro (len_map rB (show x0_2.keys.length = x0_2.keys.length from rfl)) (And.intro (len_map (rI .i64) (show x0_2.steps.length = x0_2.steps.length from rfl)) (And.intro (len_map (rL (rI .u8)) (show x0_2.parts.length = x0_2.parts.length from rfl)) (And.intro (all_le rB x0_2.keys rfl) (And.intro (all_dt rB x0_2.keys rfl) (And.intro (all_le (rI .i64) x0_2.steps rfl) (And.intro (all_dt (rI .i64) x0_2.steps rfl) (And.intro (all_le (rL (rI .u8)) x0_2.parts rfl) (And.intro (all_dt (rL (rI .u8)) x0_2.parts rfl) (And.intro (all_le rB x0_2.keys rfl) (And.intro (all_dt rB x0_2.keys rfl) (And.intro (all_le (rI .i64) x0_2.steps rfl) (And.intro (all_dt (rI .i64) x0_2.steps rfl) (And.intro (all_le (rL (rI .u8)) x0_2.parts rfl) (And.intro (all_dt (rL (rI .u8)) x0_2.parts rfl) (And.intro (ok_laws_eqPiled x0_2 x0_2 x0_7 h0_7) (And.intro (not_t h0_8) True.intro)))))))))))))))))))))))))))))))))))))))))))))))))) (congrArg res_laws_FnExactWriteParts (Option.some.inj hm)) (by kernel_rfl)
    · skip
      exact go_end [.res (res_laws_szPiled x0_0), .bit false, .res (res_laws_toPiled x0_2), .num x0_2.keys.length, .num x0_2.steps.length, .num x0_2.parts.length, .rows (List.map rB x0_2.keys), .rows (List.map (rI .i64) x0_2.steps), .rows (List.map (rL (rI .u8)) x0_2.parts), .res (res_spec_WriteParts x0_3), .num x0_3.length, .res (res_laws_toPiled x0_2), .num x0_2.keys.length, .num x0_2.steps.length, .num x0_2.parts.length, .rows (List.map rB x0_2.keys), .rows (List.map (rI .i64) x0_2.steps), .rows (List.map (rL (rI .u8)) x0_2.parts), .res (res_impl_WriteParts x0_4), .num x0_4.length, .rows (List.map (rI .u8) x0_4), .rows (List.map (rI .u8) x0_3), .res (res_laws_eqByteS x0_5), .bit true] 1000 (And.intro (ok_laws_szPiled p0 1048576 x0_0 h0_0) (And.intro h0_1 (And.intro (ok_laws_toPiled p0 x0_2 h0_2) (And.intro (len_map rB (show x0_2.keys.length = x0_2.keys.length from rfl)) (And.intro (len_map (rI .i64) (show x0_2.steps.length = x0_2.steps.length from rfl)) (And.intro (len_map (rL (rI .u8)) (show x0_2.parts.length = x0_2.parts.length from rfl)) (And.intro (all_le rB x0_2.keys rfl) (And.intro (all_dt rB x0_2.keys rfl) (And.intro (all_le (rI .i64) x0_2.steps rfl) (And.intro (all_dt (rI .i64) x0_2.steps rfl) (And.intro (all_le (rL (rI .u8)) x0_2.parts rfl) (And.intro (all_dt (rL (rI .u8)) x0_2.parts rfl) (And.intro (ok_spec_WriteParts x0_2 x0_3 h0_3) (And.intro (len_map (rI .u8) (show x0_3.length = x0_3.length from rfl)) (And.intro (ok_laws_toPiled p0 x0_2 h0_2) (And.intro (len_map rB (show x0_2.keys.length = x0_2.keys.length from rfl)) (And.intro (len_map (rI .i64) (show x0_2.steps.length = x0_2.steps.length from rfl)) (And.intro (len_map (rL (rI .u8)) (show x0_2.parts.length = x0_2.parts.length from rfl)) (And.intro (all_le rB x0_2.keys rfl) (And.intro (all_dt rB x0_2.keys rfl) (And.intro (all_le (rI .i64) x0_2.steps rfl) (And.intro (all_dt (rI .i64) x0_2.steps rfl) (And.intro (all_le (rL (rI .u8)) x0_2.parts rfl) (And.intro (all_dt (rL (rI .u8)) x0_2.parts rfl) (And.intro (ok_impl_WriteParts x0_2 x0_4 h0_4) (And.intro (len_map (rI .u8) (show x0_4.length = x0_4.length from rfl)) (And.intro (all_le (rI .u8) x0_4 rfl) (And.intro (all_dt (rI .u8) x0_4 rfl) (And.intro (all_le (rI .u8) x0_3 rfl) (And.intro (all_dt (rI .u8) x0_3 rfl) (And.intro (ok_laws_eqByteS x0_4 x0_3 x0_5 h0_5) (And.intro (not_t h0_6) True.intro)))))))))))))))))))))))))))))))) (congrArg res_laws_FnExactWriteParts (Option.some.inj hm)) (by kernel_rfl)

theorem ok_laws_FnExactWriteParts (p0 : S_Piled) (r : Bool) (hm : m_laws_FnExactWriteParts p0 = some r) : Runs ext tbl 6 (as_laws_FnExactWriteParts p0) (res_laws_FnExactWriteParts r) :=
  runs_of (vf := vf_laws_FnExactWriteParts) (by kernel_rfl) rfl (st := (enter vf_laws_FnExactWriteParts (as_laws_FnExactWriteParts p0)).getD default) (by kernel_rfl) (go_on [] 1000 True.intro (ok_laws_FnExactWriteParts_0 p0 r hm) (by kernel_rfl))
end Go.Proofs.V
