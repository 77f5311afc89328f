/- printed by a program: the plain functions, the code and the proofs of one law -/
import Derived.Test.YtfmagdeiaanmcaaFnExactScreensV3
import Derived.KernelRfl
set_option linter.unusedVariables false
set_option maxRecDepth 100000
namespace Go.Proofs.V
open Go
def as_laws_szIntS (p0 : (List Int)) (p1 : Int) : List Arg := [.v false [.sl (p0.map (rI .i64))], .v false [.lit (.int .i64 p1)]]
def res_laws_szIntS (r : Int) : FRes := ⟨[.v false [.lit (.int .i64 r)]], []⟩
def as_laws_szFrame (p0 : S_Frame) (p1 : Int) : List Arg := [.v true [.lit (.int .i64 p0.x), .lit (.int .i64 p0.y), .lit (.int .i64 p0.width), .lit (.int .i64 p0.height), .lit (.int .i64 p0.delay), .lit (.int .i64 p0.dispose), .lit (.int .i64 p0.hollow), .sl (p0.pixels.map (rI .i64))], .v false [.lit (.int .i64 p1)]]
def res_laws_szFrame (r : Int) : FRes := ⟨[.v false [.lit (.int .i64 r)]], []⟩
def as_laws_szFrameS (p0 : (List S_Frame)) (p1 : Int) : List Arg := [.v false [.sl (p0.map rS_Frame)], .v false [.lit (.int .i64 p1)]]
def res_laws_szFrameS (r : Int) : FRes := ⟨[.v false [.lit (.int .i64 r)]], []⟩
def as_laws_szMoving (p0 : S_Moving) (p1 : Int) : List Arg := [.v true [.lit (.int .i64 p0.width), .lit (.int .i64 p0.height), .sl (p0.palette.map (rI .i64)), .lit (.int .i64 p0.loops), .sl (p0.frames.map rS_Frame)], .v false [.lit (.int .i64 p1)]]
def res_laws_szMoving (r : Int) : FRes := ⟨[.v false [.lit (.int .i64 r)]], []⟩
def as_laws_toIntS (p0 : (List Int)) : List Arg := [.v false [.sl (p0.map (rI .i64))]]
def res_laws_toIntS (r : (List Int)) : FRes := ⟨[.v false [.sl (r.map (rI .i64))]], []⟩
def as_laws_toFrame (p0 : S_Frame) : List Arg := [.v true [.lit (.int .i64 p0.x), .lit (.int .i64 p0.y), .lit (.int .i64 p0.width), .lit (.int .i64 p0.height), .lit (.int .i64 p0.delay), .lit (.int .i64 p0.dispose), .lit (.int .i64 p0.hollow), .sl (p0.pixels.map (rI .i64))]]
def res_laws_toFrame (r : S_Frame) : FRes := ⟨[.v true [.lit (.int .i64 r.x), .lit (.int .i64 r.y), .lit (.int .i64 r.width), .lit (.int .i64 r.height), .lit (.int .i64 r.delay), .lit (.int .i64 r.dispose), .lit (.int .i64 r.hollow), .sl (r.pixels.map (rI .i64))]], []⟩
def as_laws_toFrameS (p0 : (List S_Frame)) : List Arg := [.v false [.sl (p0.map rS_Frame)]]
def res_laws_toFrameS (r : (List S_Frame)) : FRes := ⟨[.v false [.sl (r.map rS_Frame)]], []⟩
def as_laws_toMoving (p0 : S_Moving) : List Arg := [.v true [.lit (.int .i64 p0.width), .lit (.int .i64 p0.height), .sl (p0.palette.map (rI .i64)), .lit (.int .i64 p0.loops), .sl (p0.frames.map rS_Frame)]]
def res_laws_toMoving (r : S_Moving) : FRes := ⟨[.v true [.lit (.int .i64 r.width), .lit (.int .i64 r.height), .sl (r.palette.map (rI .i64)), .lit (.int .i64 r.loops), .sl (r.frames.map rS_Frame)]], []⟩
def as_spec_l4Sides (p0 : Int) (p1 : Int) : List Arg := [.v false [.lit (.int .i64 p0)], .v false [.lit (.int .i64 p1)]]
def res_spec_l4Sides (r : Bool) : FRes := ⟨[.v false [.lit (.bool r)]], []⟩
def as_spec_l6Log (p0 : Int) : List Arg := [.v false [.lit (.int .i64 p0)]]
def res_spec_l6Log (r : Int) : FRes := ⟨[.v false [.lit (.int .i64 r)]], []⟩
def as_spec_l5Colours (p0 : (List Int)) : List Arg := [.v false [.sl (p0.map (rI .i64))]]
def res_spec_l5Colours (r : Bool) : FRes := ⟨[.v false [.lit (.bool r)]], []⟩
def as_spec_l6Head (p0 : S_Moving) : List Arg := [.v true [.lit (.int .i64 p0.width), .lit (.int .i64 p0.height), .sl (p0.palette.map (rI .i64)), .lit (.int .i64 p0.loops), .sl (p0.frames.map rS_Frame)]]
def res_spec_l6Head (r : Bool) : FRes := ⟨[.v false [.lit (.bool r)]], []⟩
def as_spec_l6Frame (p0 : S_Moving) (p1 : S_Frame) : List Arg := [.v true [.lit (.int .i64 p0.width), .lit (.int .i64 p0.height), .sl (p0.palette.map (rI .i64)), .lit (.int .i64 p0.loops), .sl (p0.frames.map rS_Frame)], .v true [.lit (.int .i64 p1.x), .lit (.int .i64 p1.y), .lit (.int .i64 p1.width), .lit (.int .i64 p1.height), .lit (.int .i64 p1.delay), .lit (.int .i64 p1.dispose), .lit (.int .i64 p1.hollow), .sl (p1.pixels.map (rI .i64))]]
def res_spec_l6Frame (r : Bool) : FRes := ⟨[.v false [.lit (.bool r)]], []⟩
def as_spec_l6Pixels (p0 : S_Moving) (p1 : (List Int)) : List Arg := [.v true [.lit (.int .i64 p0.width), .lit (.int .i64 p0.height), .sl (p0.palette.map (rI .i64)), .lit (.int .i64 p0.loops), .sl (p0.frames.map rS_Frame)], .v false [.sl (p1.map (rI .i64))]]
def res_spec_l6Pixels (r : Bool) : FRes := ⟨[.v false [.lit (.bool r)]], []⟩
def as_spec_GoodMoving (p0 : S_Moving) : List Arg := [.v true [.lit (.int .i64 p0.width), .lit (.int .i64 p0.height), .sl (p0.palette.map (rI .i64)), .lit (.int .i64 p0.loops), .sl (p0.frames.map rS_Frame)]]
def res_spec_GoodMoving (r : Bool) : FRes := ⟨[.v false [.lit (.bool r)]], []⟩
def as_spec_Screens (p0 : S_Moving) : List Arg := [.v true [.lit (.int .i64 p0.width), .lit (.int .i64 p0.height), .sl (p0.palette.map (rI .i64)), .lit (.int .i64 p0.loops), .sl (p0.frames.map rS_Frame)]]
def res_spec_Screens (r : (List (List Int))) : FRes := ⟨[.v false [.sl (r.map (rL (rI .i64)))]], []⟩
def as_impl_goodSide (p0 : Int) : List Arg := [.v false [.lit (.int .i64 p0)]]
def res_impl_goodSide (r : Bool) : FRes := ⟨[.v false [.lit (.bool r)]], []⟩
def as_impl_goodSides (p0 : Int) (p1 : Int) : List Arg := [.v false [.lit (.int .i64 p0)], .v false [.lit (.int .i64 p1)]]
def res_impl_goodSides (r : Bool) : FRes := ⟨[.v false [.lit (.bool r)]], []⟩
def as_impl_inRange (p0 : (List Int)) (p1 : Int) : List Arg := [.v false [.sl (p0.map (rI .i64))], .v false [.lit (.int .i64 p1)]]
def res_impl_inRange (r : Bool) : FRes := ⟨[.v false [.lit (.bool r)]], []⟩
def as_impl_goodFrame (p0 : S_Moving) (p1 : S_Frame) : List Arg := [.v true [.lit (.int .i64 p0.width), .lit (.int .i64 p0.height), .sl (p0.palette.map (rI .i64)), .lit (.int .i64 p0.loops), .sl (p0.frames.map rS_Frame)], .v true [.lit (.int .i64 p1.x), .lit (.int .i64 p1.y), .lit (.int .i64 p1.width), .lit (.int .i64 p1.height), .lit (.int .i64 p1.delay), .lit (.int .i64 p1.dispose), .lit (.int .i64 p1.hollow), .sl (p1.pixels.map (rI .i64))]]
def res_impl_goodFrame (r : Bool) : FRes := ⟨[.v false [.lit (.bool r)]], []⟩
def as_impl_GoodMoving (p0 : S_Moving) : List Arg := [.v true [.lit (.int .i64 p0.width), .lit (.int .i64 p0.height), .sl (p0.palette.map (rI .i64)), .lit (.int .i64 p0.loops), .sl (p0.frames.map rS_Frame)]]
def res_impl_GoodMoving (r : Bool) : FRes := ⟨[.v false [.lit (.bool r)]], []⟩
def as_impl_Screens (p0 : S_Moving) : List Arg := [.v true [.lit (.int .i64 p0.width), .lit (.int .i64 p0.height), .sl (p0.palette.map (rI .i64)), .lit (.int .i64 p0.loops), .sl (p0.frames.map rS_Frame)]]
def res_impl_Screens (r : (List (List Int))) : FRes := ⟨[.v false [.sl (r.map (rL (rI .i64)))]], []⟩
def as_laws_eqIntS (p0 : (List Int)) (p1 : (List Int)) : List Arg := [.v false [.sl (p0.map (rI .i64))], .v false [.sl (p1.map (rI .i64))]]
def res_laws_eqIntS (r : Bool) : FRes := ⟨[.v false [.lit (.bool r)]], []⟩
def as_laws_eqIntSS (p0 : (List (List Int))) (p1 : (List (List Int))) : List Arg := [.v false [.sl (p0.map (rL (rI .i64)))], .v false [.sl (p1.map (rL (rI .i64)))]]
def res_laws_eqIntSS (r : Bool) : FRes := ⟨[.v false [.lit (.bool r)]], []⟩
def as_laws_eqFrame (p0 : S_Frame) (p1 : S_Frame) : List Arg := [.v true [.lit (.int .i64 p0.x), .lit (.int .i64 p0.y), .lit (.int .i64 p0.width), .lit (.int .i64 p0.height), .lit (.int .i64 p0.delay), .lit (.int .i64 p0.dispose), .lit (.int .i64 p0.hollow), .sl (p0.pixels.map (rI .i64))], .v true [.lit (.int .i64 p1.x), .lit (.int .i64 p1.y), .lit (.int .i64 p1.width), .lit (.int .i64 p1.height), .lit (.int .i64 p1.delay), .lit (.int .i64 p1.dispose), .lit (.int .i64 p1.hollow), .sl (p1.pixels.map (rI .i64))]]
def res_laws_eqFrame (r : Bool) : FRes := ⟨[.v false [.lit (.bool r)]], []⟩
def as_laws_eqFrameS (p0 : (List S_Frame)) (p1 : (List S_Frame)) : List Arg := [.v false [.sl (p0.map rS_Frame)], .v false [.sl (p1.map rS_Frame)]]
def res_laws_eqFrameS (r : Bool) : FRes := ⟨[.v false [.lit (.bool r)]], []⟩
def as_laws_eqMoving (p0 : S_Moving) (p1 : S_Moving) : List Arg := [.v true [.lit (.int .i64 p0.width), .lit (.int .i64 p0.height), .sl (p0.palette.map (rI .i64)), .lit (.int .i64 p0.loops), .sl (p0.frames.map rS_Frame)], .v true [.lit (.int .i64 p1.width), .lit (.int .i64 p1.height), .sl (p1.palette.map (rI .i64)), .lit (.int .i64 p1.loops), .sl (p1.frames.map rS_Frame)]]
def res_laws_eqMoving (r : Bool) : FRes := ⟨[.v false [.lit (.bool r)]], []⟩
def as_laws_markIntS (p0 : (List Int)) (p1 : Int) : List Arg := [.m (.sl (p0.map (rI .i64))), .v false [.lit (.int .i64 p1)]]
def res_laws_markIntS (r : Int × (List Int)) : FRes := ⟨[.v false [.lit (.int .i64 r.1)]], [.sl (r.2.map (rI .i64))]⟩
def as_laws_markFrameS (p0 : (List S_Frame)) (p1 : Int) : List Arg := [.m (.sl (p0.map rS_Frame)), .v false [.lit (.int .i64 p1)]]
def res_laws_markFrameS (r : Int × (List S_Frame)) : FRes := ⟨[.v false [.lit (.int .i64 r.1)]], [.sl (r.2.map rS_Frame)]⟩
def as_laws_markMoving (p0 : S_Moving) (p1 : Int) : List Arg := [.v true [.lit (.int .i64 p0.width), .lit (.int .i64 p0.height), .sl (p0.palette.map (rI .i64)), .lit (.int .i64 p0.loops), .sl (p0.frames.map rS_Frame)], .v false [.lit (.int .i64 p1)]]
def res_laws_markMoving (r : Int × S_Moving) : FRes := ⟨[.v false [.lit (.int .i64 r.1)]], [.sl (r.2.palette.map (rI .i64)), .sl (r.2.frames.map rS_Frame)]⟩
def as_laws_markIntSS (p0 : (List (List Int))) (p1 : Int) : List Arg := [.m (.sl (p0.map (rL (rI .i64)))), .v false [.lit (.int .i64 p1)]]
def res_laws_markIntSS (r : Int × (List (List Int))) : FRes := ⟨[.v false [.lit (.int .i64 r.1)]], [.sl (r.2.map (rL (rI .i64)))]⟩
def as_laws_heldIntS (p0 : (List Int)) (p1 : Int) : List Arg := [.v false [.sl (p0.map (rI .i64))], .v false [.lit (.int .i64 p1)]]
def res_laws_heldIntS (r : Int) : FRes := ⟨[.v false [.lit (.int .i64 r)]], []⟩
def as_laws_heldIntSS (p0 : (List (List Int))) (p1 : Int) : List Arg := [.v false [.sl (p0.map (rL (rI .i64)))], .v false [.lit (.int .i64 p1)]]
def res_laws_heldIntSS (r : Int) : FRes := ⟨[.v false [.lit (.int .i64 r)]], []⟩
def as_laws_FnExactScreens (p0 : S_Moving) : List Arg := [.v true [.lit (.int .i64 p0.width), .lit (.int .i64 p0.height), .sl (p0.palette.map (rI .i64)), .lit (.int .i64 p0.loops), .sl (p0.frames.map rS_Frame)]]
def res_laws_FnExactScreens (r : Bool) : FRes := ⟨[.v false [.lit (.bool r)]], []⟩
def K_laws_szIntS_0 : List Fr := []
def s_laws_szIntS_0 (p0 : (List Int)) (p1 : Int) : St :=
  ⟨mkSl 12 [(0, .v false [.ro [.sc] (p0.map (rI .i64))]), (1, .v false [.lit (.int .i64 p1)])], [], []⟩
def K_laws_szFrame_0 : List Fr := []
def s_laws_szFrame_0 (p0 : S_Frame) (p1 : Int) : St :=
  ⟨mkSl 12 [(0, .v true [.lit (.int .i64 p0.x), .lit (.int .i64 p0.y), .lit (.int .i64 p0.width), .lit (.int .i64 p0.height), .lit (.int .i64 p0.delay), .lit (.int .i64 p0.dispose), .lit (.int .i64 p0.hollow), .ro [.sc] (p0.pixels.map (rI .i64))]), (1, .v false [.lit (.int .i64 p1)])], [], []⟩
def K_laws_szFrameS_35 : List Fr := []
def s_laws_szFrameS_35 (i35_0 : Int) : St :=
  ⟨mkSl 27 [(1, .v false [.lit (.int .i64 i35_0)])], [], []⟩
def K_laws_szFrameS_17 : List Fr := [.lp [0, 1, 5] c_laws_szFrameS_17, .bk 0, .sq (.kp [1] c_laws_szFrameS_35)]
def s_laws_szFrameS_17 (p0 : (List S_Frame)) (i17_0 : Int) (i17_1 : Int) : St :=
  ⟨mkSl 27 [(0, .v false [.ro [.sc, .sc, .sc, .sc, .sc, .sc, .sc, .ro [.sc]] (p0.map rS_Frame)]), (1, .v false [.lit (.int .i64 i17_0)]), (5, .v false [.lit (.int .i64 i17_1)])], [], []⟩
def K_laws_szFrameS_0 : List Fr := []
def s_laws_szFrameS_0 (p0 : (List S_Frame)) (p1 : Int) : St :=
  ⟨mkSl 27 [(0, .v false [.ro [.sc, .sc, .sc, .sc, .sc, .sc, .sc, .ro [.sc]] (p0.map rS_Frame)]), (1, .v false [.lit (.int .i64 p1)])], [], []⟩
def K_laws_szMoving_0 : List Fr := []
def s_laws_szMoving_0 (p0 : S_Moving) (p1 : Int) : St :=
  ⟨mkSl 18 [(0, .v true [.lit (.int .i64 p0.width), .lit (.int .i64 p0.height), .ro [.sc] (p0.palette.map (rI .i64)), .lit (.int .i64 p0.loops), .ro [.sc, .sc, .sc, .sc, .sc, .sc, .sc, .ro [.sc]] (p0.frames.map rS_Frame)]), (1, .v false [.lit (.int .i64 p1)])], [], []⟩
def K_laws_toIntS_19 : List Fr := []
def s_laws_toIntS_19 (l19_0 : (List Int)) : St :=
  ⟨mkSl 22 [(3, .v false [.ref 0 [] 0 l19_0.length])], [some ⟨[.sc], (List.map (rI .i64) l19_0)⟩], []⟩
def K_laws_toIntS_9 : List Fr := [.lp [0, 3, 4] c_laws_toIntS_9, .bk 0, .sq (.kp [3] c_laws_toIntS_19)]
def s_laws_toIntS_9 (p0 : (List Int)) (i9_0 : Int) (l9_1 : (List Int)) : St :=
  ⟨mkSl 22 [(0, .v false [.ro [.sc] (p0.map (rI .i64))]), (3, .v false [.ref 0 [] 0 l9_1.length]), (4, .v false [.lit (.int .i64 i9_0)])], [some ⟨[.sc], (List.map (rI .i64) l9_1)⟩], []⟩
def K_laws_toIntS_0 : List Fr := []
def s_laws_toIntS_0 (p0 : (List Int)) : St :=
  ⟨mkSl 22 [(0, .v false [.ro [.sc] (p0.map (rI .i64))])], [], []⟩
def K_laws_toFrame_0 : List Fr := []
def s_laws_toFrame_0 (p0 : S_Frame) : St :=
  ⟨mkSl 30 [(0, .v true [.lit (.int .i64 p0.x), .lit (.int .i64 p0.y), .lit (.int .i64 p0.width), .lit (.int .i64 p0.height), .lit (.int .i64 p0.delay), .lit (.int .i64 p0.dispose), .lit (.int .i64 p0.hollow), .ro [.sc] (p0.pixels.map (rI .i64))])], [], []⟩
def K_laws_toFrameS_19 : List Fr := []
def s_laws_toFrameS_19 (l19_0 : (List S_Frame)) : St :=
  ⟨mkSl 23 [(3, .v false [.ref 0 [] 0 l19_0.length])], [some ⟨[.sc, .sc, .sc, .sc, .sc, .sc, .sc, .own [.sc]], (List.map rS_Frame l19_0)⟩], []⟩
def K_laws_toFrameS_9 : List Fr := [.lp [0, 3, 4] c_laws_toFrameS_9, .bk 0, .sq (.kp [3] c_laws_toFrameS_19)]
def s_laws_toFrameS_9 (p0 : (List S_Frame)) (i9_0 : Int) (l9_1 : (List S_Frame)) : St :=
  ⟨mkSl 23 [(0, .v false [.ro [.sc, .sc, .sc, .sc, .sc, .sc, .sc, .ro [.sc]] (p0.map rS_Frame)]), (3, .v false [.ref 0 [] 0 l9_1.length]), (4, .v false [.lit (.int .i64 i9_0)])], [some ⟨[.sc, .sc, .sc, .sc, .sc, .sc, .sc, .own [.sc]], (List.map rS_Frame l9_1)⟩], []⟩
def K_laws_toFrameS_0 : List Fr := []
def s_laws_toFrameS_0 (p0 : (List S_Frame)) : St :=
  ⟨mkSl 23 [(0, .v false [.ro [.sc, .sc, .sc, .sc, .sc, .sc, .sc, .ro [.sc]] (p0.map rS_Frame)])], [], []⟩
def K_laws_toMoving_0 : List Fr := []
def s_laws_toMoving_0 (p0 : S_Moving) : St :=
  ⟨mkSl 22 [(0, .v true [.lit (.int .i64 p0.width), .lit (.int .i64 p0.height), .ro [.sc] (p0.palette.map (rI .i64)), .lit (.int .i64 p0.loops), .ro [.sc, .sc, .sc, .sc, .sc, .sc, .sc, .ro [.sc]] (p0.frames.map rS_Frame)])], [], []⟩
def K_spec_l4Sides_0 : List Fr := []
def s_spec_l4Sides_0 (p0 : Int) (p1 : Int) : St :=
  ⟨mkSl 19 [(0, .v false [.lit (.int .i64 p0)]), (1, .v false [.lit (.int .i64 p1)])], [], []⟩
def K_spec_l6Log_23 : List Fr := []
def s_spec_l6Log_23 : St :=
  ⟨mkSl 14 [], [], []⟩
def K_spec_l6Log_7 : List Fr := [.lp [0, 3] c_spec_l6Log_7, .bk 0, .sq (.kp [] c_spec_l6Log_23)]
def s_spec_l6Log_7 (p0 : Int) (i7_0 : Int) : St :=
  ⟨mkSl 14 [(0, .v false [.lit (.int .i64 p0)]), (3, .v false [.lit (.int .i64 i7_0)])], [], []⟩
def K_spec_l6Log_0 : List Fr := []
def s_spec_l6Log_0 (p0 : Int) : St :=
  ⟨mkSl 14 [(0, .v false [.lit (.int .i64 p0)])], [], []⟩
def K_spec_l5Colours_25 : List Fr := []
def s_spec_l5Colours_25 (p0 : (List Int)) : St :=
  ⟨mkSl 21 [(0, .v false [.ro [.sc] (p0.map (rI .i64))])], [], []⟩
def K_spec_l5Colours_7 : List Fr := [.lp [0, 5, 6, 7] c_spec_l5Colours_7, .bk 0, .sq (.kp [0] c_spec_l5Colours_25)]
def s_spec_l5Colours_7 (p0 : (List Int)) (i7_0 : Int) : St :=
  ⟨mkSl 21 [(0, .v false [.ro [.sc] (p0.map (rI .i64))]), (5, .v false [.ro [.sc] (p0.map (rI .i64))]), (6, .v false [.lit (.int .i64 (p0.length : Int))]), (7, .v false [.lit (.int .i64 i7_0)])], [], []⟩
def K_spec_l5Colours_0 : List Fr := []
def s_spec_l5Colours_0 (p0 : (List Int)) : St :=
  ⟨mkSl 21 [(0, .v false [.ro [.sc] (p0.map (rI .i64))])], [], []⟩
def K_spec_l6Head_0 : List Fr := []
def s_spec_l6Head_0 (p0 : S_Moving) : St :=
  ⟨mkSl 38 [(0, .v true [.lit (.int .i64 p0.width), .lit (.int .i64 p0.height), .ro [.sc] (p0.palette.map (rI .i64)), .lit (.int .i64 p0.loops), .ro [.sc, .sc, .sc, .sc, .sc, .sc, .sc, .ro [.sc]] (p0.frames.map rS_Frame)])], [], []⟩
def K_spec_l6Frame_0 : List Fr := []
def s_spec_l6Frame_0 (p0 : S_Moving) (p1 : S_Frame) : St :=
  ⟨mkSl 88 [(0, .v true [.lit (.int .i64 p0.width), .lit (.int .i64 p0.height), .ro [.sc] (p0.palette.map (rI .i64)), .lit (.int .i64 p0.loops), .ro [.sc, .sc, .sc, .sc, .sc, .sc, .sc, .ro [.sc]] (p0.frames.map rS_Frame)]), (1, .v true [.lit (.int .i64 p1.x), .lit (.int .i64 p1.y), .lit (.int .i64 p1.width), .lit (.int .i64 p1.height), .lit (.int .i64 p1.delay), .lit (.int .i64 p1.dispose), .lit (.int .i64 p1.hollow), .ro [.sc] (p1.pixels.map (rI .i64))])], [], []⟩
def K_spec_l6Pixels_25 : List Fr := []
def s_spec_l6Pixels_25 : St :=
  ⟨mkSl 23 [], [], []⟩
def K_spec_l6Pixels_7 : List Fr := [.lp [2, 7, 8, 9] c_spec_l6Pixels_7, .bk 0, .sq (.kp [] c_spec_l6Pixels_25)]
def s_spec_l6Pixels_7 (p1 : (List Int)) (p0 : S_Moving) (i7_0 : Int) : St :=
  ⟨mkSl 23 [(2, .v false [.vptr 0 0]), (7, .v false [.ro [.sc] (p1.map (rI .i64))]), (8, .v false [.lit (.int .i64 (p1.length : Int))]), (9, .v false [.lit (.int .i64 i7_0)])], [], [some [.lit (.int .i64 p0.width), .lit (.int .i64 p0.height), .ro [.sc] (p0.palette.map (rI .i64)), .lit (.int .i64 p0.loops), .ro [.sc, .sc, .sc, .sc, .sc, .sc, .sc, .ro [.sc]] (p0.frames.map rS_Frame)]]⟩
def K_spec_l6Pixels_0 : List Fr := []
def s_spec_l6Pixels_0 (p0 : S_Moving) (p1 : (List Int)) : St :=
  ⟨mkSl 23 [(0, .v true [.lit (.int .i64 p0.width), .lit (.int .i64 p0.height), .ro [.sc] (p0.palette.map (rI .i64)), .lit (.int .i64 p0.loops), .ro [.sc, .sc, .sc, .sc, .sc, .sc, .sc, .ro [.sc]] (p0.frames.map rS_Frame)]), (1, .v false [.ro [.sc] (p1.map (rI .i64))])], [], []⟩
def K_spec_GoodMoving_37 : List Fr := []
def s_spec_GoodMoving_37 (i37_0 : Int) : St :=
  ⟨mkSl 58 [(3, .v false [.lit (.int .i64 i37_0)])], [], []⟩
def K_spec_GoodMoving_17 : List Fr := [.lp [1, 3, 22, 23, 24] c_spec_GoodMoving_17, .bk 0, .sq (.kp [3] c_spec_GoodMoving_37)]
def s_spec_GoodMoving_17 (p0 : S_Moving) (i17_0 : Int) (i17_1 : Int) : St :=
  ⟨mkSl 58 [(1, .v false [.vptr 0 0]), (3, .v false [.lit (.int .i64 i17_0)]), (22, .v false [.ro [.sc, .sc, .sc, .sc, .sc, .sc, .sc, .ro [.sc]] (p0.frames.map rS_Frame)]), (23, .v false [.lit (.int .i64 (p0.frames.length : Int))]), (24, .v false [.lit (.int .i64 i17_1)])], [], [some [.lit (.int .i64 p0.width), .lit (.int .i64 p0.height), .ro [.sc] (p0.palette.map (rI .i64)), .lit (.int .i64 p0.loops), .ro [.sc, .sc, .sc, .sc, .sc, .sc, .sc, .ro [.sc]] (p0.frames.map rS_Frame)]]⟩
def K_spec_GoodMoving_0 : List Fr := []
def s_spec_GoodMoving_0 (p0 : S_Moving) : St :=
  ⟨mkSl 58 [(0, .v true [.lit (.int .i64 p0.width), .lit (.int .i64 p0.height), .ro [.sc] (p0.palette.map (rI .i64)), .lit (.int .i64 p0.loops), .ro [.sc, .sc, .sc, .sc, .sc, .sc, .sc, .ro [.sc]] (p0.frames.map rS_Frame)])], [], []⟩
def K_spec_Screens_104 : List Fr := [.bk 3, .sq c_spec_Screens_105, .lp [1, 3, 5, 32, 33, 34] c_spec_Screens_36, .bk 2, .sq (.kp [5] c_spec_Screens_106)]
def s_spec_Screens_104 (p0 : S_Moving) (i36_0 : Int) (l104_0 : (List (List Int))) (l104_1 : (List Int)) : St :=
  ⟨mkSl 118 [(1, .v false [.vptr 0 0]), (5, .v false [.ref 0 [] 0 l104_0.length]), (11, .v false [.ref 1 [] 0 l104_1.length]), (32, .v false [.ro [.sc, .sc, .sc, .sc, .sc, .sc, .sc, .ro [.sc]] (p0.frames.map rS_Frame)]), (33, .v false [.lit (.int .i64 (p0.frames.length : Int))]), (34, .v false [.lit (.int .i64 i36_0)])], [some ⟨[.ro [.sc]], (List.map (rL (rI .i64)) l104_0)⟩, some ⟨[.sc], (List.map (rI .i64) l104_1)⟩], [some [.lit (.int .i64 p0.width), .lit (.int .i64 p0.height), .ro [.sc] (p0.palette.map (rI .i64)), .lit (.int .i64 p0.loops), .ro [.sc, .sc, .sc, .sc, .sc, .sc, .sc, .ro [.sc]] (p0.frames.map rS_Frame)]]⟩
def K_spec_Screens_91 : List Fr := [.lp [1, 5, 7, 11, 32, 33, 34, 90, 91] c_spec_Screens_91, .bk 6, .sq (.kp [1, 5, 11, 32, 33, 34] c_spec_Screens_104), .bk 3, .sq c_spec_Screens_105, .lp [1, 3, 5, 32, 33, 34] c_spec_Screens_36, .bk 2, .sq (.kp [5] c_spec_Screens_106)]
def s_spec_Screens_91 (p0 : S_Moving) (i36_0 : Int) (x36_1 : S_Frame) (i91_0 : Int) (l91_1 : (List (List Int))) (l91_2 : (List Int)) : St :=
  ⟨mkSl 118 [(1, .v false [.vptr 0 0]), (5, .v false [.ref 0 [] 0 l91_1.length]), (7, .v false [.vptr 1 0]), (11, .v false [.ref 1 [] 0 l91_2.length]), (32, .v false [.ro [.sc, .sc, .sc, .sc, .sc, .sc, .sc, .ro [.sc]] (p0.frames.map rS_Frame)]), (33, .v false [.lit (.int .i64 (p0.frames.length : Int))]), (34, .v false [.lit (.int .i64 i36_0)]), (90, .v false [.lit (.int .i64 (x36_1.pixels.length : Int))]), (91, .v false [.lit (.int .i64 i91_0)])], [some ⟨[.ro [.sc]], (List.map (rL (rI .i64)) l91_1)⟩, some ⟨[.sc], (List.map (rI .i64) l91_2)⟩], [some [.lit (.int .i64 p0.width), .lit (.int .i64 p0.height), .ro [.sc] (p0.palette.map (rI .i64)), .lit (.int .i64 p0.loops), .ro [.sc, .sc, .sc, .sc, .sc, .sc, .sc, .ro [.sc]] (p0.frames.map rS_Frame)], some [.lit (.int .i64 x36_1.x), .lit (.int .i64 x36_1.y), .lit (.int .i64 x36_1.width), .lit (.int .i64 x36_1.height), .lit (.int .i64 x36_1.delay), .lit (.int .i64 x36_1.dispose), .lit (.int .i64 x36_1.hollow), .ro [.sc] (x36_1.pixels.map (rI .i64))]]⟩
def K_spec_Screens_71 : List Fr := [.bk 3, .sq c_spec_Screens_105, .lp [1, 3, 5, 32, 33, 34] c_spec_Screens_36, .bk 2, .sq (.kp [5] c_spec_Screens_106)]
def s_spec_Screens_71 (p0 : S_Moving) (i36_0 : Int) (x36_1 : S_Frame) (l36_1 : (List Int)) (l36_2 : (List (List Int))) (l71_0 : (List Int)) : St :=
  ⟨mkSl 118 [(1, .v false [.vptr 0 0]), (3, .v false [.ref 0 [] 0 l36_1.length]), (5, .v false [.ref 1 [] 0 l36_2.length]), (7, .v false [.vptr 1 0]), (8, .v false [.ref 2 [] 0 l71_0.length]), (32, .v false [.ro [.sc, .sc, .sc, .sc, .sc, .sc, .sc, .ro [.sc]] (p0.frames.map rS_Frame)]), (33, .v false [.lit (.int .i64 (p0.frames.length : Int))]), (34, .v false [.lit (.int .i64 i36_0)])], [some ⟨[.sc], (List.map (rI .i64) l36_1)⟩, some ⟨[.ro [.sc]], (List.map (rL (rI .i64)) l36_2)⟩, some ⟨[.sc], (List.map (rI .i64) l71_0)⟩], [some [.lit (.int .i64 p0.width), .lit (.int .i64 p0.height), .ro [.sc] (p0.palette.map (rI .i64)), .lit (.int .i64 p0.loops), .ro [.sc, .sc, .sc, .sc, .sc, .sc, .sc, .ro [.sc]] (p0.frames.map rS_Frame)], some [.lit (.int .i64 x36_1.x), .lit (.int .i64 x36_1.y), .lit (.int .i64 x36_1.width), .lit (.int .i64 x36_1.height), .lit (.int .i64 x36_1.delay), .lit (.int .i64 x36_1.dispose), .lit (.int .i64 x36_1.hollow), .ro [.sc] (x36_1.pixels.map (rI .i64))]]⟩
def K_spec_Screens_55 : List Fr := [.lp [1, 3, 5, 7, 8, 32, 33, 34, 42, 43, 44] c_spec_Screens_55, .bk 4, .sq (.kp [1, 3, 5, 7, 8, 32, 33, 34] c_spec_Screens_71), .bk 3, .sq c_spec_Screens_105, .lp [1, 3, 5, 32, 33, 34] c_spec_Screens_36, .bk 2, .sq (.kp [5] c_spec_Screens_106)]
def s_spec_Screens_55 (p0 : S_Moving) (i36_0 : Int) (x36_1 : S_Frame) (l36_1 : (List Int)) (l36_2 : (List (List Int))) (i55_0 : Int) (l55_1 : (List Int)) : St :=
  ⟨mkSl 118 [(1, .v false [.vptr 0 0]), (3, .v false [.ref 0 [] 0 l36_1.length]), (5, .v false [.ref 1 [] 0 l36_2.length]), (7, .v false [.vptr 1 0]), (8, .v false [.ref 2 [] 0 l55_1.length]), (32, .v false [.ro [.sc, .sc, .sc, .sc, .sc, .sc, .sc, .ro [.sc]] (p0.frames.map rS_Frame)]), (33, .v false [.lit (.int .i64 (p0.frames.length : Int))]), (34, .v false [.lit (.int .i64 i36_0)]), (42, .v false [.ro [.sc] (x36_1.pixels.map (rI .i64))]), (43, .v false [.lit (.int .i64 (x36_1.pixels.length : Int))]), (44, .v false [.lit (.int .i64 i55_0)])], [some ⟨[.sc], (List.map (rI .i64) l36_1)⟩, some ⟨[.ro [.sc]], (List.map (rL (rI .i64)) l36_2)⟩, some ⟨[.sc], (List.map (rI .i64) l55_1)⟩], [some [.lit (.int .i64 p0.width), .lit (.int .i64 p0.height), .ro [.sc] (p0.palette.map (rI .i64)), .lit (.int .i64 p0.loops), .ro [.sc, .sc, .sc, .sc, .sc, .sc, .sc, .ro [.sc]] (p0.frames.map rS_Frame)], some [.lit (.int .i64 x36_1.x), .lit (.int .i64 x36_1.y), .lit (.int .i64 x36_1.width), .lit (.int .i64 x36_1.height), .lit (.int .i64 x36_1.delay), .lit (.int .i64 x36_1.dispose), .lit (.int .i64 x36_1.hollow), .ro [.sc] (x36_1.pixels.map (rI .i64))]]⟩
def K_spec_Screens_106 : List Fr := []
def s_spec_Screens_106 (l106_0 : (List (List Int))) : St :=
  ⟨mkSl 118 [(5, .v false [.ref 0 [] 0 l106_0.length])], [some ⟨[.ro [.sc]], (List.map (rL (rI .i64)) l106_0)⟩], []⟩
def K_spec_Screens_36 : List Fr := [.lp [1, 3, 5, 32, 33, 34] c_spec_Screens_36, .bk 2, .sq (.kp [5] c_spec_Screens_106)]
def s_spec_Screens_36 (p0 : S_Moving) (i36_0 : Int) (l36_1 : (List Int)) (l36_2 : (List (List Int))) : St :=
  ⟨mkSl 118 [(1, .v false [.vptr 0 0]), (3, .v false [.ref 0 [] 0 l36_1.length]), (5, .v false [.ref 1 [] 0 l36_2.length]), (32, .v false [.ro [.sc, .sc, .sc, .sc, .sc, .sc, .sc, .ro [.sc]] (p0.frames.map rS_Frame)]), (33, .v false [.lit (.int .i64 (p0.frames.length : Int))]), (34, .v false [.lit (.int .i64 i36_0)])], [some ⟨[.sc], (List.map (rI .i64) l36_1)⟩, some ⟨[.ro [.sc]], (List.map (rL (rI .i64)) l36_2)⟩], [some [.lit (.int .i64 p0.width), .lit (.int .i64 p0.height), .ro [.sc] (p0.palette.map (rI .i64)), .lit (.int .i64 p0.loops), .ro [.sc, .sc, .sc, .sc, .sc, .sc, .sc, .ro [.sc]] (p0.frames.map rS_Frame)]]⟩
def K_spec_Screens_29 : List Fr := []
def s_spec_Screens_29 (p0 : S_Moving) (l29_0 : (List Int)) : St :=
  ⟨mkSl 118 [(1, .v false [.vptr 0 0]), (3, .v false [.ref 0 [] 0 l29_0.length])], [some ⟨[.sc], (List.map (rI .i64) l29_0)⟩], [some [.lit (.int .i64 p0.width), .lit (.int .i64 p0.height), .ro [.sc] (p0.palette.map (rI .i64)), .lit (.int .i64 p0.loops), .ro [.sc, .sc, .sc, .sc, .sc, .sc, .sc, .ro [.sc]] (p0.frames.map rS_Frame)]]⟩
def K_spec_Screens_17 : List Fr := [.lp [1, 3, 23, 24] c_spec_Screens_17, .bk 0, .sq (.kp [1, 3] c_spec_Screens_29)]
def s_spec_Screens_17 (p0 : S_Moving) (i17_0 : Int) (i17_1 : Int) (l17_2 : (List Int)) : St :=
  ⟨mkSl 118 [(1, .v false [.vptr 0 0]), (3, .v false [.ref 0 [] 0 l17_2.length]), (23, .v false [.lit (.int .i64 i17_0)]), (24, .v false [.lit (.int .i64 i17_1)])], [some ⟨[.sc], (List.map (rI .i64) l17_2)⟩], [some [.lit (.int .i64 p0.width), .lit (.int .i64 p0.height), .ro [.sc] (p0.palette.map (rI .i64)), .lit (.int .i64 p0.loops), .ro [.sc, .sc, .sc, .sc, .sc, .sc, .sc, .ro [.sc]] (p0.frames.map rS_Frame)]]⟩
def K_spec_Screens_0 : List Fr := []
def s_spec_Screens_0 (p0 : S_Moving) : St :=
  ⟨mkSl 118 [(0, .v true [.lit (.int .i64 p0.width), .lit (.int .i64 p0.height), .ro [.sc] (p0.palette.map (rI .i64)), .lit (.int .i64 p0.loops), .ro [.sc, .sc, .sc, .sc, .sc, .sc, .sc, .ro [.sc]] (p0.frames.map rS_Frame)])], [], []⟩
def K_impl_goodSide_0 : List Fr := []
def s_impl_goodSide_0 (p0 : Int) : St :=
  ⟨mkSl 9 [(0, .v false [.lit (.int .i64 p0)])], [], []⟩
def K_impl_goodSides_0 : List Fr := []
def s_impl_goodSides_0 (p0 : Int) (p1 : Int) : St :=
  ⟨mkSl 17 [(0, .v false [.lit (.int .i64 p0)]), (1, .v false [.lit (.int .i64 p1)])], [], []⟩
def K_impl_inRange_25 : List Fr := []
def s_impl_inRange_25 : St :=
  ⟨mkSl 21 [], [], []⟩
def K_impl_inRange_7 : List Fr := [.lp [1, 7, 8, 9] c_impl_inRange_7, .bk 0, .sq (.kp [] c_impl_inRange_25)]
def s_impl_inRange_7 (p1 : Int) (p0 : (List Int)) (i7_0 : Int) : St :=
  ⟨mkSl 21 [(1, .v false [.lit (.int .i64 p1)]), (7, .v false [.ro [.sc] (p0.map (rI .i64))]), (8, .v false [.lit (.int .i64 (p0.length : Int))]), (9, .v false [.lit (.int .i64 i7_0)])], [], []⟩
def K_impl_inRange_0 : List Fr := []
def s_impl_inRange_0 (p0 : (List Int)) (p1 : Int) : St :=
  ⟨mkSl 21 [(0, .v false [.ro [.sc] (p0.map (rI .i64))]), (1, .v false [.lit (.int .i64 p1)])], [], []⟩
def K_impl_goodFrame_0 : List Fr := []
def s_impl_goodFrame_0 (p0 : S_Moving) (p1 : S_Frame) : St :=
  ⟨mkSl 76 [(0, .v true [.lit (.int .i64 p0.width), .lit (.int .i64 p0.height), .ro [.sc] (p0.palette.map (rI .i64)), .lit (.int .i64 p0.loops), .ro [.sc, .sc, .sc, .sc, .sc, .sc, .sc, .ro [.sc]] (p0.frames.map rS_Frame)]), (1, .v true [.lit (.int .i64 p1.x), .lit (.int .i64 p1.y), .lit (.int .i64 p1.width), .lit (.int .i64 p1.height), .lit (.int .i64 p1.delay), .lit (.int .i64 p1.dispose), .lit (.int .i64 p1.hollow), .ro [.sc] (p1.pixels.map (rI .i64))])], [], []⟩
def K_impl_GoodMoving_39 : List Fr := []
def s_impl_GoodMoving_39 (i39_0 : Int) : St :=
  ⟨mkSl 97 [(4, .v false [.lit (.int .i64 i39_0)])], [], []⟩
def K_impl_GoodMoving_19 : List Fr := [.lp [1, 3, 4, 60, 61, 62] c_impl_GoodMoving_19, .bk 0, .sq (.kp [4] c_impl_GoodMoving_39)]
def s_impl_GoodMoving_19 (p0 : S_Moving) (i19_0 : Int) (i19_1 : Int) : St :=
  ⟨mkSl 97 [(1, .v false [.vptr 0 0]), (3, .v false [.lit (.int .i64 (p0.palette.length : Int))]), (4, .v false [.lit (.int .i64 i19_0)]), (60, .v false [.ro [.sc, .sc, .sc, .sc, .sc, .sc, .sc, .ro [.sc]] (p0.frames.map rS_Frame)]), (61, .v false [.lit (.int .i64 (p0.frames.length : Int))]), (62, .v false [.lit (.int .i64 i19_1)])], [], [some [.lit (.int .i64 p0.width), .lit (.int .i64 p0.height), .ro [.sc] (p0.palette.map (rI .i64)), .lit (.int .i64 p0.loops), .ro [.sc, .sc, .sc, .sc, .sc, .sc, .sc, .ro [.sc]] (p0.frames.map rS_Frame)]]⟩
def K_impl_GoodMoving_0 : List Fr := []
def s_impl_GoodMoving_0 (p0 : S_Moving) : St :=
  ⟨mkSl 97 [(0, .v true [.lit (.int .i64 p0.width), .lit (.int .i64 p0.height), .ro [.sc] (p0.palette.map (rI .i64)), .lit (.int .i64 p0.loops), .ro [.sc, .sc, .sc, .sc, .sc, .sc, .sc, .ro [.sc]] (p0.frames.map rS_Frame)])], [], []⟩
def K_impl_Screens_98 : List Fr := [.lp [1, 3, 5, 31, 32, 33] c_impl_Screens_36, .bk 2, .sq (.kp [5] c_impl_Screens_99)]
def s_impl_Screens_98 (p0 : S_Moving) (i36_0 : Int) (l98_0 : (List Int)) (l98_1 : (List (List Int))) : St :=
  ⟨mkSl 114 [(1, .v false [.vptr 0 0]), (3, .v false [.ref 0 [] 0 l98_0.length]), (5, .v false [.ref 1 [] 0 l98_1.length]), (31, .v false [.ro [.sc, .sc, .sc, .sc, .sc, .sc, .sc, .ro [.sc]] (p0.frames.map rS_Frame)]), (32, .v false [.lit (.int .i64 (p0.frames.length : Int))]), (33, .v false [.lit (.int .i64 i36_0)])], [some ⟨[.sc], (List.map (rI .i64) l98_0)⟩, some ⟨[.own [.sc]], (List.map (rL (rI .i64)) l98_1)⟩], [some [.lit (.int .i64 p0.width), .lit (.int .i64 p0.height), .ro [.sc] (p0.palette.map (rI .i64)), .lit (.int .i64 p0.loops), .ro [.sc, .sc, .sc, .sc, .sc, .sc, .sc, .ro [.sc]] (p0.frames.map rS_Frame)]]⟩
def K_impl_Screens_81 : List Fr := [.lp [1, 3, 5, 7, 31, 32, 33, 84, 85] c_impl_Screens_81, .bk 7, .bk 6, .bk 3, .sq (.kp [1, 3, 5, 31, 32, 33] c_impl_Screens_98), .lp [1, 3, 5, 31, 32, 33] c_impl_Screens_36, .bk 2, .sq (.kp [5] c_impl_Screens_99)]
def s_impl_Screens_81 (p0 : S_Moving) (i36_0 : Int) (x36_1 : S_Frame) (i81_0 : Int) (l81_1 : (List Int)) (l81_2 : (List (List Int))) : St :=
  ⟨mkSl 114 [(1, .v false [.vptr 0 0]), (3, .v false [.ref 0 [] 0 l81_1.length]), (5, .v false [.ref 1 [] 0 l81_2.length]), (7, .v false [.vptr 1 0]), (31, .v false [.ro [.sc, .sc, .sc, .sc, .sc, .sc, .sc, .ro [.sc]] (p0.frames.map rS_Frame)]), (32, .v false [.lit (.int .i64 (p0.frames.length : Int))]), (33, .v false [.lit (.int .i64 i36_0)]), (84, .v false [.lit (.int .i64 (x36_1.pixels.length : Int))]), (85, .v false [.lit (.int .i64 i81_0)])], [some ⟨[.sc], (List.map (rI .i64) l81_1)⟩, some ⟨[.own [.sc]], (List.map (rL (rI .i64)) l81_2)⟩], [some [.lit (.int .i64 p0.width), .lit (.int .i64 p0.height), .ro [.sc] (p0.palette.map (rI .i64)), .lit (.int .i64 p0.loops), .ro [.sc, .sc, .sc, .sc, .sc, .sc, .sc, .ro [.sc]] (p0.frames.map rS_Frame)], some [.lit (.int .i64 x36_1.x), .lit (.int .i64 x36_1.y), .lit (.int .i64 x36_1.width), .lit (.int .i64 x36_1.height), .lit (.int .i64 x36_1.delay), .lit (.int .i64 x36_1.dispose), .lit (.int .i64 x36_1.hollow), .ro [.sc] (x36_1.pixels.map (rI .i64))]]⟩
def K_impl_Screens_69 : List Fr := [.bk 3, .sq (.kp [1, 3, 5, 31, 32, 33] c_impl_Screens_98), .lp [1, 3, 5, 31, 32, 33] c_impl_Screens_36, .bk 2, .sq (.kp [5] c_impl_Screens_99)]
def s_impl_Screens_69 (p0 : S_Moving) (i36_0 : Int) (x36_1 : S_Frame) (l36_2 : (List (List Int))) (l36_1 : (List Int)) (l69_0 : (List Int)) : St :=
  ⟨mkSl 114 [(1, .v false [.vptr 0 0]), (3, .v false [.ref 0 [] 0 l69_0.length]), (5, .v false [.ref 1 [] 0 l36_2.length]), (7, .v false [.vptr 1 0]), (8, .v false [.ref 2 [] 0 l36_1.length]), (31, .v false [.ro [.sc, .sc, .sc, .sc, .sc, .sc, .sc, .ro [.sc]] (p0.frames.map rS_Frame)]), (32, .v false [.lit (.int .i64 (p0.frames.length : Int))]), (33, .v false [.lit (.int .i64 i36_0)])], [some ⟨[.sc], (List.map (rI .i64) l69_0)⟩, some ⟨[.own [.sc]], (List.map (rL (rI .i64)) l36_2)⟩, some ⟨[.sc], (List.map (rI .i64) l36_1)⟩], [some [.lit (.int .i64 p0.width), .lit (.int .i64 p0.height), .ro [.sc] (p0.palette.map (rI .i64)), .lit (.int .i64 p0.loops), .ro [.sc, .sc, .sc, .sc, .sc, .sc, .sc, .ro [.sc]] (p0.frames.map rS_Frame)], some [.lit (.int .i64 x36_1.x), .lit (.int .i64 x36_1.y), .lit (.int .i64 x36_1.width), .lit (.int .i64 x36_1.height), .lit (.int .i64 x36_1.delay), .lit (.int .i64 x36_1.dispose), .lit (.int .i64 x36_1.hollow), .ro [.sc] (x36_1.pixels.map (rI .i64))]]⟩
def K_impl_Screens_53 : List Fr := [.lp [1, 3, 5, 7, 8, 31, 32, 33, 40, 41, 42] c_impl_Screens_53, .bk 4, .sq (.kp [1, 3, 5, 7, 8, 31, 32, 33] c_impl_Screens_69), .bk 3, .sq (.kp [1, 3, 5, 31, 32, 33] c_impl_Screens_98), .lp [1, 3, 5, 31, 32, 33] c_impl_Screens_36, .bk 2, .sq (.kp [5] c_impl_Screens_99)]
def s_impl_Screens_53 (p0 : S_Moving) (i36_0 : Int) (x36_1 : S_Frame) (l36_2 : (List (List Int))) (l36_1 : (List Int)) (i53_0 : Int) (l53_1 : (List Int)) : St :=
  ⟨mkSl 114 [(1, .v false [.vptr 0 0]), (3, .v false [.ref 0 [] 0 l53_1.length]), (5, .v false [.ref 1 [] 0 l36_2.length]), (7, .v false [.vptr 1 0]), (8, .v false [.ref 2 [] 0 l36_1.length]), (31, .v false [.ro [.sc, .sc, .sc, .sc, .sc, .sc, .sc, .ro [.sc]] (p0.frames.map rS_Frame)]), (32, .v false [.lit (.int .i64 (p0.frames.length : Int))]), (33, .v false [.lit (.int .i64 i36_0)]), (40, .v false [.ro [.sc] (x36_1.pixels.map (rI .i64))]), (41, .v false [.lit (.int .i64 (x36_1.pixels.length : Int))]), (42, .v false [.lit (.int .i64 i53_0)])], [some ⟨[.sc], (List.map (rI .i64) l53_1)⟩, some ⟨[.own [.sc]], (List.map (rL (rI .i64)) l36_2)⟩, some ⟨[.sc], (List.map (rI .i64) l36_1)⟩], [some [.lit (.int .i64 p0.width), .lit (.int .i64 p0.height), .ro [.sc] (p0.palette.map (rI .i64)), .lit (.int .i64 p0.loops), .ro [.sc, .sc, .sc, .sc, .sc, .sc, .sc, .ro [.sc]] (p0.frames.map rS_Frame)], some [.lit (.int .i64 x36_1.x), .lit (.int .i64 x36_1.y), .lit (.int .i64 x36_1.width), .lit (.int .i64 x36_1.height), .lit (.int .i64 x36_1.delay), .lit (.int .i64 x36_1.dispose), .lit (.int .i64 x36_1.hollow), .ro [.sc] (x36_1.pixels.map (rI .i64))]]⟩
def K_impl_Screens_99 : List Fr := []
def s_impl_Screens_99 (l99_0 : (List (List Int))) : St :=
  ⟨mkSl 114 [(5, .v false [.ref 0 [] 0 l99_0.length])], [some ⟨[.own [.sc]], (List.map (rL (rI .i64)) l99_0)⟩], []⟩
def K_impl_Screens_36 : List Fr := [.lp [1, 3, 5, 31, 32, 33] c_impl_Screens_36, .bk 2, .sq (.kp [5] c_impl_Screens_99)]
def s_impl_Screens_36 (p0 : S_Moving) (i36_0 : Int) (l36_1 : (List Int)) (l36_2 : (List (List Int))) : St :=
  ⟨mkSl 114 [(1, .v false [.vptr 0 0]), (3, .v false [.ref 0 [] 0 l36_1.length]), (5, .v false [.ref 1 [] 0 l36_2.length]), (31, .v false [.ro [.sc, .sc, .sc, .sc, .sc, .sc, .sc, .ro [.sc]] (p0.frames.map rS_Frame)]), (32, .v false [.lit (.int .i64 (p0.frames.length : Int))]), (33, .v false [.lit (.int .i64 i36_0)])], [some ⟨[.sc], (List.map (rI .i64) l36_1)⟩, some ⟨[.own [.sc]], (List.map (rL (rI .i64)) l36_2)⟩], [some [.lit (.int .i64 p0.width), .lit (.int .i64 p0.height), .ro [.sc] (p0.palette.map (rI .i64)), .lit (.int .i64 p0.loops), .ro [.sc, .sc, .sc, .sc, .sc, .sc, .sc, .ro [.sc]] (p0.frames.map rS_Frame)]]⟩
def K_impl_Screens_29 : List Fr := []
def s_impl_Screens_29 (p0 : S_Moving) (l29_0 : (List Int)) : St :=
  ⟨mkSl 114 [(1, .v false [.vptr 0 0]), (3, .v false [.ref 0 [] 0 l29_0.length])], [some ⟨[.sc], (List.map (rI .i64) l29_0)⟩], [some [.lit (.int .i64 p0.width), .lit (.int .i64 p0.height), .ro [.sc] (p0.palette.map (rI .i64)), .lit (.int .i64 p0.loops), .ro [.sc, .sc, .sc, .sc, .sc, .sc, .sc, .ro [.sc]] (p0.frames.map rS_Frame)]]⟩
def K_impl_Screens_17 : List Fr := [.lp [1, 3, 22, 23] c_impl_Screens_17, .bk 0, .sq (.kp [1, 3] c_impl_Screens_29)]
def s_impl_Screens_17 (p0 : S_Moving) (i17_0 : Int) (i17_1 : Int) (l17_2 : (List Int)) : St :=
  ⟨mkSl 114 [(1, .v false [.vptr 0 0]), (3, .v false [.ref 0 [] 0 l17_2.length]), (22, .v false [.lit (.int .i64 i17_0)]), (23, .v false [.lit (.int .i64 i17_1)])], [some ⟨[.sc], (List.map (rI .i64) l17_2)⟩], [some [.lit (.int .i64 p0.width), .lit (.int .i64 p0.height), .ro [.sc] (p0.palette.map (rI .i64)), .lit (.int .i64 p0.loops), .ro [.sc, .sc, .sc, .sc, .sc, .sc, .sc, .ro [.sc]] (p0.frames.map rS_Frame)]]⟩
def K_impl_Screens_0 : List Fr := []
def s_impl_Screens_0 (p0 : S_Moving) : St :=
  ⟨mkSl 114 [(0, .v true [.lit (.int .i64 p0.width), .lit (.int .i64 p0.height), .ro [.sc] (p0.palette.map (rI .i64)), .lit (.int .i64 p0.loops), .ro [.sc, .sc, .sc, .sc, .sc, .sc, .sc, .ro [.sc]] (p0.frames.map rS_Frame)])], [], []⟩
def K_laws_eqIntS_31 : List Fr := []
def s_laws_eqIntS_31 : St :=
  ⟨mkSl 26 [], [], []⟩
def K_laws_eqIntS_15 : List Fr := [.lp [0, 1, 5] c_laws_eqIntS_15, .bk 0, .sq (.kp [] c_laws_eqIntS_31)]
def s_laws_eqIntS_15 (p0 : (List Int)) (p1 : (List Int)) (i15_0 : Int) : St :=
  ⟨mkSl 26 [(0, .v false [.ro [.sc] (p0.map (rI .i64))]), (1, .v false [.ro [.sc] (p1.map (rI .i64))]), (5, .v false [.lit (.int .i64 i15_0)])], [], []⟩
def K_laws_eqIntS_0 : List Fr := []
def s_laws_eqIntS_0 (p0 : (List Int)) (p1 : (List Int)) : St :=
  ⟨mkSl 26 [(0, .v false [.ro [.sc] (p0.map (rI .i64))]), (1, .v false [.ro [.sc] (p1.map (rI .i64))])], [], []⟩
def K_laws_eqIntSS_31 : List Fr := []
def s_laws_eqIntSS_31 : St :=
  ⟨mkSl 27 [], [], []⟩
def K_laws_eqIntSS_15 : List Fr := [.lp [0, 1, 5] c_laws_eqIntSS_15, .bk 0, .sq (.kp [] c_laws_eqIntSS_31)]
def s_laws_eqIntSS_15 (p0 : (List (List Int))) (p1 : (List (List Int))) (i15_0 : Int) : St :=
  ⟨mkSl 27 [(0, .v false [.ro [.ro [.sc]] (p0.map (rL (rI .i64)))]), (1, .v false [.ro [.ro [.sc]] (p1.map (rL (rI .i64)))]), (5, .v false [.lit (.int .i64 i15_0)])], [], []⟩
def K_laws_eqIntSS_0 : List Fr := []
def s_laws_eqIntSS_0 (p0 : (List (List Int))) (p1 : (List (List Int))) : St :=
  ⟨mkSl 27 [(0, .v false [.ro [.ro [.sc]] (p0.map (rL (rI .i64)))]), (1, .v false [.ro [.ro [.sc]] (p1.map (rL (rI .i64)))])], [], []⟩
def K_laws_eqFrame_0 : List Fr := []
def s_laws_eqFrame_0 (p0 : S_Frame) (p1 : S_Frame) : St :=
  ⟨mkSl 46 [(0, .v true [.lit (.int .i64 p0.x), .lit (.int .i64 p0.y), .lit (.int .i64 p0.width), .lit (.int .i64 p0.height), .lit (.int .i64 p0.delay), .lit (.int .i64 p0.dispose), .lit (.int .i64 p0.hollow), .ro [.sc] (p0.pixels.map (rI .i64))]), (1, .v true [.lit (.int .i64 p1.x), .lit (.int .i64 p1.y), .lit (.int .i64 p1.width), .lit (.int .i64 p1.height), .lit (.int .i64 p1.delay), .lit (.int .i64 p1.dispose), .lit (.int .i64 p1.hollow), .ro [.sc] (p1.pixels.map (rI .i64))])], [], []⟩
def K_laws_eqFrameS_31 : List Fr := []
def s_laws_eqFrameS_31 : St :=
  ⟨mkSl 27 [], [], []⟩
def K_laws_eqFrameS_15 : List Fr := [.lp [0, 1, 5] c_laws_eqFrameS_15, .bk 0, .sq (.kp [] c_laws_eqFrameS_31)]
def s_laws_eqFrameS_15 (p0 : (List S_Frame)) (p1 : (List S_Frame)) (i15_0 : Int) : St :=
  ⟨mkSl 27 [(0, .v false [.ro [.sc, .sc, .sc, .sc, .sc, .sc, .sc, .ro [.sc]] (p0.map rS_Frame)]), (1, .v false [.ro [.sc, .sc, .sc, .sc, .sc, .sc, .sc, .ro [.sc]] (p1.map rS_Frame)]), (5, .v false [.lit (.int .i64 i15_0)])], [], []⟩
def K_laws_eqFrameS_0 : List Fr := []
def s_laws_eqFrameS_0 (p0 : (List S_Frame)) (p1 : (List S_Frame)) : St :=
  ⟨mkSl 27 [(0, .v false [.ro [.sc, .sc, .sc, .sc, .sc, .sc, .sc, .ro [.sc]] (p0.map rS_Frame)]), (1, .v false [.ro [.sc, .sc, .sc, .sc, .sc, .sc, .sc, .ro [.sc]] (p1.map rS_Frame)])], [], []⟩
def K_laws_eqMoving_0 : List Fr := []
def s_laws_eqMoving_0 (p0 : S_Moving) (p1 : S_Moving) : St :=
  ⟨mkSl 32 [(0, .v true [.lit (.int .i64 p0.width), .lit (.int .i64 p0.height), .ro [.sc] (p0.palette.map (rI .i64)), .lit (.int .i64 p0.loops), .ro [.sc, .sc, .sc, .sc, .sc, .sc, .sc, .ro [.sc]] (p0.frames.map rS_Frame)]), (1, .v true [.lit (.int .i64 p1.width), .lit (.int .i64 p1.height), .ro [.sc] (p1.palette.map (rI .i64)), .lit (.int .i64 p1.loops), .ro [.sc, .sc, .sc, .sc, .sc, .sc, .sc, .ro [.sc]] (p1.frames.map rS_Frame)])], [], []⟩
def K_laws_markIntS_19 : List Fr := []
def s_laws_markIntS_19 (i19_0 : Int) (l19_1 : (List Int)) : St :=
  ⟨mkSl 19 [(0, .v false [.ref 0 [] 0 l19_1.length]), (1, .v false [.lit (.int .i64 i19_0)])], [some ⟨[.sc], (List.map (rI .i64) l19_1)⟩], []⟩
def K_laws_markIntS_7 : List Fr := [.lp [0, 1, 5] c_laws_markIntS_7, .bk 0, .sq (.kp [0, 1] c_laws_markIntS_19)]
def s_laws_markIntS_7 (i7_0 : Int) (i7_1 : Int) (l7_2 : (List Int)) : St :=
  ⟨mkSl 19 [(0, .v false [.ref 0 [] 0 l7_2.length]), (1, .v false [.lit (.int .i64 i7_0)]), (5, .v false [.lit (.int .i64 i7_1)])], [some ⟨[.sc], (List.map (rI .i64) l7_2)⟩], []⟩
def K_laws_markIntS_0 : List Fr := []
def s_laws_markIntS_0 (p1 : Int) (p0 : (List Int)) : St :=
  ⟨mkSl 19 [(0, .v false [.ref 0 [] 0 p0.length]), (1, .v false [.lit (.int .i64 p1)])], [some ⟨[.sc], (List.map (rI .i64) p0)⟩], []⟩
def K_laws_markFrameS_45 : List Fr := []
def s_laws_markFrameS_45 (i45_0 : Int) (l45_1 : (List S_Frame)) : St :=
  ⟨mkSl 69 [(0, .v false [.ref 0 [] 0 l45_1.length]), (1, .v false [.lit (.int .i64 i45_0)])], [some ⟨[.sc, .sc, .sc, .sc, .sc, .sc, .sc, .own [.sc]], (List.map rS_Frame l45_1)⟩], []⟩
def K_laws_markFrameS_7 : List Fr := [.lp [0, 1, 5] c_laws_markFrameS_7, .bk 0, .sq (.kp [0, 1] c_laws_markFrameS_45)]
def s_laws_markFrameS_7 (i7_0 : Int) (i7_1 : Int) (l7_2 : (List S_Frame)) : St :=
  ⟨mkSl 69 [(0, .v false [.ref 0 [] 0 l7_2.length]), (1, .v false [.lit (.int .i64 i7_0)]), (5, .v false [.lit (.int .i64 i7_1)])], [some ⟨[.sc, .sc, .sc, .sc, .sc, .sc, .sc, .own [.sc]], (List.map rS_Frame l7_2)⟩], []⟩
def K_laws_markFrameS_0 : List Fr := []
def s_laws_markFrameS_0 (p1 : Int) (p0 : (List S_Frame)) : St :=
  ⟨mkSl 69 [(0, .v false [.ref 0 [] 0 p0.length]), (1, .v false [.lit (.int .i64 p1)])], [some ⟨[.sc, .sc, .sc, .sc, .sc, .sc, .sc, .own [.sc]], (List.map rS_Frame p0)⟩], []⟩
def K_laws_markMoving_0 : List Fr := []
def s_laws_markMoving_0 (p0 : S_Moving) (p1 : Int) : St :=
  ⟨mkSl 14 [(0, .v true [.lit (.int .i64 p0.width), .lit (.int .i64 p0.height), .ref 0 [] 0 p0.palette.length, .lit (.int .i64 p0.loops), .ref 1 [] 0 p0.frames.length]), (1, .v false [.lit (.int .i64 p1)])], [some ⟨[.sc], (List.map (rI .i64) p0.palette)⟩, some ⟨[.sc, .sc, .sc, .sc, .sc, .sc, .sc, .own [.sc]], (List.map rS_Frame p0.frames)⟩], []⟩
def K_laws_markIntSS_17 : List Fr := []
def s_laws_markIntSS_17 (i17_0 : Int) (l17_1 : (List (List Int))) : St :=
  ⟨mkSl 19 [(0, .v false [.ref 0 [] 0 l17_1.length]), (1, .v false [.lit (.int .i64 i17_0)])], [some ⟨[.own [.sc]], (List.map (rL (rI .i64)) l17_1)⟩], []⟩
def K_laws_markIntSS_7 : List Fr := [.lp [0, 1, 5] c_laws_markIntSS_7, .bk 0, .sq (.kp [0, 1] c_laws_markIntSS_17)]
def s_laws_markIntSS_7 (i7_0 : Int) (i7_1 : Int) (l7_2 : (List (List Int))) : St :=
  ⟨mkSl 19 [(0, .v false [.ref 0 [] 0 l7_2.length]), (1, .v false [.lit (.int .i64 i7_0)]), (5, .v false [.lit (.int .i64 i7_1)])], [some ⟨[.own [.sc]], (List.map (rL (rI .i64)) l7_2)⟩], []⟩
def K_laws_markIntSS_0 : List Fr := []
def s_laws_markIntSS_0 (p1 : Int) (p0 : (List (List Int))) : St :=
  ⟨mkSl 19 [(0, .v false [.ref 0 [] 0 p0.length]), (1, .v false [.lit (.int .i64 p1)])], [some ⟨[.own [.sc]], (List.map (rL (rI .i64)) p0)⟩], []⟩
def K_laws_heldIntS_25 : List Fr := []
def s_laws_heldIntS_25 (i25_0 : Int) : St :=
  ⟨mkSl 21 [(1, .v false [.lit (.int .i64 i25_0)])], [], []⟩
def K_laws_heldIntS_7 : List Fr := [.lp [0, 1, 5] c_laws_heldIntS_7, .bk 0, .sq (.kp [1] c_laws_heldIntS_25)]
def s_laws_heldIntS_7 (p0 : (List Int)) (i7_0 : Int) (i7_1 : Int) : St :=
  ⟨mkSl 21 [(0, .v false [.ro [.sc] (p0.map (rI .i64))]), (1, .v false [.lit (.int .i64 i7_0)]), (5, .v false [.lit (.int .i64 i7_1)])], [], []⟩
def K_laws_heldIntS_0 : List Fr := []
def s_laws_heldIntS_0 (p0 : (List Int)) (p1 : Int) : St :=
  ⟨mkSl 21 [(0, .v false [.ro [.sc] (p0.map (rI .i64))]), (1, .v false [.lit (.int .i64 p1)])], [], []⟩
def K_laws_heldIntSS_25 : List Fr := []
def s_laws_heldIntSS_25 (i25_0 : Int) : St :=
  ⟨mkSl 21 [(1, .v false [.lit (.int .i64 i25_0)])], [], []⟩
def K_laws_heldIntSS_7 : List Fr := [.lp [0, 1, 5] c_laws_heldIntSS_7, .bk 0, .sq (.kp [1] c_laws_heldIntSS_25)]
def s_laws_heldIntSS_7 (p0 : (List (List Int))) (i7_0 : Int) (i7_1 : Int) : St :=
  ⟨mkSl 21 [(0, .v false [.ro [.ro [.sc]] (p0.map (rL (rI .i64)))]), (1, .v false [.lit (.int .i64 i7_0)]), (5, .v false [.lit (.int .i64 i7_1)])], [], []⟩
def K_laws_heldIntSS_0 : List Fr := []
def s_laws_heldIntSS_0 (p0 : (List (List Int))) (p1 : Int) : St :=
  ⟨mkSl 21 [(0, .v false [.ro [.ro [.sc]] (p0.map (rL (rI .i64)))]), (1, .v false [.lit (.int .i64 p1)])], [], []⟩
def K_laws_FnExactScreens_0 : List Fr := []
def s_laws_FnExactScreens_0 (p0 : S_Moving) : St :=
  ⟨mkSl 69 [(0, .v true [.lit (.int .i64 p0.width), .lit (.int .i64 p0.height), .ro [.sc] (p0.palette.map (rI .i64)), .lit (.int .i64 p0.loops), .ro [.sc, .sc, .sc, .sc, .sc, .sc, .sc, .ro [.sc]] (p0.frames.map rS_Frame)])], [], []⟩
theorem ok_laws_szIntS_0 (p0 : (List Int)) (p1 : Int) (r : Int) (hm : m_laws_szIntS_0 p0 p1 = some r) : EvU ext tbl (.c c_laws_szIntS_0) K_laws_szIntS_0 (s_laws_szIntS_0 p0 p1) (Post vf_laws_szIntS (res_laws_szIntS r)) := by
  obtain ⟨h0_0, hm⟩ | ⟨h0_0, hm⟩ := split_ite hm
  · skip
    exact go_end [.num p0.length, .bit true] 1000 (And.intro (len_map (rI .i64) (show p0.length = p0.length from rfl)) (And.intro h0_0 True.intro)) (congrArg res_laws_szIntS (Option.some.inj hm)) (by kernel_rfl)
  · skip
    exact go_end [.num p0.length, .bit false] 1000 (And.intro (len_map (rI .i64) (show p0.length = p0.length from rfl)) (And.intro h0_0 True.intro)) (congrArg res_laws_szIntS (Option.some.inj hm)) (by kernel_rfl)

theorem ok_laws_szIntS (p0 : (List Int)) (p1 : Int) (r : Int) (hm : m_laws_szIntS p0 p1 = some r) : Runs ext tbl 95 (as_laws_szIntS p0 p1) (res_laws_szIntS r) :=
  runs_of (vf := vf_laws_szIntS) (by kernel_rfl) rfl (st := (enter vf_laws_szIntS (as_laws_szIntS p0 p1)).getD default) (by kernel_rfl) (go_on [] 1000 True.intro (ok_laws_szIntS_0 p0 p1 r hm) (by kernel_rfl))
theorem ok_laws_szFrame_0 (p0 : S_Frame) (p1 : Int) (r : Int) (hm : m_laws_szFrame_0 p0 p1 = some r) : EvU ext tbl (.c c_laws_szFrame_0) K_laws_szFrame_0 (s_laws_szFrame_0 p0 p1) (Post vf_laws_szFrame (res_laws_szFrame r)) := by
  obtain ⟨x0_0, h0_0, hm⟩ := bind_some hm
  obtain ⟨h0_1, hm⟩ | ⟨h0_1, hm⟩ := split_ite hm
  · skip
    exact go_end [.res (res_laws_szIntS x0_0), .bit true] 1000 (And.intro (ok_laws_szIntS p0.pixels p1 x0_0 h0_0) (And.intro h0_1 True.intro)) (congrArg res_laws_szFrame (Option.some.inj hm)) (by kernel_rfl)
  · skip
    exact go_end [.res (res_laws_szIntS x0_0), .bit false] 1000 (And.intro (ok_laws_szIntS p0.pixels p1 x0_0 h0_0) (And.intro h0_1 True.intro)) (congrArg res_laws_szFrame (Option.some.inj hm)) (by kernel_rfl)

theorem ok_laws_szFrame (p0 : S_Frame) (p1 : Int) (r : Int) (hm : m_laws_szFrame p0 p1 = some r) : Runs ext tbl 180 (as_laws_szFrame p0 p1) (res_laws_szFrame r) :=
  runs_of (vf := vf_laws_szFrame) (by kernel_rfl) rfl (st := (enter vf_laws_szFrame (as_laws_szFrame p0 p1)).getD default) (by kernel_rfl) (go_on [] 1000 True.intro (ok_laws_szFrame_0 p0 p1 r hm) (by kernel_rfl))
def O_laws_szFrameS_17 (Q : VX → St → Prop) (e : (Int) ⊕ ((Int))) : Prop := match e with | .inl e => Q = Post vf_laws_szFrameS (res_laws_szFrameS e) | .inr e => EvU ext tbl (.c c_laws_szFrameS_35) K_laws_szFrameS_35 (s_laws_szFrameS_35 e) Q
theorem ok_laws_szFrameS_35 (i35_0 : Int) (r : Int) (hm : m_laws_szFrameS_35 i35_0 = some r) : EvU ext tbl (.c c_laws_szFrameS_35) K_laws_szFrameS_35 (s_laws_szFrameS_35 i35_0) (Post vf_laws_szFrameS (res_laws_szFrameS r)) := by
  exact go_end [] 1000 True.intro (congrArg res_laws_szFrameS (Option.some.inj hm)) (by kernel_rfl)

theorem ok_laws_szFrameS_17 (p0 : (List S_Frame)) (i17_0 : Int) (i17_1 : Int) (y : (Int × Int) ⊕ ((Int) ⊕ ((Int)))) (hm : m_laws_szFrameS_17 p0 i17_0 i17_1 = some y) (Q : VX → St → Prop)
    (hin : ∀ s, y = .inl s → EvU ext tbl (.c c_laws_szFrameS_17) K_laws_szFrameS_17 (s_laws_szFrameS_17 p0 s.1 s.2) Q) (hout : ∀ e, y = .inr e → O_laws_szFrameS_17 Q e) : EvU ext tbl (.c c_laws_szFrameS_17) K_laws_szFrameS_17 (s_laws_szFrameS_17 p0 i17_0 i17_1) Q := by
  obtain ⟨h17_0, hm⟩ | ⟨h17_0, hm⟩ := split_ite hm
  · skip
    obtain ⟨x17_1, h17_1, hm⟩ := bind_some hm
    obtain ⟨x17_2, h17_2, hm⟩ := bind_some hm
    obtain ⟨h17_3, hm⟩ | ⟨h17_3, hm⟩ := split_ite hm
    · skip
      have hQ : Q = Post vf_laws_szFrameS (res_laws_szFrameS (-1)) := hout (.inl (-1)) (Option.some.inj hm).symm
      subst hQ
      exact go_end [.num p0.length, .bit true, .row (rS_Frame x17_1), .res (res_laws_szFrame x17_2), .bit true] 1000 (And.intro (len_map rS_Frame (show p0.length = p0.length from rfl)) (And.intro h17_0 (And.intro (rd_nn h17_1) (And.intro (at_row rS_Frame (rd_get h17_1)) (And.intro (ok_laws_szFrame x17_1 i17_0 x17_2 h17_2) (And.intro h17_3 True.intro)))))) (rfl : res_laws_szFrameS (-1) = res_laws_szFrameS (-1)) (by kernel_rfl)
    · skip
      refine go_on (u' := .c c_laws_szFrameS_17) (K' := K_laws_szFrameS_17) (st' := s_laws_szFrameS_17 p0 x17_2 (w64 (i17_1 + 1))) [.num p0.length, .bit true, .row (rS_Frame x17_1), .res (res_laws_szFrame x17_2), .bit false] 1000 (And.intro (len_map rS_Frame (show p0.length = p0.length from rfl)) (And.intro h17_0 (And.intro (rd_nn h17_1) (And.intro (at_row rS_Frame (rd_get h17_1)) (And.intro (ok_laws_szFrame x17_1 i17_0 x17_2 h17_2) (And.intro h17_3 True.intro)))))) ?_ (by kernel_rfl)
      exact hin (x17_2, (w64 (i17_1 + 1))) (Option.some.inj hm).symm
  · skip
    refine go_on (u' := .c c_laws_szFrameS_35) (K' := K_laws_szFrameS_35) (st' := s_laws_szFrameS_35 i17_0) [.num p0.length, .bit false] 1000 (And.intro (len_map rS_Frame (show p0.length = p0.length from rfl)) (And.intro h17_0 True.intro)) ?_ (by kernel_rfl)
    exact hout (.inr i17_0) (Option.some.inj hm).symm

theorem ok_laws_szFrameS_0 (p0 : (List S_Frame)) (p1 : Int) (r : Int) (hm : m_laws_szFrameS_0 p0 p1 = some r) : EvU ext tbl (.c c_laws_szFrameS_0) K_laws_szFrameS_0 (s_laws_szFrameS_0 p0 p1) (Post vf_laws_szFrameS (res_laws_szFrameS r)) := by
  obtain ⟨h0_0, hm⟩ | ⟨h0_0, hm⟩ := split_ite hm
  · skip
    exact go_end [.num p0.length, .bit true] 1000 (And.intro (len_map rS_Frame (show p0.length = p0.length from rfl)) (And.intro h0_0 True.intro)) (congrArg res_laws_szFrameS (Option.some.inj hm)) (by kernel_rfl)
  · skip
    refine go_on (u' := .c c_laws_szFrameS_17) (K' := K_laws_szFrameS_17) (st' := s_laws_szFrameS_17 p0 (w64 (p1 - (p0.length : Int))) 0) [.num p0.length, .bit false] 1000 (And.intro (len_map rS_Frame (show p0.length = p0.length from rfl)) (And.intro h0_0 True.intro)) ?_ (by kernel_rfl)
    obtain ⟨e, he, hm⟩ := bind_some hm
    refine loop_rule (u := .c c_laws_szFrameS_17) (K := K_laws_szFrameS_17) (Q := (Post vf_laws_szFrameS (res_laws_szFrameS r))) (b := lp_laws_szFrameS_17 p0) (We := O_laws_szFrameS_17 (Post vf_laws_szFrameS (res_laws_szFrameS r))) (stJ := fun s => s_laws_szFrameS_17 p0 s.1 s.2) (s := ((w64 (p1 - (p0.length : Int))), 0)) (fun s y hb hin hout => ok_laws_szFrameS_17 p0 s.1 s.2 y hb (Post vf_laws_szFrameS (res_laws_szFrameS r)) hin hout) he ?_
    rcases e with e | e
    · skip
      exact congrArg (fun r => Post vf_laws_szFrameS (res_laws_szFrameS r)) (Option.some.inj hm).symm
    · skip
      show EvU ext tbl (.c c_laws_szFrameS_35) K_laws_szFrameS_35 (s_laws_szFrameS_35 e) _
      exact ok_laws_szFrameS_35 e r hm

theorem ok_laws_szFrameS (p0 : (List S_Frame)) (p1 : Int) (r : Int) (hm : m_laws_szFrameS p0 p1 = some r) : Runs ext tbl 123 (as_laws_szFrameS p0 p1) (res_laws_szFrameS r) :=
  runs_of (vf := vf_laws_szFrameS) (by kernel_rfl) rfl (st := (enter vf_laws_szFrameS (as_laws_szFrameS p0 p1)).getD default) (by kernel_rfl) (go_on [] 1000 True.intro (ok_laws_szFrameS_0 p0 p1 r hm) (by kernel_rfl))
theorem ok_laws_szMoving_0 (p0 : S_Moving) (p1 : Int) (r : Int) (hm : m_laws_szMoving_0 p0 p1 = some r) : EvU ext tbl (.c c_laws_szMoving_0) K_laws_szMoving_0 (s_laws_szMoving_0 p0 p1) (Post vf_laws_szMoving (res_laws_szMoving r)) := by
  obtain ⟨x0_0, h0_0, hm⟩ := bind_some hm
  obtain ⟨h0_1, hm⟩ | ⟨h0_1, hm⟩ := split_ite hm
  · skip
    exact go_end [.res (res_laws_szIntS x0_0), .bit true] 1000 (And.intro (ok_laws_szIntS p0.palette p1 x0_0 h0_0) (And.intro h0_1 True.intro)) (congrArg res_laws_szMoving (Option.some.inj hm)) (by kernel_rfl)
  · skip
    obtain ⟨x0_2, h0_2, hm⟩ := bind_some hm
    obtain ⟨h0_3, hm⟩ | ⟨h0_3, hm⟩ := split_ite hm
    · skip
      exact go_end [.res (res_laws_szIntS x0_0), .bit false, .res (res_laws_szFrameS x0_2), .bit true] 1000 (And.intro (ok_laws_szIntS p0.palette p1 x0_0 h0_0) (And.intro h0_1 (And.intro (ok_laws_szFrameS p0.frames x0_0 x0_2 h0_2) (And.intro h0_3 True.intro)))) (congrArg res_laws_szMoving (Option.some.inj hm)) (by kernel_rfl)
    · skip
      exact go_end [.res (res_laws_szIntS x0_0), .bit false, .res (res_laws_szFrameS x0_2), .bit false] 1000 (And.intro (ok_laws_szIntS p0.palette p1 x0_0 h0_0) (And.intro h0_1 (And.intro (ok_laws_szFrameS p0.frames x0_0 x0_2 h0_2) (And.intro h0_3 True.intro)))) (congrArg res_laws_szMoving (Option.some.inj hm)) (by kernel_rfl)

theorem ok_laws_szMoving (p0 : S_Moving) (p1 : Int) (r : Int) (hm : m_laws_szMoving p0 p1 = some r) : Runs ext tbl 36 (as_laws_szMoving p0 p1) (res_laws_szMoving r) :=
  runs_of (vf := vf_laws_szMoving) (by kernel_rfl) rfl (st := (enter vf_laws_szMoving (as_laws_szMoving p0 p1)).getD default) (by kernel_rfl) (go_on [] 1000 True.intro (ok_laws_szMoving_0 p0 p1 r hm) (by kernel_rfl))
def O_laws_toIntS_9 (Q : VX → St → Prop) (e : ((List Int))) : Prop := EvU ext tbl (.c c_laws_toIntS_19) K_laws_toIntS_19 (s_laws_toIntS_19 e) Q
theorem ok_laws_toIntS_19 (l19_0 : (List Int)) (r : (List Int)) (hm : m_laws_toIntS_19 l19_0 = some r) : EvU ext tbl (.c c_laws_toIntS_19) K_laws_toIntS_19 (s_laws_toIntS_19 l19_0) (Post vf_laws_toIntS (res_laws_toIntS r)) := by
  exact go_end [.rows (List.map (rI .i64) l19_0)] 1000 (And.intro (all_le0 (rI .i64) l19_0 rfl) (And.intro (all_t (rI .i64) l19_0 rfl) True.intro)) (congrArg res_laws_toIntS (Option.some.inj hm)) (by kernel_rfl)

theorem ok_laws_toIntS_9 (p0 : (List Int)) (i9_0 : Int) (l9_1 : (List Int)) (y : (Int × (List Int)) ⊕ (((List Int)))) (hm : m_laws_toIntS_9 p0 i9_0 l9_1 = some y) (Q : VX → St → Prop)
    (hin : ∀ s, y = .inl s → EvU ext tbl (.c c_laws_toIntS_9) K_laws_toIntS_9 (s_laws_toIntS_9 p0 s.1 s.2) Q) (hout : ∀ e, y = .inr e → O_laws_toIntS_9 Q e) : EvU ext tbl (.c c_laws_toIntS_9) K_laws_toIntS_9 (s_laws_toIntS_9 p0 i9_0 l9_1) Q := by
  obtain ⟨h9_0, hm⟩ | ⟨h9_0, hm⟩ := split_ite hm
  · skip
    obtain ⟨x9_1, h9_1, hm⟩ := bind_some hm
    obtain ⟨x9_2, h9_2, hm⟩ := bind_some hm
    refine go_on (u' := .c c_laws_toIntS_9) (K' := K_laws_toIntS_9) (st' := s_laws_toIntS_9 p0 (w64 (i9_0 + 1)) (l9_1.set (0 + Int.toNat i9_0) x9_1)) [.num p0.length, .bit true, .row ((rI .i64) x9_1), .rows (List.map (rI .i64) (l9_1.set (0 + Int.toNat i9_0) x9_1)), .num ((l9_1.set (0 + Int.toNat i9_0) x9_1).length)] 1000 (And.intro (len_map (rI .i64) (show p0.length = p0.length from rfl)) (And.intro h9_0 (And.intro (rd_nn h9_1) (And.intro (at_row (rI .i64) (rd_get h9_1)) (And.intro (rd_in rfl h9_2) (And.intro (put_ob (rI .i64) x9_1 0 (.lit (.int .i64 x9_1)) (rd_get0 h9_2) (by kernel_rfl) (by kernel_rfl)) (And.intro (lens l9_1.length ((l9_1.set (0 + Int.toNat i9_0) x9_1).length) (set_len rfl)) True.intro))))))) ?_ (by kernel_rfl)
    exact hin ((w64 (i9_0 + 1)), (l9_1.set (0 + Int.toNat i9_0) x9_1)) (Option.some.inj hm).symm
  · skip
    refine go_on (u' := .c c_laws_toIntS_19) (K' := K_laws_toIntS_19) (st' := s_laws_toIntS_19 l9_1) [.num p0.length, .bit false, .num l9_1.length] 1000 (And.intro (len_map (rI .i64) (show p0.length = p0.length from rfl)) (And.intro h9_0 (And.intro (lens l9_1.length l9_1.length rfl) True.intro))) ?_ (by kernel_rfl)
    exact hout l9_1 (Option.some.inj hm).symm

theorem ok_laws_toIntS_0 (p0 : (List Int)) (r : (List Int)) (hm : m_laws_toIntS_0 p0 = some r) : EvU ext tbl (.c c_laws_toIntS_0) K_laws_toIntS_0 (s_laws_toIntS_0 p0) (Post vf_laws_toIntS (res_laws_toIntS r)) := by
  obtain ⟨x0_0, h0_0, hm⟩ := bind_some hm
  refine go_on (u' := .c c_laws_toIntS_9) (K' := K_laws_toIntS_9) (st' := s_laws_toIntS_9 p0 0 (List.replicate (Int.toNat (p0.length : Int)) (0 : Int))) [.num p0.length, .rows (List.map (rI .i64) (List.replicate (Int.toNat (p0.length : Int)) (0 : Int))), .num (Int.toNat (p0.length : Int)), .num ((List.replicate (Int.toNat (p0.length : Int)) (0 : Int)).length)] 1000 (And.intro (len_map (rI .i64) (show p0.length = p0.length from rfl)) (And.intro (ck_p h0_0) (And.intro (rep_ob (rI .i64) (Int.toNat (p0.length : Int)) (0 : Int) [.lit (.int .i64 0)] (by kernel_rfl)) (And.intro (len_map (rI .i64) (show (Int.toNat (p0.length : Int)) = (List.replicate (Int.toNat (p0.length : Int)) (0 : Int)).length from (rep_len (Int.toNat (p0.length : Int)) (0 : Int)))) (And.intro (lens (Int.toNat (p0.length : Int)) ((List.replicate (Int.toNat (p0.length : Int)) (0 : Int)).length) (rep_len (Int.toNat (p0.length : Int)) (0 : Int))) True.intro))))) ?_ (by kernel_rfl)
  obtain ⟨e, he, hm⟩ := bind_some hm
  refine loop_rule (u := .c c_laws_toIntS_9) (K := K_laws_toIntS_9) (Q := (Post vf_laws_toIntS (res_laws_toIntS r))) (b := lp_laws_toIntS_9 p0) (We := O_laws_toIntS_9 (Post vf_laws_toIntS (res_laws_toIntS r))) (stJ := fun s => s_laws_toIntS_9 p0 s.1 s.2) (s := (0, (List.replicate (Int.toNat (p0.length : Int)) (0 : Int)))) (fun s y hb hin hout => ok_laws_toIntS_9 p0 s.1 s.2 y hb (Post vf_laws_toIntS (res_laws_toIntS r)) hin hout) he ?_
  show EvU ext tbl (.c c_laws_toIntS_19) K_laws_toIntS_19 (s_laws_toIntS_19 e) _
  exact ok_laws_toIntS_19 e r hm

theorem ok_laws_toIntS (p0 : (List Int)) (r : (List Int)) (hm : m_laws_toIntS p0 = some r) : Runs ext tbl 60 (as_laws_toIntS p0) (res_laws_toIntS r) :=
  runs_of (vf := vf_laws_toIntS) (by kernel_rfl) rfl (st := (enter vf_laws_toIntS (as_laws_toIntS p0)).getD default) (by kernel_rfl) (go_on [] 1000 True.intro (ok_laws_toIntS_0 p0 r hm) (by kernel_rfl))
theorem ok_laws_toFrame_0 (p0 : S_Frame) (r : S_Frame) (hm : m_laws_toFrame_0 p0 = some r) : EvU ext tbl (.c c_laws_toFrame_0) K_laws_toFrame_0 (s_laws_toFrame_0 p0) (Post vf_laws_toFrame (res_laws_toFrame r)) := by
  obtain ⟨x0_0, h0_0, hm⟩ := bind_some hm
  exact go_end [.res (res_laws_toIntS x0_0), .num x0_0.length, .rows (List.map (rI .i64) x0_0)] 1000 (And.intro (ok_laws_toIntS p0.pixels x0_0 h0_0) (And.intro (len_map (rI .i64) (show x0_0.length = x0_0.length from rfl)) (And.intro (all_le0 (rI .i64) x0_0 rfl) (And.intro (all_t (rI .i64) x0_0 rfl) True.intro)))) (congrArg res_laws_toFrame (Option.some.inj hm)) (by kernel_rfl)

theorem ok_laws_toFrame (p0 : S_Frame) (r : S_Frame) (hm : m_laws_toFrame p0 = some r) : Runs ext tbl 184 (as_laws_toFrame p0) (res_laws_toFrame r) :=
  runs_of (vf := vf_laws_toFrame) (by kernel_rfl) rfl (st := (enter vf_laws_toFrame (as_laws_toFrame p0)).getD default) (by kernel_rfl) (go_on [] 1000 True.intro (ok_laws_toFrame_0 p0 r hm) (by kernel_rfl))
def O_laws_toFrameS_9 (Q : VX → St → Prop) (e : ((List S_Frame))) : Prop := EvU ext tbl (.c c_laws_toFrameS_19) K_laws_toFrameS_19 (s_laws_toFrameS_19 e) Q
theorem ok_laws_toFrameS_19 (l19_0 : (List S_Frame)) (r : (List S_Frame)) (hm : m_laws_toFrameS_19 l19_0 = some r) : EvU ext tbl (.c c_laws_toFrameS_19) K_laws_toFrameS_19 (s_laws_toFrameS_19 l19_0) (Post vf_laws_toFrameS (res_laws_toFrameS r)) := by
  exact go_end [.rows (List.map rS_Frame l19_0)] 1000 (And.intro (all_le0 rS_Frame l19_0 rfl) (And.intro (all_t rS_Frame l19_0 rfl) True.intro)) (congrArg res_laws_toFrameS (Option.some.inj hm)) (by kernel_rfl)

theorem ok_laws_toFrameS_9 (p0 : (List S_Frame)) (i9_0 : Int) (l9_1 : (List S_Frame)) (y : (Int × (List S_Frame)) ⊕ (((List S_Frame)))) (hm : m_laws_toFrameS_9 p0 i9_0 l9_1 = some y) (Q : VX → St → Prop)
    (hin : ∀ s, y = .inl s → EvU ext tbl (.c c_laws_toFrameS_9) K_laws_toFrameS_9 (s_laws_toFrameS_9 p0 s.1 s.2) Q) (hout : ∀ e, y = .inr e → O_laws_toFrameS_9 Q e) : EvU ext tbl (.c c_laws_toFrameS_9) K_laws_toFrameS_9 (s_laws_toFrameS_9 p0 i9_0 l9_1) Q := by
  obtain ⟨h9_0, hm⟩ | ⟨h9_0, hm⟩ := split_ite hm
  · skip
    obtain ⟨x9_1, h9_1, hm⟩ := bind_some hm
    obtain ⟨x9_2, h9_2, hm⟩ := bind_some hm
    obtain ⟨x9_3, h9_3, hm⟩ := bind_some hm
    refine go_on (u' := .c c_laws_toFrameS_9) (K' := K_laws_toFrameS_9) (st' := s_laws_toFrameS_9 p0 (w64 (i9_0 + 1)) (l9_1.set (0 + Int.toNat i9_0) x9_2)) [.num p0.length, .bit true, .row (rS_Frame x9_1), .res (res_laws_toFrame x9_2), .num x9_2.pixels.length, .rows (List.map rS_Frame (l9_1.set (0 + Int.toNat i9_0) (S_Frame.mk x9_2.x x9_3.y x9_3.width x9_3.height x9_3.delay x9_3.dispose x9_3.hollow x9_3.pixels))), .rows (List.map rS_Frame (l9_1.set (0 + Int.toNat i9_0) (S_Frame.mk x9_2.x x9_2.y x9_3.width x9_3.height x9_3.delay x9_3.dispose x9_3.hollow x9_3.pixels))), .rows (List.map rS_Frame (l9_1.set (0 + Int.toNat i9_0) (S_Frame.mk x9_2.x x9_2.y x9_2.width x9_3.height x9_3.delay x9_3.dispose x9_3.hollow x9_3.pixels))), .rows (List.map rS_Frame (l9_1.set (0 + Int.toNat i9_0) (S_Frame.mk x9_2.x x9_2.y x9_2.width x9_2.height x9_3.delay x9_3.dispose x9_3.hollow x9_3.pixels))), .rows (List.map rS_Frame (l9_1.set (0 + Int.toNat i9_0) (S_Frame.mk x9_2.x x9_2.y x9_2.width x9_2.height x9_2.delay x9_3.dispose x9_3.hollow x9_3.pixels))), .rows (List.map rS_Frame (l9_1.set (0 + Int.toNat i9_0) (S_Frame.mk x9_2.x x9_2.y x9_2.width x9_2.height x9_2.delay x9_2.dispose x9_3.hollow x9_3.pixels))), .rows (List.map rS_Frame (l9_1.set (0 + Int.toNat i9_0) (S_Frame.mk x9_2.x x9_2.y x9_2.width x9_2.height x9_2.delay x9_2.dispose x9_2.hollow x9_3.pixels))), .rows (List.map (rI .i64) x9_2.pixels), .rows (List.map rS_Frame (l9_1.set (0 + Int.toNat i9_0) x9_2)), .num ((l9_1.set (0 + Int.toNat i9_0) x9_2).length)] 1000 (And.intro (len_map rS_Frame (show p0.length = p0.length from rfl)) (And.intro h9_0 (And.intro (rd_nn h9_1) (And.intro (at_row rS_Frame (rd_get h9_1)) (And.intro (ok_laws_toFrame x9_1 x9_2 h9_2) (And.intro (len_map (rI .i64) (show x9_2.pixels.length = x9_2.pixels.length from rfl)) (And.intro (rd_in rfl h9_3) (And.intro (put_ob rS_Frame (S_Frame.mk x9_2.x x9_3.y x9_3.width x9_3.height x9_3.delay x9_3.dispose x9_3.hollow x9_3.pixels) 0 (.lit (.int .i64 x9_2.x)) (rd_get0 h9_3) (by kernel_rfl) (by kernel_rfl)) (And.intro (put_ob2 rS_Frame (S_Frame.mk x9_2.x x9_2.y x9_3.width x9_3.height x9_3.delay x9_3.dispose x9_3.hollow x9_3.pixels) 1 (.lit (.int .i64 x9_2.y)) (set_at (S_Frame.mk x9_2.x x9_3.y x9_3.width x9_3.height x9_3.delay x9_3.dispose x9_3.hollow x9_3.pixels) (rd_get0 h9_3)) (by kernel_rfl) (by kernel_rfl)) (And.intro (put_ob2 rS_Frame (S_Frame.mk x9_2.x x9_2.y x9_2.width x9_3.height x9_3.delay x9_3.dispose x9_3.hollow x9_3.pixels) 2 (.lit (.int .i64 x9_2.width)) (set_at2 (S_Frame.mk x9_2.x x9_2.y x9_3.width x9_3.height x9_3.delay x9_3.dispose x9_3.hollow x9_3.pixels) (set_at (S_Frame.mk x9_2.x x9_3.y x9_3.width x9_3.height x9_3.delay x9_3.dispose x9_3.hollow x9_3.pixels) (rd_get0 h9_3))) (by kernel_rfl) (by kernel_rfl)) (And.intro (put_ob2 rS_Frame (S_Frame.mk x9_2.x x9_2.y x9_2.width x9_2.height x9_3.delay x9_3.dispose x9_3.hollow x9_3.pixels) 3 (.lit (.int .i64 x9_2.height)) (set_at2 (S_Frame.mk x9_2.x x9_2.y x9_2.width x9_3.height x9_3.delay x9_3.dispose x9_3.hollow x9_3.pixels) (set_at2 (S_Frame.mk x9_2.x x9_2.y x9_3.width x9_3.height x9_3.delay x9_3.dispose x9_3.hollow x9_3.pixels) (set_at (S_Frame.mk x9_2.x x9_3.y x9_3.width x9_3.height x9_3.delay x9_3.dispose x9_3.hollow x9_3.pixels) (rd_get0 h9_3)))) (by kernel_rfl) (by kernel_rfl)) (And.intro (put_ob2 rS_Frame (S_Frame.mk x9_2.x x9_2.y x9_2.width x9_2.height x9_2.delay x9_3.dispose x9_3.hollow x9_3.pixels) 4 (.lit (.int .i64 x9_2.delay)) (set_at2 (S_Frame.mk x9_2.x x9_2.y x9_2.width x9_2.height x9_3.delay x9_3.dispose x9_3.hollow x9_3.pixels) (set_at2 (S_Frame.mk x9_2.x x9_2.y x9_2.width x9_3.height x9_3.delay x9_3.dispose x9_3.hollow x9_3.pixels) (set_at2 (S_Frame.mk x9_2.x x9_2.y x9_3.width x9_3.height x9_3.delay x9_3.dispose x9_3.hollow x9_3.pixels) (set_at (S_Frame.mk x9_2.x x9_3.y x9_3.width x9_3.height x9_3.delay x9_3.dispose x9_3.hollow x9_3.pixels) (rd_get0 h9_3))))) (by kernel_rfl) (by kernel_rfl)) (And.intro (put_ob2 rS_Frame (S_Frame.mk x9_2.x x9_2.y x9_2.width x9_2.height x9_2.delay x9_2.dispose x9_3.hollow x9_3.pixels) 5 (.lit (.int .i64 x9_2.dispose)) (set_at2 (S_Frame.mk x9_2.x x9_2.y x9_2.width x9_2.height x9_2.delay x9_3.dispose x9_3.hollow x9_3.pixels) (set_at2 (S_Frame.mk x9_2.x x9_2.y x9_2.width x9_2.height x9_3.delay x9_3.dispose x9_3.hollow x9_3.pixels) (set_at2 (S_Frame.mk x9_2.x x9_2.y x9_2.width x9_3.height x9_3.delay x9_3.dispose x9_3.hollow x9_3.pixels) (set_at2 (S_Frame.mk x9_2.x x9_2.y x9_3.width x9_3.height x9_3.delay x9_3.dispose x9_3.hollow x9_3.pixels) (set_at (S_Frame.mk x9_2.x x9_3.y x9_3.width x9_3.height x9_3.delay x9_3.dispose x9_3.hollow x9_3.pixels) (rd_get0 h9_3)))))) (by kernel_rfl) (by kernel_rfl)) (And.intro (put_ob2 rS_Frame (S_Frame.mk x9_2.x x9_2.y x9_2.width x9_2.height x9_2.delay x9_2.dispose x9_2.hollow x9_3.pixels) 6 (.lit (.int .i64 x9_2.hollow)) (set_at2 (S_Frame.mk x9_2.x x9_2.y x9_2.width x9_2.height x9_2.delay x9_2.dispose x9_3.hollow x9_3.pixels) (set_at2 (S_Frame.mk x9_2.x x9_2.y x9_2.width x9_2.height x9_2.delay x9_3.dispose x9_3.hollow x9_3.pixels) (set_at2 (S_Frame.mk x9_2.x x9_2.y x9_2.width x9_2.height x9_3.delay x9_3.dispose x9_3.hollow x9_3.pixels) (set_at2 (S_Frame.mk x9_2.x x9_2.y x9_2.width x9_3.height x9_3.delay x9_3.dispose x9_3.hollow x9_3.pixels) (set_at2 (S_Frame.mk x9_2.x x9_2.y x9_3.width x9_3.height x9_3.delay x9_3.dispose x9_3.hollow x9_3.pixels) (set_at (S_Frame.mk x9_2.x x9_3.y x9_3.width x9_3.height x9_3.delay x9_3.dispose x9_3.hollow x9_3.pixels) (rd_get0 h9_3))))))) (by kernel_rfl) (by kernel_rfl)) (And.intro (all_le0 (rI .i64) x9_2.pixels rfl) (And.intro (all_t (rI .i64) x9_2.pixels rfl) (And.intro (put_ob2 rS_Frame x9_2 7 (.sl (x9_2.pixels.map (rI .i64))) (set_at2 (S_Frame.mk x9_2.x x9_2.y x9_2.width x9_2.height x9_2.delay x9_2.dispose x9_2.hollow x9_3.pixels) (set_at2 (S_Frame.mk x9_2.x x9_2.y x9_2.width x9_2.height x9_2.delay x9_2.dispose x9_3.hollow x9_3.pixels) (set_at2 (S_Frame.mk x9_2.x x9_2.y x9_2.width x9_2.height x9_2.delay x9_3.dispose x9_3.hollow x9_3.pixels) (set_at2 (S_Frame.mk x9_2.x x9_2.y x9_2.width x9_2.height x9_3.delay x9_3.dispose x9_3.hollow x9_3.pixels) (set_at2 (S_Frame.mk x9_2.x x9_2.y x9_2.width x9_3.height x9_3.delay x9_3.dispose x9_3.hollow x9_3.pixels) (set_at2 (S_Frame.mk x9_2.x x9_2.y x9_3.width x9_3.height x9_3.delay x9_3.dispose x9_3.hollow x9_3.pixels) (set_at (S_Frame.mk x9_2.x x9_3.y x9_3.width x9_3.height x9_3.delay x9_3.dispose x9_3.hollow x9_3.pixels) (rd_get0 h9_3)))))))) (by kernel_rfl) (by kernel_rfl)) (And.intro (lens l9_1.length ((l9_1.set (0 + Int.toNat i9_0) x9_2).length) (set_len rfl)) True.intro)))))))))))))))))) ?_ (by kernel_rfl)
    exact hin ((w64 (i9_0 + 1)), (l9_1.set (0 + Int.toNat i9_0) x9_2)) (Option.some.inj hm).symm
  · skip
    refine go_on (u' := .c c_laws_toFrameS_19) (K' := K_laws_toFrameS_19) (st' := s_laws_toFrameS_19 l9_1) [.num p0.length, .bit false, .num l9_1.length] 1000 (And.intro (len_map rS_Frame (show p0.length = p0.length from rfl)) (And.intro h9_0 (And.intro (lens l9_1.length l9_1.length rfl) True.intro))) ?_ (by kernel_rfl)
    exact hout l9_1 (Option.some.inj hm).symm

theorem ok_laws_toFrameS_0 (p0 : (List S_Frame)) (r : (List S_Frame)) (hm : m_laws_toFrameS_0 p0 = some r) : EvU ext tbl (.c c_laws_toFrameS_0) K_laws_toFrameS_0 (s_laws_toFrameS_0 p0) (Post vf_laws_toFrameS (res_laws_toFrameS r)) := by
  obtain ⟨x0_0, h0_0, hm⟩ := bind_some hm
  refine go_on (u' := .c c_laws_toFrameS_9) (K' := K_laws_toFrameS_9) (st' := s_laws_toFrameS_9 p0 0 (List.replicate (Int.toNat (p0.length : Int)) ((S_Frame.mk 0 0 0 0 0 0 0 []) : S_Frame))) [.num p0.length, .rows (List.map rS_Frame (List.replicate (Int.toNat (p0.length : Int)) ((S_Frame.mk 0 0 0 0 0 0 0 []) : S_Frame))), .num (Int.toNat (p0.length : Int)), .num ((List.replicate (Int.toNat (p0.length : Int)) ((S_Frame.mk 0 0 0 0 0 0 0 []) : S_Frame)).length)] 1000 (And.intro (len_map rS_Frame (show p0.length = p0.length from rfl)) (And.intro (ck_p h0_0) (And.intro (rep_ob rS_Frame (Int.toNat (p0.length : Int)) ((S_Frame.mk 0 0 0 0 0 0 0 []) : S_Frame) [.lit (.int .i64 0), .lit (.int .i64 0), .lit (.int .i64 0), .lit (.int .i64 0), .lit (.int .i64 0), .lit (.int .i64 0), .lit (.int .i64 0), .sl []] (by kernel_rfl)) (And.intro (len_map rS_Frame (show (Int.toNat (p0.length : Int)) = (List.replicate (Int.toNat (p0.length : Int)) ((S_Frame.mk 0 0 0 0 0 0 0 []) : S_Frame)).length from (rep_len (Int.toNat (p0.length : Int)) ((S_Frame.mk 0 0 0 0 0 0 0 []) : S_Frame)))) (And.intro (lens (Int.toNat (p0.length : Int)) ((List.replicate (Int.toNat (p0.length : Int)) ((S_Frame.mk 0 0 0 0 0 0 0 []) : S_Frame)).length) (rep_len (Int.toNat (p0.length : Int)) ((S_Frame.mk 0 0 0 0 0 0 0 []) : S_Frame))) True.intro))))) ?_ (by kernel_rfl)
  obtain ⟨e, he, hm⟩ := bind_some hm
  refine loop_rule (u := .c c_laws_toFrameS_9) (K := K_laws_toFrameS_9) (Q := (Post vf_laws_toFrameS (res_laws_toFrameS r))) (b := lp_laws_toFrameS_9 p0) (We := O_laws_toFrameS_9 (Post vf_laws_toFrameS (res_laws_toFrameS r))) (stJ := fun s => s_laws_toFrameS_9 p0 s.1 s.2) (s := (0, (List.replicate (Int.toNat (p0.length : Int)) ((S_Frame.mk 0 0 0 0 0 0 0 []) : S_Frame)))) (fun s y hb hin hout => ok_laws_toFrameS_9 p0 s.1 s.2 y hb (Post vf_laws_toFrameS (res_laws_toFrameS r)) hin hout) he ?_
  show EvU ext tbl (.c c_laws_toFrameS_19) K_laws_toFrameS_19 (s_laws_toFrameS_19 e) _
  exact ok_laws_toFrameS_19 e r hm

theorem ok_laws_toFrameS (p0 : (List S_Frame)) (r : (List S_Frame)) (hm : m_laws_toFrameS p0 = some r) : Runs ext tbl 125 (as_laws_toFrameS p0) (res_laws_toFrameS r) :=
  runs_of (vf := vf_laws_toFrameS) (by kernel_rfl) rfl (st := (enter vf_laws_toFrameS (as_laws_toFrameS p0)).getD default) (by kernel_rfl) (go_on [] 1000 True.intro (ok_laws_toFrameS_0 p0 r hm) (by kernel_rfl))
theorem ok_laws_toMoving_0 (p0 : S_Moving) (r : S_Moving) (hm : m_laws_toMoving_0 p0 = some r) : EvU ext tbl (.c c_laws_toMoving_0) K_laws_toMoving_0 (s_laws_toMoving_0 p0) (Post vf_laws_toMoving (res_laws_toMoving r)) := by
  obtain ⟨x0_0, h0_0, hm⟩ := bind_some hm
  obtain ⟨x0_1, h0_1, hm⟩ := bind_some hm
  exact go_end [.res (res_laws_toIntS x0_0), .num x0_0.length, .res (res_laws_toFrameS x0_1), .num x0_1.length, .rows (List.map (rI .i64) x0_0), .rows (List.map rS_Frame x0_1)] 1000 (And.intro (ok_laws_toIntS p0.palette x0_0 h0_0) (And.intro (len_map (rI .i64) (show x0_0.length = x0_0.length from rfl)) (And.intro (ok_laws_toFrameS p0.frames x0_1 h0_1) (And.intro (len_map rS_Frame (show x0_1.length = x0_1.length from rfl)) (And.intro (all_le0 (rI .i64) x0_0 rfl) (And.intro (all_t (rI .i64) x0_0 rfl) (And.intro (all_le0 rS_Frame x0_1 rfl) (And.intro (all_t rS_Frame x0_1 rfl) True.intro)))))))) (congrArg res_laws_toMoving (Option.some.inj hm)) (by kernel_rfl)

theorem ok_laws_toMoving (p0 : S_Moving) (r : S_Moving) (hm : m_laws_toMoving p0 = some r) : Runs ext tbl 38 (as_laws_toMoving p0) (res_laws_toMoving r) :=
  runs_of (vf := vf_laws_toMoving) (by kernel_rfl) rfl (st := (enter vf_laws_toMoving (as_laws_toMoving p0)).getD default) (by kernel_rfl) (go_on [] 1000 True.intro (ok_laws_toMoving_0 p0 r hm) (by kernel_rfl))
theorem ok_spec_l4Sides_0 (p0 : Int) (p1 : Int) (r : Bool) (hm : m_spec_l4Sides_0 p0 p1 = some r) : EvU ext tbl (.c c_spec_l4Sides_0) K_spec_l4Sides_0 (s_spec_l4Sides_0 p0 p1) (Post vf_spec_l4Sides (res_spec_l4Sides r)) := by
  obtain ⟨h0_0, hm⟩ | ⟨h0_0, hm⟩ := split_ite hm
  · skip
    obtain ⟨h0_1, hm⟩ | ⟨h0_1, hm⟩ := split_ite hm
    · skip
      obtain ⟨h0_2, hm⟩ | ⟨h0_2, hm⟩ := split_ite hm
      · skip
        exact go_end [.bit true, .bit true, .bit true, .bit true, .bit true, .bit true, .bit true, .bit true, .bit true] 1000 (And.intro h0_0 (And.intro h0_0 (And.intro h0_0 (And.intro h0_1 (And.intro h0_1 (And.intro h0_1 (And.intro h0_2 (And.intro h0_2 (And.intro h0_2 True.intro))))))))) (congrArg res_spec_l4Sides (Option.some.inj hm)) (by kernel_rfl)
      · skip
        exact go_end [.bit true, .bit true, .bit true, .bit true, .bit true, .bit true, .bit false, .bit false, .bit false] 1000 (And.intro h0_0 (And.intro h0_0 (And.intro h0_0 (And.intro h0_1 (And.intro h0_1 (And.intro h0_1 (And.intro h0_2 (And.intro h0_2 (And.intro h0_2 True.intro))))))))) (congrArg res_spec_l4Sides (Option.some.inj hm)) (by kernel_rfl)
    · skip
      exact go_end [.bit true, .bit true, .bit true, .bit false, .bit false, .bit false, .bit false, .bit false, .bit false] 1000 (And.intro h0_0 (And.intro h0_0 (And.intro h0_0 (And.intro h0_1 (And.intro h0_1 (And.intro h0_1 (And.intro (Eq.refl false) (And.intro (Eq.refl false) (And.intro (Eq.refl false) True.intro))))))))) (congrArg res_spec_l4Sides (Option.some.inj hm)) (by kernel_rfl)
  · skip
    exact go_end [.bit false, .bit false, .bit false, .bit false, .bit false, .bit false, .bit false, .bit false, .bit false] 1000 (And.intro h0_0 (And.intro h0_0 (And.intro h0_0 (And.intro (Eq.refl false) (And.intro (Eq.refl false) (And.intro (Eq.refl false) (And.intro (Eq.refl false) (And.intro (Eq.refl false) (And.intro (Eq.refl false) True.intro))))))))) (congrArg res_spec_l4Sides (Option.some.inj hm)) (by kernel_rfl)

theorem ok_spec_l4Sides (p0 : Int) (p1 : Int) (r : Bool) (hm : m_spec_l4Sides p0 p1 = some r) : Runs ext tbl 163 (as_spec_l4Sides p0 p1) (res_spec_l4Sides r) :=
  runs_of (vf := vf_spec_l4Sides) (by kernel_rfl) rfl (st := (enter vf_spec_l4Sides (as_spec_l4Sides p0 p1)).getD default) (by kernel_rfl) (go_on [] 1000 True.intro (ok_spec_l4Sides_0 p0 p1 r hm) (by kernel_rfl))
def O_spec_l6Log_7 (Q : VX → St → Prop) (e : (Int) ⊕ ((Unit))) : Prop := match e with | .inl e => Q = Post vf_spec_l6Log (res_spec_l6Log e) | .inr e => EvU ext tbl (.c c_spec_l6Log_23) K_spec_l6Log_23 (s_spec_l6Log_23) Q
theorem ok_spec_l6Log_23 (r : Int) (hm : m_spec_l6Log_23 = some r) : EvU ext tbl (.c c_spec_l6Log_23) K_spec_l6Log_23 (s_spec_l6Log_23) (Post vf_spec_l6Log (res_spec_l6Log r)) := by
  exact go_end [] 1000 True.intro (congrArg res_spec_l6Log (Option.some.inj hm)) (by kernel_rfl)

theorem ok_spec_l6Log_7 (p0 : Int) (i7_0 : Int) (y : (Int) ⊕ ((Int) ⊕ ((Unit)))) (hm : m_spec_l6Log_7 p0 i7_0 = some y) (Q : VX → St → Prop)
    (hin : ∀ s, y = .inl s → EvU ext tbl (.c c_spec_l6Log_7) K_spec_l6Log_7 (s_spec_l6Log_7 p0 s) Q) (hout : ∀ e, y = .inr e → O_spec_l6Log_7 Q e) : EvU ext tbl (.c c_spec_l6Log_7) K_spec_l6Log_7 (s_spec_l6Log_7 p0 i7_0) Q := by
  obtain ⟨h7_0, hm⟩ | ⟨h7_0, hm⟩ := split_ite hm
  · skip
    obtain ⟨x7_1, h7_1, hm⟩ := bind_some hm
    obtain ⟨h7_2, hm⟩ | ⟨h7_2, hm⟩ := split_ite hm
    · skip
      have hQ : Q = Post vf_spec_l6Log (res_spec_l6Log i7_0) := hout (.inl i7_0) (Option.some.inj hm).symm
      subst hQ
      exact go_end [.bit true, .bit true] 1000 (And.intro h7_0 (And.intro (ck_p h7_1) (And.intro h7_2 True.intro))) (rfl : res_spec_l6Log i7_0 = res_spec_l6Log i7_0) (by kernel_rfl)
    · skip
      refine go_on (u' := .c c_spec_l6Log_7) (K' := K_spec_l6Log_7) (st' := s_spec_l6Log_7 p0 (w64 (i7_0 + 1))) [.bit true, .bit false] 1000 (And.intro h7_0 (And.intro (ck_p h7_1) (And.intro h7_2 True.intro))) ?_ (by kernel_rfl)
      exact hin (w64 (i7_0 + 1)) (Option.some.inj hm).symm
  · skip
    refine go_on (u' := .c c_spec_l6Log_23) (K' := K_spec_l6Log_23) (st' := s_spec_l6Log_23) [.bit false] 1000 (And.intro h7_0 True.intro) ?_ (by kernel_rfl)
    exact hout (.inr ()) (Option.some.inj hm).symm

theorem ok_spec_l6Log_0 (p0 : Int) (r : Int) (hm : m_spec_l6Log_0 p0 = some r) : EvU ext tbl (.c c_spec_l6Log_0) K_spec_l6Log_0 (s_spec_l6Log_0 p0) (Post vf_spec_l6Log (res_spec_l6Log r)) := by
  refine go_on (u' := .c c_spec_l6Log_7) (K' := K_spec_l6Log_7) (st' := s_spec_l6Log_7 p0 1) [] 1000 True.intro ?_ (by kernel_rfl)
  obtain ⟨e, he, hm⟩ := bind_some hm
  refine loop_rule (u := .c c_spec_l6Log_7) (K := K_spec_l6Log_7) (Q := (Post vf_spec_l6Log (res_spec_l6Log r))) (b := lp_spec_l6Log_7 p0) (We := O_spec_l6Log_7 (Post vf_spec_l6Log (res_spec_l6Log r))) (stJ := fun s => s_spec_l6Log_7 p0 s) (s := 1) (fun s y hb hin hout => ok_spec_l6Log_7 p0 s y hb (Post vf_spec_l6Log (res_spec_l6Log r)) hin hout) he ?_
  rcases e with e | e
  · skip
    exact congrArg (fun r => Post vf_spec_l6Log (res_spec_l6Log r)) (Option.some.inj hm).symm
  · skip
    show EvU ext tbl (.c c_spec_l6Log_23) K_spec_l6Log_23 (s_spec_l6Log_23) _
    exact ok_spec_l6Log_23 r hm

theorem ok_spec_l6Log (p0 : Int) (r : Int) (hm : m_spec_l6Log p0 = some r) : Runs ext tbl 217 (as_spec_l6Log p0) (res_spec_l6Log r) :=
  runs_of (vf := vf_spec_l6Log) (by kernel_rfl) rfl (st := (enter vf_spec_l6Log (as_spec_l6Log p0)).getD default) (by kernel_rfl) (go_on [] 1000 True.intro (ok_spec_l6Log_0 p0 r hm) (by kernel_rfl))
def O_spec_l5Colours_7 (p0 : (List Int)) (Q : VX → St → Prop) (e : (Bool) ⊕ ((Unit))) : Prop := match e with | .inl e => Q = Post vf_spec_l5Colours (res_spec_l5Colours e) | .inr e => EvU ext tbl (.c c_spec_l5Colours_25) K_spec_l5Colours_25 (s_spec_l5Colours_25 p0) Q
theorem ok_spec_l5Colours_25 (p0 : (List Int)) (r : Bool) (hm : m_spec_l5Colours_25 p0 = some r) : EvU ext tbl (.c c_spec_l5Colours_25) K_spec_l5Colours_25 (s_spec_l5Colours_25 p0) (Post vf_spec_l5Colours (res_spec_l5Colours r)) := by
  exact go_end [.num p0.length] 1000 (And.intro (len_map (rI .i64) (show p0.length = p0.length from rfl)) True.intro) (congrArg res_spec_l5Colours (Option.some.inj hm)) (by kernel_rfl)

theorem ok_spec_l5Colours_7 (p0 : (List Int)) (i7_0 : Int) (y : (Int) ⊕ ((Bool) ⊕ ((Unit)))) (hm : m_spec_l5Colours_7 p0 i7_0 = some y) (Q : VX → St → Prop)
    (hin : ∀ s, y = .inl s → EvU ext tbl (.c c_spec_l5Colours_7) K_spec_l5Colours_7 (s_spec_l5Colours_7 p0 s) Q) (hout : ∀ e, y = .inr e → O_spec_l5Colours_7 p0 Q e) : EvU ext tbl (.c c_spec_l5Colours_7) K_spec_l5Colours_7 (s_spec_l5Colours_7 p0 i7_0) Q := by
  obtain ⟨h7_0, hm⟩ | ⟨h7_0, hm⟩ := split_ite hm
  · skip
    obtain ⟨x7_1, h7_1, hm⟩ := bind_some hm
    obtain ⟨h7_2, hm⟩ | ⟨h7_2, hm⟩ := split_ite hm
    · skip
      have hQ : Q = Post vf_spec_l5Colours (res_spec_l5Colours false) := hout (.inl false) (Option.some.inj hm).symm
      subst hQ
      exact go_end [.bit true, .row ((rI .i64) x7_1), .bit true, .bit true, .bit true, .bit true] 1000 (And.intro h7_0 (And.intro (rd_nn h7_1) (And.intro (at_row (rI .i64) (rd_get h7_1)) (And.intro h7_2 (And.intro h7_2 (And.intro h7_2 (And.intro (Eq.refl true) True.intro))))))) (rfl : res_spec_l5Colours false = res_spec_l5Colours false) (by kernel_rfl)
    · skip
      obtain ⟨h7_3, hm⟩ | ⟨h7_3, hm⟩ := split_ite hm
      · skip
        have hQ : Q = Post vf_spec_l5Colours (res_spec_l5Colours false) := hout (.inl false) (Option.some.inj hm).symm
        subst hQ
        exact go_end [.bit true, .row ((rI .i64) x7_1), .bit false, .bit false, .bit false, .bit true] 1000 (And.intro h7_0 (And.intro (rd_nn h7_1) (And.intro (at_row (rI .i64) (rd_get h7_1)) (And.intro h7_2 (And.intro h7_2 (And.intro h7_2 (And.intro h7_3 True.intro))))))) (rfl : res_spec_l5Colours false = res_spec_l5Colours false) (by kernel_rfl)
      · skip
        refine go_on (u' := .c c_spec_l5Colours_7) (K' := K_spec_l5Colours_7) (st' := s_spec_l5Colours_7 p0 (w64 (i7_0 + 1))) [.bit true, .row ((rI .i64) x7_1), .bit false, .bit false, .bit false, .bit false] 1000 (And.intro h7_0 (And.intro (rd_nn h7_1) (And.intro (at_row (rI .i64) (rd_get h7_1)) (And.intro h7_2 (And.intro h7_2 (And.intro h7_2 (And.intro h7_3 True.intro))))))) ?_ (by kernel_rfl)
        exact hin (w64 (i7_0 + 1)) (Option.some.inj hm).symm
  · skip
    refine go_on (u' := .c c_spec_l5Colours_25) (K' := K_spec_l5Colours_25) (st' := s_spec_l5Colours_25 p0) [.bit false] 1000 (And.intro h7_0 True.intro) ?_ (by kernel_rfl)
    exact hout (.inr ()) (Option.some.inj hm).symm

theorem ok_spec_l5Colours_0 (p0 : (List Int)) (r : Bool) (hm : m_spec_l5Colours_0 p0 = some r) : EvU ext tbl (.c c_spec_l5Colours_0) K_spec_l5Colours_0 (s_spec_l5Colours_0 p0) (Post vf_spec_l5Colours (res_spec_l5Colours r)) := by
  refine go_on (u' := .c c_spec_l5Colours_7) (K' := K_spec_l5Colours_7) (st' := s_spec_l5Colours_7 p0 0) [.num p0.length] 1000 (And.intro (len_map (rI .i64) (show p0.length = p0.length from rfl)) True.intro) ?_ (by kernel_rfl)
  obtain ⟨e, he, hm⟩ := bind_some hm
  refine loop_rule (u := .c c_spec_l5Colours_7) (K := K_spec_l5Colours_7) (Q := (Post vf_spec_l5Colours (res_spec_l5Colours r))) (b := lp_spec_l5Colours_7 p0) (We := O_spec_l5Colours_7 p0 (Post vf_spec_l5Colours (res_spec_l5Colours r))) (stJ := fun s => s_spec_l5Colours_7 p0 s) (s := 0) (fun s y hb hin hout => ok_spec_l5Colours_7 p0 s y hb (Post vf_spec_l5Colours (res_spec_l5Colours r)) hin hout) he ?_
  rcases e with e | e
  · skip
    exact congrArg (fun r => Post vf_spec_l5Colours (res_spec_l5Colours r)) (Option.some.inj hm).symm
  · skip
    show EvU ext tbl (.c c_spec_l5Colours_25) K_spec_l5Colours_25 (s_spec_l5Colours_25 p0) _
    exact ok_spec_l5Colours_25 p0 r hm

theorem ok_spec_l5Colours (p0 : (List Int)) (r : Bool) (hm : m_spec_l5Colours p0 = some r) : Runs ext tbl 98 (as_spec_l5Colours p0) (res_spec_l5Colours r) :=
  runs_of (vf := vf_spec_l5Colours) (by kernel_rfl) rfl (st := (enter vf_spec_l5Colours (as_spec_l5Colours p0)).getD default) (by kernel_rfl) (go_on [] 1000 True.intro (ok_spec_l5Colours_0 p0 r hm) (by kernel_rfl))
theorem ok_spec_l6Head_0 (p0 : S_Moving) (r : Bool) (hm : m_spec_l6Head_0 p0 = some r) : EvU ext tbl (.c c_spec_l6Head_0) K_spec_l6Head_0 (s_spec_l6Head_0 p0) (Post vf_spec_l6Head (res_spec_l6Head r)) := by
  obtain ⟨x0_0, h0_0, hm⟩ := bind_some hm
  obtain ⟨h0_1, hm⟩ | ⟨h0_1, hm⟩ := split_ite hm
  · skip
    obtain ⟨h0_2, hm⟩ | ⟨h0_2, hm⟩ := split_ite hm
    · skip
      obtain ⟨x0_3, h0_3, hm⟩ := bind_some hm
      obtain ⟨h0_4, hm⟩ | ⟨h0_4, hm⟩ := split_ite hm
      · skip
        obtain ⟨x0_5, h0_5, hm⟩ := bind_some hm
        obtain ⟨h0_6, hm⟩ | ⟨h0_6, hm⟩ := split_ite hm
        · skip
          obtain ⟨h0_7, hm⟩ | ⟨h0_7, hm⟩ := split_ite hm
          · skip
            exact go_end [.res (res_spec_l4Sides x0_0), .bit true, .bit true, .bit true, .bit true, .bit true, .bit true, .bit true, .bit true, .bit true, .bit true, .num p0.palette.length, .bit true, .res (res_spec_l6Log x0_3), .bit true, .bit true, .bit true, .bit true, .bit true, .res (res_spec_l5Colours x0_5), .bit true, .bit true, .bit true, .bit true, .bit true, .bit true, .bit true, .bit true, .bit true] 1000 (And.intro (ok_spec_l4Sides p0.width p0.height x0_0 h0_0) (And.intro h0_1 (And.intro h0_1 (And.intro h0_1 (And.intro h0_1 (And.intro h0_1 (And.intro h0_1 (And.intro h0_1 (And.intro h0_2 (And.intro h0_2 (And.intro h0_2 (And.intro (len_map (rI .i64) (show p0.palette.length = p0.palette.length from rfl)) (And.intro h0_2 (And.intro (ok_spec_l6Log (p0.palette.length : Int) x0_3 h0_3) (And.intro h0_2 (And.intro h0_2 (And.intro h0_4 (And.intro h0_4 (And.intro h0_4 (And.intro (ok_spec_l5Colours p0.palette x0_5 h0_5) (And.intro h0_4 (And.intro h0_6 (And.intro h0_6 (And.intro h0_6 (And.intro h0_6 (And.intro h0_7 (And.intro h0_7 (And.intro h0_7 (And.intro h0_7 True.intro))))))))))))))))))))))))))))) (congrArg res_spec_l6Head (Option.some.inj hm)) (by kernel_rfl)
          · skip
            exact go_end [.res (res_spec_l4Sides x0_0), .bit true, .bit true, .bit true, .bit true, .bit true, .bit true, .bit true, .bit true, .bit true, .bit true, .num p0.palette.length, .bit true, .res (res_spec_l6Log x0_3), .bit true, .bit true, .bit true, .bit true, .bit true, .res (res_spec_l5Colours x0_5), .bit true, .bit true, .bit true, .bit true, .bit true, .bit false, .bit false, .bit false, .bit false] 1000 (And.intro (ok_spec_l4Sides p0.width p0.height x0_0 h0_0) (And.intro h0_1 (And.intro h0_1 (And.intro h0_1 (And.intro h0_1 (And.intro h0_1 (And.intro h0_1 (And.intro h0_1 (And.intro h0_2 (And.intro h0_2 (And.intro h0_2 (And.intro (len_map (rI .i64) (show p0.palette.length = p0.palette.length from rfl)) (And.intro h0_2 (And.intro (ok_spec_l6Log (p0.palette.length : Int) x0_3 h0_3) (And.intro h0_2 (And.intro h0_2 (And.intro h0_4 (And.intro h0_4 (And.intro h0_4 (And.intro (ok_spec_l5Colours p0.palette x0_5 h0_5) (And.intro h0_4 (And.intro h0_6 (And.intro h0_6 (And.intro h0_6 (And.intro h0_6 (And.intro h0_7 (And.intro h0_7 (And.intro h0_7 (And.intro h0_7 True.intro))))))))))))))))))))))))))))) (congrArg res_spec_l6Head (Option.some.inj hm)) (by kernel_rfl)
        · skip
          exact go_end [.res (res_spec_l4Sides x0_0), .bit true, .bit true, .bit true, .bit true, .bit true, .bit true, .bit true, .bit true, .bit true, .bit true, .num p0.palette.length, .bit true, .res (res_spec_l6Log x0_3), .bit true, .bit true, .bit true, .bit true, .bit true, .res (res_spec_l5Colours x0_5), .bit true, .bit false, .bit false, .bit false, .bit false, .bit false, .bit false, .bit false, .bit false] 1000 (And.intro (ok_spec_l4Sides p0.width p0.height x0_0 h0_0) (And.intro h0_1 (And.intro h0_1 (And.intro h0_1 (And.intro h0_1 (And.intro h0_1 (And.intro h0_1 (And.intro h0_1 (And.intro h0_2 (And.intro h0_2 (And.intro h0_2 (And.intro (len_map (rI .i64) (show p0.palette.length = p0.palette.length from rfl)) (And.intro h0_2 (And.intro (ok_spec_l6Log (p0.palette.length : Int) x0_3 h0_3) (And.intro h0_2 (And.intro h0_2 (And.intro h0_4 (And.intro h0_4 (And.intro h0_4 (And.intro (ok_spec_l5Colours p0.palette x0_5 h0_5) (And.intro h0_4 (And.intro h0_6 (And.intro h0_6 (And.intro h0_6 (And.intro h0_6 (And.intro (Eq.refl false) (And.intro (Eq.refl false) (And.intro (Eq.refl false) (And.intro (Eq.refl false) True.intro))))))))))))))))))))))))))))) (congrArg res_spec_l6Head (Option.some.inj hm)) (by kernel_rfl)
      · skip
        exact go_end [.res (res_spec_l4Sides x0_0), .bit true, .bit true, .bit true, .bit true, .bit true, .bit true, .bit true, .bit true, .bit true, .bit true, .num p0.palette.length, .bit true, .res (res_spec_l6Log x0_3), .bit true, .bit true, .bit false, .bit false, .bit false, .bit false, .bit false, .bit false, .bit false, .bit false, .bit false, .bit false, .bit false, .bit false] 1000 (And.intro (ok_spec_l4Sides p0.width p0.height x0_0 h0_0) (And.intro h0_1 (And.intro h0_1 (And.intro h0_1 (And.intro h0_1 (And.intro h0_1 (And.intro h0_1 (And.intro h0_1 (And.intro h0_2 (And.intro h0_2 (And.intro h0_2 (And.intro (len_map (rI .i64) (show p0.palette.length = p0.palette.length from rfl)) (And.intro h0_2 (And.intro (ok_spec_l6Log (p0.palette.length : Int) x0_3 h0_3) (And.intro h0_2 (And.intro h0_2 (And.intro h0_4 (And.intro h0_4 (And.intro h0_4 (And.intro h0_4 (And.intro (Eq.refl false) (And.intro (Eq.refl false) (And.intro (Eq.refl false) (And.intro (Eq.refl false) (And.intro (Eq.refl false) (And.intro (Eq.refl false) (And.intro (Eq.refl false) (And.intro (Eq.refl false) True.intro)))))))))))))))))))))))))))) (congrArg res_spec_l6Head (Option.some.inj hm)) (by kernel_rfl)
    · skip
      exact go_end [.res (res_spec_l4Sides x0_0), .bit true, .bit true, .bit true, .bit true, .bit true, .bit true, .bit true, .bit false, .bit false, .bit false, .bit false, .bit false, .bit false, .bit false, .bit false, .bit false, .bit false, .bit false, .bit false, .bit false, .bit false, .bit false, .bit false, .bit false, .bit false] 1000 (And.intro (ok_spec_l4Sides p0.width p0.height x0_0 h0_0) (And.intro h0_1 (And.intro h0_1 (And.intro h0_1 (And.intro h0_1 (And.intro h0_1 (And.intro h0_1 (And.intro h0_1 (And.intro h0_2 (And.intro h0_2 (And.intro h0_2 (And.intro h0_2 (And.intro h0_2 (And.intro h0_2 (And.intro (Eq.refl false) (And.intro (Eq.refl false) (And.intro (Eq.refl false) (And.intro (Eq.refl false) (And.intro (Eq.refl false) (And.intro (Eq.refl false) (And.intro (Eq.refl false) (And.intro (Eq.refl false) (And.intro (Eq.refl false) (And.intro (Eq.refl false) (And.intro (Eq.refl false) (And.intro (Eq.refl false) True.intro)))))))))))))))))))))))))) (congrArg res_spec_l6Head (Option.some.inj hm)) (by kernel_rfl)
  · skip
    exact go_end [.res (res_spec_l4Sides x0_0), .bit false, .bit false, .bit false, .bit false, .bit false, .bit false, .bit false, .bit false, .bit false, .bit false, .bit false, .bit false, .bit false, .bit false, .bit false, .bit false, .bit false, .bit false, .bit false, .bit false, .bit false, .bit false, .bit false, .bit false, .bit false] 1000 (And.intro (ok_spec_l4Sides p0.width p0.height x0_0 h0_0) (And.intro h0_1 (And.intro h0_1 (And.intro h0_1 (And.intro h0_1 (And.intro h0_1 (And.intro h0_1 (And.intro h0_1 (And.intro (Eq.refl false) (And.intro (Eq.refl false) (And.intro (Eq.refl false) (And.intro (Eq.refl false) (And.intro (Eq.refl false) (And.intro (Eq.refl false) (And.intro (Eq.refl false) (And.intro (Eq.refl false) (And.intro (Eq.refl false) (And.intro (Eq.refl false) (And.intro (Eq.refl false) (And.intro (Eq.refl false) (And.intro (Eq.refl false) (And.intro (Eq.refl false) (And.intro (Eq.refl false) (And.intro (Eq.refl false) (And.intro (Eq.refl false) (And.intro (Eq.refl false) True.intro)))))))))))))))))))))))))) (congrArg res_spec_l6Head (Option.some.inj hm)) (by kernel_rfl)

theorem ok_spec_l6Head (p0 : S_Moving) (r : Bool) (hm : m_spec_l6Head p0 = some r) : Runs ext tbl 181 (as_spec_l6Head p0) (res_spec_l6Head r) :=
  runs_of (vf := vf_spec_l6Head) (by kernel_rfl) rfl (st := (enter vf_spec_l6Head (as_spec_l6Head p0)).getD default) (by kernel_rfl) (go_on [] 1000 True.intro (ok_spec_l6Head_0 p0 r hm) (by kernel_rfl))
theorem ok_spec_l6Frame_0 (p0 : S_Moving) (p1 : S_Frame) (r : Bool) (hm : m_spec_l6Frame_0 p0 p1 = some r) : EvU ext tbl (.c c_spec_l6Frame_0) K_spec_l6Frame_0 (s_spec_l6Frame_0 p0 p1) (Post vf_spec_l6Frame (res_spec_l6Frame r)) := by
  obtain ⟨h0_0, hm⟩ | ⟨h0_0, hm⟩ := split_ite hm
  · skip
    exact go_end [.bit true, .bit true, .bit true, .bit true, .bit true, .bit true, .bit true, .bit true, .bit true, .bit true, .bit true, .bit true, .bit true, .bit true, .bit true, .bit true, .bit true, .bit true, .bit true, .bit true, .bit true, .bit true, .bit true, .bit true, .bit true, .bit true, .bit true, .bit true, .bit true, .bit true, .bit true, .bit true, .bit true, .bit true, .bit true, .bit true, .bit true, .bit true, .bit true, .bit true, .bit true, .bit true, .bit true] 1000 (And.intro h0_0 (And.intro h0_0 (And.intro h0_0 (And.intro h0_0 (And.intro (Eq.refl true) (And.intro (Eq.refl true) (And.intro (Eq.refl true) (And.intro (Eq.refl true) (And.intro (Eq.refl true) (And.intro (Eq.refl true) (And.intro (Eq.refl true) (And.intro (Eq.refl true) (And.intro (Eq.refl true) (And.intro (Eq.refl true) (And.intro (Eq.refl true) (And.intro (Eq.refl true) (And.intro (Eq.refl true) (And.intro (Eq.refl true) (And.intro (Eq.refl true) (And.intro (Eq.refl true) (And.intro (Eq.refl true) (And.intro (Eq.refl true) (And.intro (Eq.refl true) (And.intro (Eq.refl true) (And.intro (Eq.refl true) (And.intro (Eq.refl true) (And.intro (Eq.refl true) (And.intro (Eq.refl true) (And.intro (Eq.refl true) (And.intro (Eq.refl true) (And.intro (Eq.refl true) (And.intro (Eq.refl true) (And.intro (Eq.refl true) (And.intro (Eq.refl true) (And.intro (Eq.refl true) (And.intro (Eq.refl true) (And.intro (Eq.refl true) (And.intro (Eq.refl true) (And.intro (Eq.refl true) (And.intro (Eq.refl true) (And.intro (Eq.refl true) (And.intro (Eq.refl true) (And.intro (Eq.refl true) True.intro))))))))))))))))))))))))))))))))))))))))))) (congrArg res_spec_l6Frame (Option.some.inj hm)) (by kernel_rfl)
  · skip
    obtain ⟨h0_1, hm⟩ | ⟨h0_1, hm⟩ := split_ite hm
    · skip
      exact go_end [.bit false, .bit false, .bit false, .bit false, .bit true, .bit true, .bit true, .bit true, .bit true, .bit true, .bit true, .bit true, .bit true, .bit true, .bit true, .bit true, .bit true, .bit true, .bit true, .bit true, .bit true, .bit true, .bit true, .bit true, .bit true, .bit true, .bit true, .bit true, .bit true, .bit true, .bit true, .bit true, .bit true, .bit true, .bit true, .bit true, .bit true, .bit true, .bit true, .bit true, .bit true, .bit true, .bit true] 1000 (And.intro h0_0 (And.intro h0_0 (And.intro h0_0 (And.intro h0_0 (And.intro h0_1 (And.intro h0_1 (And.intro h0_1 (And.intro h0_1 (And.intro (Eq.refl true) (And.intro (Eq.refl true) (And.intro (Eq.refl true) (And.intro (Eq.refl true) (And.intro (Eq.refl true) (And.intro (Eq.refl true) (And.intro (Eq.refl true) (And.intro (Eq.refl true) (And.intro (Eq.refl true) (And.intro (Eq.refl true) (And.intro (Eq.refl true) (And.intro (Eq.refl true) (And.intro (Eq.refl true) (And.intro (Eq.refl true) (And.intro (Eq.refl true) (And.intro (Eq.refl true) (And.intro (Eq.refl true) (And.intro (Eq.refl true) (And.intro (Eq.refl true) (And.intro (Eq.refl true) (And.intro (Eq.refl true) (And.intro (Eq.refl true) (And.intro (Eq.refl true) (And.intro (Eq.refl true) (And.intro (Eq.refl true) (And.intro (Eq.refl true) (And.intro (Eq.refl true) (And.intro (Eq.refl true) (And.intro (Eq.refl true) (And.intro (Eq.refl true) (And.intro (Eq.refl true) (And.intro (Eq.refl true) (And.intro (Eq.refl true) (And.intro (Eq.refl true) (And.intro (Eq.refl true) True.intro))))))))))))))))))))))))))))))))))))))))))) (congrArg res_spec_l6Frame (Option.some.inj hm)) (by kernel_rfl)
    · skip
      obtain ⟨h0_2, hm⟩ | ⟨h0_2, hm⟩ := split_ite hm
      · skip
        exact go_end [.bit false, .bit false, .bit false, .bit false, .bit false, .bit false, .bit false, .bit false, .bit true, .bit true, .bit true, .bit true, .bit true, .bit true, .bit true, .bit true, .bit true, .bit true, .bit true, .bit true, .bit true, .bit true, .bit true, .bit true, .bit true, .bit true, .bit true, .bit true, .bit true, .bit true, .bit true, .bit true, .bit true, .bit true, .bit true, .bit true, .bit true, .bit true, .bit true, .bit true, .bit true, .bit true, .bit true] 1000 (And.intro h0_0 (And.intro h0_0 (And.intro h0_0 (And.intro h0_0 (And.intro h0_1 (And.intro h0_1 (And.intro h0_1 (And.intro h0_1 (And.intro h0_2 (And.intro h0_2 (And.intro h0_2 (And.intro h0_2 (And.intro (Eq.refl true) (And.intro (Eq.refl true) (And.intro (Eq.refl true) (And.intro (Eq.refl true) (And.intro (Eq.refl true) (And.intro (Eq.refl true) (And.intro (Eq.refl true) (And.intro (Eq.refl true) (And.intro (Eq.refl true) (And.intro (Eq.refl true) (And.intro (Eq.refl true) (And.intro (Eq.refl true) (And.intro (Eq.refl true) (And.intro (Eq.refl true) (And.intro (Eq.refl true) (And.intro (Eq.refl true) (And.intro (Eq.refl true) (And.intro (Eq.refl true) (And.intro (Eq.refl true) (And.intro (Eq.refl true) (And.intro (Eq.refl true) (And.intro (Eq.refl true) (And.intro (Eq.refl true) (And.intro (Eq.refl true) (And.intro (Eq.refl true) (And.intro (Eq.refl true) (And.intro (Eq.refl true) (And.intro (Eq.refl true) (And.intro (Eq.refl true) (And.intro (Eq.refl true) (And.intro (Eq.refl true) True.intro))))))))))))))))))))))))))))))))))))))))))) (congrArg res_spec_l6Frame (Option.some.inj hm)) (by kernel_rfl)
      · skip
        obtain ⟨h0_3, hm⟩ | ⟨h0_3, hm⟩ := split_ite hm
        · skip
          exact go_end [.bit false, .bit false, .bit false, .bit false, .bit false, .bit false, .bit false, .bit false, .bit false, .bit false, .bit false, .bit false, .bit true, .bit true, .bit true, .bit true, .bit true, .bit true, .bit true, .bit true, .bit true, .bit true, .bit true, .bit true, .bit true, .bit true, .bit true, .bit true, .bit true, .bit true, .bit true, .bit true, .bit true, .bit true, .bit true, .bit true, .bit true, .bit true, .bit true, .bit true, .bit true, .bit true, .bit true] 1000 (And.intro h0_0 (And.intro h0_0 (And.intro h0_0 (And.intro h0_0 (And.intro h0_1 (And.intro h0_1 (And.intro h0_1 (And.intro h0_1 (And.intro h0_2 (And.intro h0_2 (And.intro h0_2 (And.intro h0_2 (And.intro h0_3 (And.intro h0_3 (And.intro h0_3 (And.intro h0_3 (And.intro h0_3 (And.intro h0_3 (And.intro (Eq.refl true) (And.intro (Eq.refl true) (And.intro (Eq.refl true) (And.intro (Eq.refl true) (And.intro (Eq.refl true) (And.intro (Eq.refl true) (And.intro (Eq.refl true) (And.intro (Eq.refl true) (And.intro (Eq.refl true) (And.intro (Eq.refl true) (And.intro (Eq.refl true) (And.intro (Eq.refl true) (And.intro (Eq.refl true) (And.intro (Eq.refl true) (And.intro (Eq.refl true) (And.intro (Eq.refl true) (And.intro (Eq.refl true) (And.intro (Eq.refl true) (And.intro (Eq.refl true) (And.intro (Eq.refl true) (And.intro (Eq.refl true) (And.intro (Eq.refl true) (And.intro (Eq.refl true) (And.intro (Eq.refl true) (And.intro (Eq.refl true) True.intro))))))))))))))))))))))))))))))))))))))))))) (congrArg res_spec_l6Frame (Option.some.inj hm)) (by kernel_rfl)
        · skip
          obtain ⟨h0_4, hm⟩ | ⟨h0_4, hm⟩ := split_ite hm
          · skip
            exact go_end [.bit false, .bit false, .bit false, .bit false, .bit false, .bit false, .bit false, .bit false, .bit false, .bit false, .bit false, .bit false, .bit false, .bit false, .bit false, .bit false, .bit false, .bit false, .bit true, .bit true, .bit true, .bit true, .bit true, .bit true, .bit true, .bit true, .bit true, .bit true, .bit true, .bit true, .bit true, .bit true, .bit true, .bit true, .bit true, .bit true, .bit true, .bit true, .bit true, .bit true, .bit true, .bit true, .bit true] 1000 (And.intro h0_0 (And.intro h0_0 (And.intro h0_0 (And.intro h0_0 (And.intro h0_1 (And.intro h0_1 (And.intro h0_1 (And.intro h0_1 (And.intro h0_2 (And.intro h0_2 (And.intro h0_2 (And.intro h0_2 (And.intro h0_3 (And.intro h0_3 (And.intro h0_3 (And.intro h0_3 (And.intro h0_3 (And.intro h0_3 (And.intro h0_4 (And.intro h0_4 (And.intro h0_4 (And.intro h0_4 (And.intro h0_4 (And.intro h0_4 (And.intro (Eq.refl true) (And.intro (Eq.refl true) (And.intro (Eq.refl true) (And.intro (Eq.refl true) (And.intro (Eq.refl true) (And.intro (Eq.refl true) (And.intro (Eq.refl true) (And.intro (Eq.refl true) (And.intro (Eq.refl true) (And.intro (Eq.refl true) (And.intro (Eq.refl true) (And.intro (Eq.refl true) (And.intro (Eq.refl true) (And.intro (Eq.refl true) (And.intro (Eq.refl true) (And.intro (Eq.refl true) (And.intro (Eq.refl true) (And.intro (Eq.refl true) (And.intro (Eq.refl true) True.intro))))))))))))))))))))))))))))))))))))))))))) (congrArg res_spec_l6Frame (Option.some.inj hm)) (by kernel_rfl)
          · skip
            obtain ⟨h0_5, hm⟩ | ⟨h0_5, hm⟩ := split_ite hm
            · skip
              exact go_end [.bit false, .bit false, .bit false, .bit false, .bit false, .bit false, .bit false, .bit false, .bit false, .bit false, .bit false, .bit false, .bit false, .bit false, .bit false, .bit false, .bit false, .bit false, .bit false, .bit false, .bit false, .bit false, .bit false, .bit false, .bit true, .bit true, .bit true, .bit true, .bit true, .bit true, .bit true, .bit true, .bit true, .bit true, .bit true, .bit true, .bit true, .bit true, .bit true, .bit true, .bit true, .bit true, .bit true] 1000 (And.intro h0_0 (And.intro h0_0 (And.intro h0_0 (And.intro h0_0 (And.intro h0_1 (And.intro h0_1 (And.intro h0_1 (And.intro h0_1 (And.intro h0_2 (And.intro h0_2 (And.intro h0_2 (And.intro h0_2 (And.intro h0_3 (And.intro h0_3 (And.intro h0_3 (And.intro h0_3 (And.intro h0_3 (And.intro h0_3 (And.intro h0_4 (And.intro h0_4 (And.intro h0_4 (And.intro h0_4 (And.intro h0_4 (And.intro h0_4 (And.intro h0_5 (And.intro h0_5 (And.intro h0_5 (And.intro h0_5 (And.intro h0_5 (And.intro h0_5 (And.intro h0_5 (And.intro h0_5 (And.intro h0_5 (And.intro (Eq.refl true) (And.intro (Eq.refl true) (And.intro (Eq.refl true) (And.intro (Eq.refl true) (And.intro (Eq.refl true) (And.intro (Eq.refl true) (And.intro (Eq.refl true) (And.intro (Eq.refl true) (And.intro (Eq.refl true) (And.intro (Eq.refl true) True.intro))))))))))))))))))))))))))))))))))))))))))) (congrArg res_spec_l6Frame (Option.some.inj hm)) (by kernel_rfl)
            · skip
              obtain ⟨h0_6, hm⟩ | ⟨h0_6, hm⟩ := split_ite hm
              · skip
                exact go_end [.bit false, .bit false, .bit false, .bit false, .bit false, .bit false, .bit false, .bit false, .bit false, .bit false, .bit false, .bit false, .bit false, .bit false, .bit false, .bit false, .bit false, .bit false, .bit false, .bit false, .bit false, .bit false, .bit false, .bit false, .bit false, .bit false, .bit false, .bit false, .bit false, .bit false, .bit false, .bit false, .bit false, .bit true, .bit true, .bit true, .bit true, .bit true, .bit true, .bit true, .bit true, .bit true, .bit true] 1000 (And.intro h0_0 (And.intro h0_0 (And.intro h0_0 (And.intro h0_0 (And.intro h0_1 (And.intro h0_1 (And.intro h0_1 (And.intro h0_1 (And.intro h0_2 (And.intro h0_2 (And.intro h0_2 (And.intro h0_2 (And.intro h0_3 (And.intro h0_3 (And.intro h0_3 (And.intro h0_3 (And.intro h0_3 (And.intro h0_3 (And.intro h0_4 (And.intro h0_4 (And.intro h0_4 (And.intro h0_4 (And.intro h0_4 (And.intro h0_4 (And.intro h0_5 (And.intro h0_5 (And.intro h0_5 (And.intro h0_5 (And.intro h0_5 (And.intro h0_5 (And.intro h0_5 (And.intro h0_5 (And.intro h0_5 (And.intro h0_6 (And.intro h0_6 (And.intro h0_6 (And.intro h0_6 (And.intro h0_6 (And.intro h0_6 (And.intro h0_6 (And.intro h0_6 (And.intro h0_6 (And.intro (Eq.refl true) True.intro))))))))))))))))))))))))))))))))))))))))))) (congrArg res_spec_l6Frame (Option.some.inj hm)) (by kernel_rfl)
              · skip
                obtain ⟨h0_7, hm⟩ | ⟨h0_7, hm⟩ := split_ite hm
                · skip
                  exact go_end [.bit false, .bit false, .bit false, .bit false, .bit false, .bit false, .bit false, .bit false, .bit false, .bit false, .bit false, .bit false, .bit false, .bit false, .bit false, .bit false, .bit false, .bit false, .bit false, .bit false, .bit false, .bit false, .bit false, .bit false, .bit false, .bit false, .bit false, .bit false, .bit false, .bit false, .bit false, .bit false, .bit false, .bit false, .bit false, .bit false, .bit false, .bit false, .bit false, .bit false, .bit false, .bit false, .bit true] 1000 (And.intro h0_0 (And.intro h0_0 (And.intro h0_0 (And.intro h0_0 (And.intro h0_1 (And.intro h0_1 (And.intro h0_1 (And.intro h0_1 (And.intro h0_2 (And.intro h0_2 (And.intro h0_2 (And.intro h0_2 (And.intro h0_3 (And.intro h0_3 (And.intro h0_3 (And.intro h0_3 (And.intro h0_3 (And.intro h0_3 (And.intro h0_4 (And.intro h0_4 (And.intro h0_4 (And.intro h0_4 (And.intro h0_4 (And.intro h0_4 (And.intro h0_5 (And.intro h0_5 (And.intro h0_5 (And.intro h0_5 (And.intro h0_5 (And.intro h0_5 (And.intro h0_5 (And.intro h0_5 (And.intro h0_5 (And.intro h0_6 (And.intro h0_6 (And.intro h0_6 (And.intro h0_6 (And.intro h0_6 (And.intro h0_6 (And.intro h0_6 (And.intro h0_6 (And.intro h0_6 (And.intro h0_7 True.intro))))))))))))))))))))))))))))))))))))))))))) (congrArg res_spec_l6Frame (Option.some.inj hm)) (by kernel_rfl)
                · skip
                  obtain ⟨h0_8, hm⟩ | ⟨h0_8, hm⟩ := split_ite hm
                  · skip
                    obtain ⟨h0_9, hm⟩ | ⟨h0_9, hm⟩ := split_ite hm
                    · skip
                      obtain ⟨h0_10, hm⟩ | ⟨h0_10, hm⟩ := split_ite hm
                      · skip
                        obtain ⟨h0_11, hm⟩ | ⟨h0_11, hm⟩ := split_ite hm
                        · skip
                          obtain ⟨h0_12, hm⟩ | ⟨h0_12, hm⟩ := split_ite hm
                          · skip
                            exact go_end [.bit false, .bit false, .bit false, .bit false, .bit false, .bit false, .bit false, .bit false, .bit false, .bit false, .bit false, .bit false, .bit false, .bit false, .bit false, .bit false, .bit false, .bit false, .bit false, .bit false, .bit false, .bit false, .bit false, .bit false, .bit false, .bit false, .bit false, .bit false, .bit false, .bit false, .bit false, .bit false, .bit false, .bit false, .bit false, .bit false, .bit false, .bit false, .bit false, .bit false, .bit false, .bit false, .bit false, .bit true, .bit true, .bit true, .bit true, .bit true, .bit true, .bit true, .bit true, .bit true, .bit true, .bit true, .bit true, .bit true, .bit true, .bit true, .bit true, .bit true, .bit true, .bit true, .bit true, .bit true, .num p0.palette.length, .bit true, .bit true] 1000 (And.intro h0_0 (And.intro h0_0 (And.intro h0_0 (And.intro h0_0 (And.intro h0_1 (And.intro h0_1 (And.intro h0_1 (And.intro h0_1 (And.intro h0_2 (And.intro h0_2 (And.intro h0_2 (And.intro h0_2 (And.intro h0_3 (And.intro h0_3 (And.intro h0_3 (And.intro h0_3 (And.intro h0_3 (And.intro h0_3 (And.intro h0_4 (And.intro h0_4 (And.intro h0_4 (And.intro h0_4 (And.intro h0_4 (And.intro h0_4 (And.intro h0_5 (And.intro h0_5 (And.intro h0_5 (And.intro h0_5 (And.intro h0_5 (And.intro h0_5 (And.intro h0_5 (And.intro h0_5 (And.intro h0_5 (And.intro h0_6 (And.intro h0_6 (And.intro h0_6 (And.intro h0_6 (And.intro h0_6 (And.intro h0_6 (And.intro h0_6 (And.intro h0_6 (And.intro h0_6 (And.intro h0_7 (And.intro h0_8 (And.intro h0_8 (And.intro h0_8 (And.intro h0_8 (And.intro h0_9 (And.intro h0_9 (And.intro h0_9 (And.intro h0_9 (And.intro h0_10 (And.intro h0_10 (And.intro h0_10 (And.intro h0_10 (And.intro h0_11 (And.intro h0_11 (And.intro h0_11 (And.intro h0_11 (And.intro h0_12 (And.intro h0_12 (And.intro h0_12 (And.intro h0_12 (And.intro h0_12 (And.intro (len_map (rI .i64) (show p0.palette.length = p0.palette.length from rfl)) (And.intro h0_12 (And.intro h0_12 True.intro))))))))))))))))))))))))))))))))))))))))))))))))))))))))))))))))))) (congrArg res_spec_l6Frame (Option.some.inj hm)) (by kernel_rfl)
                          · skip
                            exact go_end [.bit false, .bit false, .bit false, .bit false, .bit false, .bit false, .bit false, .bit false, .bit false, .bit false, .bit false, .bit false, .bit false, .bit false, .bit false, .bit false, .bit false, .bit false, .bit false, .bit false, .bit false, .bit false, .bit false, .bit false, .bit false, .bit false, .bit false, .bit false, .bit false, .bit false, .bit false, .bit false, .bit false, .bit false, .bit false, .bit false, .bit false, .bit false, .bit false, .bit false, .bit false, .bit false, .bit false, .bit true, .bit true, .bit true, .bit true, .bit true, .bit true, .bit true, .bit true, .bit true, .bit true, .bit true, .bit true, .bit true, .bit true, .bit true, .bit true, .bit false, .bit false, .bit false, .bit false, .bit false, .bit false, .bit false] 1000 (And.intro h0_0 (And.intro h0_0 (And.intro h0_0 (And.intro h0_0 (And.intro h0_1 (And.intro h0_1 (And.intro h0_1 (And.intro h0_1 (And.intro h0_2 (And.intro h0_2 (And.intro h0_2 (And.intro h0_2 (And.intro h0_3 (And.intro h0_3 (And.intro h0_3 (And.intro h0_3 (And.intro h0_3 (And.intro h0_3 (And.intro h0_4 (And.intro h0_4 (And.intro h0_4 (And.intro h0_4 (And.intro h0_4 (And.intro h0_4 (And.intro h0_5 (And.intro h0_5 (And.intro h0_5 (And.intro h0_5 (And.intro h0_5 (And.intro h0_5 (And.intro h0_5 (And.intro h0_5 (And.intro h0_5 (And.intro h0_6 (And.intro h0_6 (And.intro h0_6 (And.intro h0_6 (And.intro h0_6 (And.intro h0_6 (And.intro h0_6 (And.intro h0_6 (And.intro h0_6 (And.intro h0_7 (And.intro h0_8 (And.intro h0_8 (And.intro h0_8 (And.intro h0_8 (And.intro h0_9 (And.intro h0_9 (And.intro h0_9 (And.intro h0_9 (And.intro h0_10 (And.intro h0_10 (And.intro h0_10 (And.intro h0_10 (And.intro h0_11 (And.intro h0_11 (And.intro h0_11 (And.intro h0_11 (And.intro h0_12 (And.intro h0_12 (And.intro h0_12 (And.intro h0_12 (And.intro h0_12 (And.intro h0_12 (And.intro h0_12 True.intro)))))))))))))))))))))))))))))))))))))))))))))))))))))))))))))))))) (congrArg res_spec_l6Frame (Option.some.inj hm)) (by kernel_rfl)
                        · skip
                          exact go_end [.bit false, .bit false, .bit false, .bit false, .bit false, .bit false, .bit false, .bit false, .bit false, .bit false, .bit false, .bit false, .bit false, .bit false, .bit false, .bit false, .bit false, .bit false, .bit false, .bit false, .bit false, .bit false, .bit false, .bit false, .bit false, .bit false, .bit false, .bit false, .bit false, .bit false, .bit false, .bit false, .bit false, .bit false, .bit false, .bit false, .bit false, .bit false, .bit false, .bit false, .bit false, .bit false, .bit false, .bit true, .bit true, .bit true, .bit true, .bit true, .bit true, .bit true, .bit true, .bit true, .bit true, .bit true, .bit true, .bit false, .bit false, .bit false, .bit false, .bit false, .bit false, .bit false, .bit false, .bit false, .bit false, .bit false] 1000 (And.intro h0_0 (And.intro h0_0 (And.intro h0_0 (And.intro h0_0 (And.intro h0_1 (And.intro h0_1 (And.intro h0_1 (And.intro h0_1 (And.intro h0_2 (And.intro h0_2 (And.intro h0_2 (And.intro h0_2 (And.intro h0_3 (And.intro h0_3 (And.intro h0_3 (And.intro h0_3 (And.intro h0_3 (And.intro h0_3 (And.intro h0_4 (And.intro h0_4 (And.intro h0_4 (And.intro h0_4 (And.intro h0_4 (And.intro h0_4 (And.intro h0_5 (And.intro h0_5 (And.intro h0_5 (And.intro h0_5 (And.intro h0_5 (And.intro h0_5 (And.intro h0_5 (And.intro h0_5 (And.intro h0_5 (And.intro h0_6 (And.intro h0_6 (And.intro h0_6 (And.intro h0_6 (And.intro h0_6 (And.intro h0_6 (And.intro h0_6 (And.intro h0_6 (And.intro h0_6 (And.intro h0_7 (And.intro h0_8 (And.intro h0_8 (And.intro h0_8 (And.intro h0_8 (And.intro h0_9 (And.intro h0_9 (And.intro h0_9 (And.intro h0_9 (And.intro h0_10 (And.intro h0_10 (And.intro h0_10 (And.intro h0_10 (And.intro h0_11 (And.intro h0_11 (And.intro h0_11 (And.intro h0_11 (And.intro (Eq.refl false) (And.intro (Eq.refl false) (And.intro (Eq.refl false) (And.intro (Eq.refl false) (And.intro (Eq.refl false) (And.intro (Eq.refl false) (And.intro (Eq.refl false) True.intro)))))))))))))))))))))))))))))))))))))))))))))))))))))))))))))))))) (congrArg res_spec_l6Frame (Option.some.inj hm)) (by kernel_rfl)
                      · skip
                        exact go_end [.bit false, .bit false, .bit false, .bit false, .bit false, .bit false, .bit false, .bit false, .bit false, .bit false, .bit false, .bit false, .bit false, .bit false, .bit false, .bit false, .bit false, .bit false, .bit false, .bit false, .bit false, .bit false, .bit false, .bit false, .bit false, .bit false, .bit false, .bit false, .bit false, .bit false, .bit false, .bit false, .bit false, .bit false, .bit false, .bit false, .bit false, .bit false, .bit false, .bit false, .bit false, .bit false, .bit false, .bit true, .bit true, .bit true, .bit true, .bit true, .bit true, .bit true, .bit true, .bit false, .bit false, .bit false, .bit false, .bit false, .bit false, .bit false, .bit false, .bit false, .bit false, .bit false, .bit false, .bit false, .bit false, .bit false] 1000 (And.intro h0_0 (And.intro h0_0 (And.intro h0_0 (And.intro h0_0 (And.intro h0_1 (And.intro h0_1 (And.intro h0_1 (And.intro h0_1 (And.intro h0_2 (And.intro h0_2 (And.intro h0_2 (And.intro h0_2 (And.intro h0_3 (And.intro h0_3 (And.intro h0_3 (And.intro h0_3 (And.intro h0_3 (And.intro h0_3 (And.intro h0_4 (And.intro h0_4 (And.intro h0_4 (And.intro h0_4 (And.intro h0_4 (And.intro h0_4 (And.intro h0_5 (And.intro h0_5 (And.intro h0_5 (And.intro h0_5 (And.intro h0_5 (And.intro h0_5 (And.intro h0_5 (And.intro h0_5 (And.intro h0_5 (And.intro h0_6 (And.intro h0_6 (And.intro h0_6 (And.intro h0_6 (And.intro h0_6 (And.intro h0_6 (And.intro h0_6 (And.intro h0_6 (And.intro h0_6 (And.intro h0_7 (And.intro h0_8 (And.intro h0_8 (And.intro h0_8 (And.intro h0_8 (And.intro h0_9 (And.intro h0_9 (And.intro h0_9 (And.intro h0_9 (And.intro h0_10 (And.intro h0_10 (And.intro h0_10 (And.intro h0_10 (And.intro (Eq.refl false) (And.intro (Eq.refl false) (And.intro (Eq.refl false) (And.intro (Eq.refl false) (And.intro (Eq.refl false) (And.intro (Eq.refl false) (And.intro (Eq.refl false) (And.intro (Eq.refl false) (And.intro (Eq.refl false) (And.intro (Eq.refl false) (And.intro (Eq.refl false) True.intro)))))))))))))))))))))))))))))))))))))))))))))))))))))))))))))))))) (congrArg res_spec_l6Frame (Option.some.inj hm)) (by kernel_rfl)
                    · skip
                      exact go_end [.bit false, .bit false, .bit false, .bit false, .bit false, .bit false, .bit false, .bit false, .bit false, .bit false, .bit false, .bit false, .bit false, .bit false, .bit false, .bit false, .bit false, .bit false, .bit false, .bit false, .bit false, .bit false, .bit false, .bit false, .bit false, .bit false, .bit false, .bit false, .bit false, .bit false, .bit false, .bit false, .bit false, .bit false, .bit false, .bit false, .bit false, .bit false, .bit false, .bit false, .bit false, .bit false, .bit false, .bit true, .bit true, .bit true, .bit true, .bit false, .bit false, .bit false, .bit false, .bit false, .bit false, .bit false, .bit false, .bit false, .bit false, .bit false, .bit false, .bit false, .bit false, .bit false, .bit false, .bit false, .bit false, .bit false] 1000 (And.intro h0_0 (And.intro h0_0 (And.intro h0_0 (And.intro h0_0 (And.intro h0_1 (And.intro h0_1 (And.intro h0_1 (And.intro h0_1 (And.intro h0_2 (And.intro h0_2 (And.intro h0_2 (And.intro h0_2 (And.intro h0_3 (And.intro h0_3 (And.intro h0_3 (And.intro h0_3 (And.intro h0_3 (And.intro h0_3 (And.intro h0_4 (And.intro h0_4 (And.intro h0_4 (And.intro h0_4 (And.intro h0_4 (And.intro h0_4 (And.intro h0_5 (And.intro h0_5 (And.intro h0_5 (And.intro h0_5 (And.intro h0_5 (And.intro h0_5 (And.intro h0_5 (And.intro h0_5 (And.intro h0_5 (And.intro h0_6 (And.intro h0_6 (And.intro h0_6 (And.intro h0_6 (And.intro h0_6 (And.intro h0_6 (And.intro h0_6 (And.intro h0_6 (And.intro h0_6 (And.intro h0_7 (And.intro h0_8 (And.intro h0_8 (And.intro h0_8 (And.intro h0_8 (And.intro h0_9 (And.intro h0_9 (And.intro h0_9 (And.intro h0_9 (And.intro (Eq.refl false) (And.intro (Eq.refl false) (And.intro (Eq.refl false) (And.intro (Eq.refl false) (And.intro (Eq.refl false) (And.intro (Eq.refl false) (And.intro (Eq.refl false) (And.intro (Eq.refl false) (And.intro (Eq.refl false) (And.intro (Eq.refl false) (And.intro (Eq.refl false) (And.intro (Eq.refl false) (And.intro (Eq.refl false) (And.intro (Eq.refl false) (And.intro (Eq.refl false) True.intro)))))))))))))))))))))))))))))))))))))))))))))))))))))))))))))))))) (congrArg res_spec_l6Frame (Option.some.inj hm)) (by kernel_rfl)
                  · skip
                    exact go_end [.bit false, .bit false, .bit false, .bit false, .bit false, .bit false, .bit false, .bit false, .bit false, .bit false, .bit false, .bit false, .bit false, .bit false, .bit false, .bit false, .bit false, .bit false, .bit false, .bit false, .bit false, .bit false, .bit false, .bit false, .bit false, .bit false, .bit false, .bit false, .bit false, .bit false, .bit false, .bit false, .bit false, .bit false, .bit false, .bit false, .bit false, .bit false, .bit false, .bit false, .bit false, .bit false, .bit false, .bit false, .bit false, .bit false, .bit false, .bit false, .bit false, .bit false, .bit false, .bit false, .bit false, .bit false, .bit false, .bit false, .bit false, .bit false, .bit false, .bit false, .bit false, .bit false, .bit false, .bit false, .bit false, .bit false] 1000 (And.intro h0_0 (And.intro h0_0 (And.intro h0_0 (And.intro h0_0 (And.intro h0_1 (And.intro h0_1 (And.intro h0_1 (And.intro h0_1 (And.intro h0_2 (And.intro h0_2 (And.intro h0_2 (And.intro h0_2 (And.intro h0_3 (And.intro h0_3 (And.intro h0_3 (And.intro h0_3 (And.intro h0_3 (And.intro h0_3 (And.intro h0_4 (And.intro h0_4 (And.intro h0_4 (And.intro h0_4 (And.intro h0_4 (And.intro h0_4 (And.intro h0_5 (And.intro h0_5 (And.intro h0_5 (And.intro h0_5 (And.intro h0_5 (And.intro h0_5 (And.intro h0_5 (And.intro h0_5 (And.intro h0_5 (And.intro h0_6 (And.intro h0_6 (And.intro h0_6 (And.intro h0_6 (And.intro h0_6 (And.intro h0_6 (And.intro h0_6 (And.intro h0_6 (And.intro h0_6 (And.intro h0_7 (And.intro h0_8 (And.intro h0_8 (And.intro h0_8 (And.intro h0_8 (And.intro (Eq.refl false) (And.intro (Eq.refl false) (And.intro (Eq.refl false) (And.intro (Eq.refl false) (And.intro (Eq.refl false) (And.intro (Eq.refl false) (And.intro (Eq.refl false) (And.intro (Eq.refl false) (And.intro (Eq.refl false) (And.intro (Eq.refl false) (And.intro (Eq.refl false) (And.intro (Eq.refl false) (And.intro (Eq.refl false) (And.intro (Eq.refl false) (And.intro (Eq.refl false) (And.intro (Eq.refl false) (And.intro (Eq.refl false) (And.intro (Eq.refl false) (And.intro (Eq.refl false) True.intro)))))))))))))))))))))))))))))))))))))))))))))))))))))))))))))))))) (congrArg res_spec_l6Frame (Option.some.inj hm)) (by kernel_rfl)

theorem ok_spec_l6Frame (p0 : S_Moving) (p1 : S_Frame) (r : Bool) (hm : m_spec_l6Frame p0 p1 = some r) : Runs ext tbl 182 (as_spec_l6Frame p0 p1) (res_spec_l6Frame r) :=
  runs_of (vf := vf_spec_l6Frame) (by kernel_rfl) rfl (st := (enter vf_spec_l6Frame (as_spec_l6Frame p0 p1)).getD default) (by kernel_rfl) (go_on [] 1000 True.intro (ok_spec_l6Frame_0 p0 p1 r hm) (by kernel_rfl))
def O_spec_l6Pixels_7 (Q : VX → St → Prop) (e : (Bool) ⊕ ((Unit))) : Prop := match e with | .inl e => Q = Post vf_spec_l6Pixels (res_spec_l6Pixels e) | .inr e => EvU ext tbl (.c c_spec_l6Pixels_25) K_spec_l6Pixels_25 (s_spec_l6Pixels_25) Q
theorem ok_spec_l6Pixels_25 (r : Bool) (hm : m_spec_l6Pixels_25 = some r) : EvU ext tbl (.c c_spec_l6Pixels_25) K_spec_l6Pixels_25 (s_spec_l6Pixels_25) (Post vf_spec_l6Pixels (res_spec_l6Pixels r)) := by
  exact go_end [] 1000 True.intro (congrArg res_spec_l6Pixels (Option.some.inj hm)) (by kernel_rfl)

theorem ok_spec_l6Pixels_7 (p1 : (List Int)) (p0 : S_Moving) (i7_0 : Int) (y : (Int) ⊕ ((Bool) ⊕ ((Unit)))) (hm : m_spec_l6Pixels_7 p1 p0 i7_0 = some y) (Q : VX → St → Prop)
    (hin : ∀ s, y = .inl s → EvU ext tbl (.c c_spec_l6Pixels_7) K_spec_l6Pixels_7 (s_spec_l6Pixels_7 p1 p0 s) Q) (hout : ∀ e, y = .inr e → O_spec_l6Pixels_7 Q e) : EvU ext tbl (.c c_spec_l6Pixels_7) K_spec_l6Pixels_7 (s_spec_l6Pixels_7 p1 p0 i7_0) Q := by
  obtain ⟨h7_0, hm⟩ | ⟨h7_0, hm⟩ := split_ite hm
  · skip
    obtain ⟨x7_1, h7_1, hm⟩ := bind_some hm
    obtain ⟨h7_2, hm⟩ | ⟨h7_2, hm⟩ := split_ite hm
    · skip
      have hQ : Q = Post vf_spec_l6Pixels (res_spec_l6Pixels false) := hout (.inl false) (Option.some.inj hm).symm
      subst hQ
      exact go_end [.bit true, .row ((rI .i64) x7_1), .bit true, .bit true, .bit true, .bit true, .bit true, .bit true, .bit true] 1000 (And.intro h7_0 (And.intro (rd_nn h7_1) (And.intro (at_row (rI .i64) (rd_get h7_1)) (And.intro h7_2 (And.intro h7_2 (And.intro h7_2 (And.intro h7_2 (And.intro h7_2 (And.intro h7_2 (And.intro (Eq.refl true) True.intro)))))))))) (rfl : res_spec_l6Pixels false = res_spec_l6Pixels false) (by kernel_rfl)
    · skip
      obtain ⟨h7_3, hm⟩ | ⟨h7_3, hm⟩ := split_ite hm
      · skip
        have hQ : Q = Post vf_spec_l6Pixels (res_spec_l6Pixels false) := hout (.inl false) (Option.some.inj hm).symm
        subst hQ
        exact go_end [.bit true, .row ((rI .i64) x7_1), .bit false, .bit false, .bit false, .bit false, .num p0.palette.length, .bit false, .bit false, .bit true] 1000 (And.intro h7_0 (And.intro (rd_nn h7_1) (And.intro (at_row (rI .i64) (rd_get h7_1)) (And.intro h7_2 (And.intro h7_2 (And.intro h7_2 (And.intro h7_2 (And.intro (len_map (rI .i64) (show p0.palette.length = p0.palette.length from rfl)) (And.intro h7_2 (And.intro h7_2 (And.intro h7_3 True.intro))))))))))) (rfl : res_spec_l6Pixels false = res_spec_l6Pixels false) (by kernel_rfl)
      · skip
        refine go_on (u' := .c c_spec_l6Pixels_7) (K' := K_spec_l6Pixels_7) (st' := s_spec_l6Pixels_7 p1 p0 (w64 (i7_0 + 1))) [.bit true, .row ((rI .i64) x7_1), .bit false, .bit false, .bit false, .bit false, .num p0.palette.length, .bit false, .bit false, .bit false] 1000 (And.intro h7_0 (And.intro (rd_nn h7_1) (And.intro (at_row (rI .i64) (rd_get h7_1)) (And.intro h7_2 (And.intro h7_2 (And.intro h7_2 (And.intro h7_2 (And.intro (len_map (rI .i64) (show p0.palette.length = p0.palette.length from rfl)) (And.intro h7_2 (And.intro h7_2 (And.intro h7_3 True.intro))))))))))) ?_ (by kernel_rfl)
        exact hin (w64 (i7_0 + 1)) (Option.some.inj hm).symm
  · skip
    refine go_on (u' := .c c_spec_l6Pixels_25) (K' := K_spec_l6Pixels_25) (st' := s_spec_l6Pixels_25) [.bit false] 1000 (And.intro h7_0 True.intro) ?_ (by kernel_rfl)
    exact hout (.inr ()) (Option.some.inj hm).symm

theorem ok_spec_l6Pixels_0 (p0 : S_Moving) (p1 : (List Int)) (r : Bool) (hm : m_spec_l6Pixels_0 p0 p1 = some r) : EvU ext tbl (.c c_spec_l6Pixels_0) K_spec_l6Pixels_0 (s_spec_l6Pixels_0 p0 p1) (Post vf_spec_l6Pixels (res_spec_l6Pixels r)) := by
  refine go_on (u' := .c c_spec_l6Pixels_7) (K' := K_spec_l6Pixels_7) (st' := s_spec_l6Pixels_7 p1 p0 0) [.num p1.length] 1000 (And.intro (len_map (rI .i64) (show p1.length = p1.length from rfl)) True.intro) ?_ (by kernel_rfl)
  obtain ⟨e, he, hm⟩ := bind_some hm
  refine loop_rule (u := .c c_spec_l6Pixels_7) (K := K_spec_l6Pixels_7) (Q := (Post vf_spec_l6Pixels (res_spec_l6Pixels r))) (b := lp_spec_l6Pixels_7 p1 p0) (We := O_spec_l6Pixels_7 (Post vf_spec_l6Pixels (res_spec_l6Pixels r))) (stJ := fun s => s_spec_l6Pixels_7 p1 p0 s) (s := 0) (fun s y hb hin hout => ok_spec_l6Pixels_7 p1 p0 s y hb (Post vf_spec_l6Pixels (res_spec_l6Pixels r)) hin hout) he ?_
  rcases e with e | e
  · skip
    exact congrArg (fun r => Post vf_spec_l6Pixels (res_spec_l6Pixels r)) (Option.some.inj hm).symm
  · skip
    show EvU ext tbl (.c c_spec_l6Pixels_25) K_spec_l6Pixels_25 (s_spec_l6Pixels_25) _
    exact ok_spec_l6Pixels_25 r hm

theorem ok_spec_l6Pixels (p0 : S_Moving) (p1 : (List Int)) (r : Bool) (hm : m_spec_l6Pixels p0 p1 = some r) : Runs ext tbl 183 (as_spec_l6Pixels p0 p1) (res_spec_l6Pixels r) :=
  runs_of (vf := vf_spec_l6Pixels) (by kernel_rfl) rfl (st := (enter vf_spec_l6Pixels (as_spec_l6Pixels p0 p1)).getD default) (by kernel_rfl) (go_on [] 1000 True.intro (ok_spec_l6Pixels_0 p0 p1 r hm) (by kernel_rfl))
def O_spec_GoodMoving_17 (Q : VX → St → Prop) (e : (Bool) ⊕ ((Int))) : Prop := match e with | .inl e => Q = Post vf_spec_GoodMoving (res_spec_GoodMoving e) | .inr e => EvU ext tbl (.c c_spec_GoodMoving_37) K_spec_GoodMoving_37 (s_spec_GoodMoving_37 e) Q
theorem ok_spec_GoodMoving_37 (i37_0 : Int) (r : Bool) (hm : m_spec_GoodMoving_37 i37_0 = some r) : EvU ext tbl (.c c_spec_GoodMoving_37) K_spec_GoodMoving_37 (s_spec_GoodMoving_37 i37_0) (Post vf_spec_GoodMoving (res_spec_GoodMoving r)) := by
  exact go_end [] 1000 True.intro (congrArg res_spec_GoodMoving (Option.some.inj hm)) (by kernel_rfl)

theorem ok_spec_GoodMoving_17 (p0 : S_Moving) (i17_0 : Int) (i17_1 : Int) (y : (Int × Int) ⊕ ((Bool) ⊕ ((Int)))) (hm : m_spec_GoodMoving_17 p0 i17_0 i17_1 = some y) (Q : VX → St → Prop)
    (hin : ∀ s, y = .inl s → EvU ext tbl (.c c_spec_GoodMoving_17) K_spec_GoodMoving_17 (s_spec_GoodMoving_17 p0 s.1 s.2) Q) (hout : ∀ e, y = .inr e → O_spec_GoodMoving_17 Q e) : EvU ext tbl (.c c_spec_GoodMoving_17) K_spec_GoodMoving_17 (s_spec_GoodMoving_17 p0 i17_0 i17_1) Q := by
  obtain ⟨h17_0, hm⟩ | ⟨h17_0, hm⟩ := split_ite hm
  · skip
    obtain ⟨x17_1, h17_1, hm⟩ := bind_some hm
    obtain ⟨x17_2, h17_2, hm⟩ := bind_some hm
    obtain ⟨h17_3, hm⟩ | ⟨h17_3, hm⟩ := split_ite hm
    · skip
      obtain ⟨h17_4, hm⟩ | ⟨h17_4, hm⟩ := split_ite hm
      · skip
        have hQ : Q = Post vf_spec_GoodMoving (res_spec_GoodMoving false) := hout (.inl false) (Option.some.inj hm).symm
        subst hQ
        exact go_end [.bit true, .row (rS_Frame x17_1), .res (res_spec_l6Frame x17_2), .bit false, .bit false, .bit false, .num x17_1.pixels.length, .bit false, .bit false, .bit false, .bit false, .bit false, .bit false, .bit false, .bit true, .bit true, .bit true, .bit true, .bit true, .bit true, .bit true] 1000 (And.intro h17_0 (And.intro (rd_nn h17_1) (And.intro (at_row rS_Frame (rd_get h17_1)) (And.intro (ok_spec_l6Frame p0 x17_1 x17_2 h17_2) (And.intro (not_f h17_3) (And.intro (not_f h17_3) (And.intro (not_f h17_3) (And.intro (len_map (rI .i64) (show x17_1.pixels.length = x17_1.pixels.length from rfl)) (And.intro (not_f h17_3) (And.intro (not_f h17_3) (And.intro (not_f h17_3) (And.intro (not_f h17_3) (And.intro (not_f h17_3) (And.intro (not_f h17_3) (And.intro (not_f h17_3) (And.intro h17_4 (And.intro h17_4 (And.intro h17_4 (And.intro h17_4 (And.intro h17_4 (And.intro h17_4 (And.intro (Eq.refl true) True.intro)))))))))))))))))))))) (rfl : res_spec_GoodMoving false = res_spec_GoodMoving false) (by kernel_rfl)
      · skip
        obtain ⟨x17_5, h17_5, hm⟩ := bind_some hm
        obtain ⟨h17_6, hm⟩ | ⟨h17_6, hm⟩ := split_ite hm
        · skip
          refine go_on (u' := .c c_spec_GoodMoving_17) (K' := K_spec_GoodMoving_17) (st' := s_spec_GoodMoving_17 p0 (w64 (i17_0 + (x17_1.pixels.length : Int))) (w64 (i17_1 + 1))) [.bit true, .row (rS_Frame x17_1), .res (res_spec_l6Frame x17_2), .bit false, .bit false, .bit false, .num x17_1.pixels.length, .bit false, .bit false, .bit false, .bit false, .bit false, .bit false, .bit false, .bit false, .bit false, .bit false, .bit false, .res (res_spec_l6Pixels x17_5), .bit false, .bit false, .bit false, .num x17_1.pixels.length] 1000 (And.intro h17_0 (And.intro (rd_nn h17_1) (And.intro (at_row rS_Frame (rd_get h17_1)) (And.intro (ok_spec_l6Frame p0 x17_1 x17_2 h17_2) (And.intro (not_f h17_3) (And.intro (not_f h17_3) (And.intro (not_f h17_3) (And.intro (len_map (rI .i64) (show x17_1.pixels.length = x17_1.pixels.length from rfl)) (And.intro (not_f h17_3) (And.intro (not_f h17_3) (And.intro (not_f h17_3) (And.intro (not_f h17_3) (And.intro (not_f h17_3) (And.intro (not_f h17_3) (And.intro (not_f h17_3) (And.intro h17_4 (And.intro h17_4 (And.intro h17_4 (And.intro h17_4 (And.intro (ok_spec_l6Pixels p0 x17_1.pixels x17_5 h17_5) (And.intro h17_4 (And.intro h17_4 (And.intro (not_f h17_6) (And.intro (len_map (rI .i64) (show x17_1.pixels.length = x17_1.pixels.length from rfl)) True.intro)))))))))))))))))))))))) ?_ (by kernel_rfl)
          exact hin ((w64 (i17_0 + (x17_1.pixels.length : Int))), (w64 (i17_1 + 1))) (Option.some.inj hm).symm
        · skip
          have hQ : Q = Post vf_spec_GoodMoving (res_spec_GoodMoving false) := hout (.inl false) (Option.some.inj hm).symm
          subst hQ
          exact go_end [.bit true, .row (rS_Frame x17_1), .res (res_spec_l6Frame x17_2), .bit false, .bit false, .bit false, .num x17_1.pixels.length, .bit false, .bit false, .bit false, .bit false, .bit false, .bit false, .bit false, .bit false, .bit false, .bit false, .bit false, .res (res_spec_l6Pixels x17_5), .bit false, .bit false, .bit true] 1000 (And.intro h17_0 (And.intro (rd_nn h17_1) (And.intro (at_row rS_Frame (rd_get h17_1)) (And.intro (ok_spec_l6Frame p0 x17_1 x17_2 h17_2) (And.intro (not_f h17_3) (And.intro (not_f h17_3) (And.intro (not_f h17_3) (And.intro (len_map (rI .i64) (show x17_1.pixels.length = x17_1.pixels.length from rfl)) (And.intro (not_f h17_3) (And.intro (not_f h17_3) (And.intro (not_f h17_3) (And.intro (not_f h17_3) (And.intro (not_f h17_3) (And.intro (not_f h17_3) (And.intro (not_f h17_3) (And.intro h17_4 (And.intro h17_4 (And.intro h17_4 (And.intro h17_4 (And.intro (ok_spec_l6Pixels p0 x17_1.pixels x17_5 h17_5) (And.intro h17_4 (And.intro h17_4 (And.intro (not_t h17_6) True.intro))))))))))))))))))))))) (rfl : res_spec_GoodMoving false = res_spec_GoodMoving false) (by kernel_rfl)
    · skip
      have hQ : Q = Post vf_spec_GoodMoving (res_spec_GoodMoving false) := hout (.inl false) (Option.some.inj hm).symm
      subst hQ
      exact go_end [.bit true, .row (rS_Frame x17_1), .res (res_spec_l6Frame x17_2), .bit true, .bit true, .bit true, .bit true, .bit true, .bit true, .bit true, .bit true, .bit true, .bit true, .bit true, .bit true, .bit true, .bit true, .bit true, .bit true, .bit true] 1000 (And.intro h17_0 (And.intro (rd_nn h17_1) (And.intro (at_row rS_Frame (rd_get h17_1)) (And.intro (ok_spec_l6Frame p0 x17_1 x17_2 h17_2) (And.intro (not_t h17_3) (And.intro (not_t h17_3) (And.intro (not_t h17_3) (And.intro (not_t h17_3) (And.intro (not_t h17_3) (And.intro (not_t h17_3) (And.intro (not_t h17_3) (And.intro (not_t h17_3) (And.intro (not_t h17_3) (And.intro (not_t h17_3) (And.intro (Eq.refl true) (And.intro (Eq.refl true) (And.intro (Eq.refl true) (And.intro (Eq.refl true) (And.intro (Eq.refl true) (And.intro (Eq.refl true) (And.intro (Eq.refl true) True.intro))))))))))))))))))))) (rfl : res_spec_GoodMoving false = res_spec_GoodMoving false) (by kernel_rfl)
  · skip
    refine go_on (u' := .c c_spec_GoodMoving_37) (K' := K_spec_GoodMoving_37) (st' := s_spec_GoodMoving_37 i17_0) [.bit false] 1000 (And.intro h17_0 True.intro) ?_ (by kernel_rfl)
    exact hout (.inr i17_0) (Option.some.inj hm).symm

theorem ok_spec_GoodMoving_0 (p0 : S_Moving) (r : Bool) (hm : m_spec_GoodMoving_0 p0 = some r) : EvU ext tbl (.c c_spec_GoodMoving_0) K_spec_GoodMoving_0 (s_spec_GoodMoving_0 p0) (Post vf_spec_GoodMoving (res_spec_GoodMoving r)) := by
  obtain ⟨x0_0, h0_0, hm⟩ := bind_some hm
  obtain ⟨h0_1, hm⟩ | ⟨h0_1, hm⟩ := split_ite hm
  · skip
    obtain ⟨h0_2, hm⟩ | ⟨h0_2, hm⟩ := split_ite hm
    · skip
      exact go_end [.res (res_spec_l6Head x0_0), .bit false, .bit false, .bit false, .num p0.frames.length, .bit false, .bit false, .bit true, .bit true, .bit true, .bit true, .bit true, .bit true] 1000 (And.intro (ok_spec_l6Head p0 x0_0 h0_0) (And.intro (not_f h0_1) (And.intro (not_f h0_1) (And.intro (not_f h0_1) (And.intro (len_map rS_Frame (show p0.frames.length = p0.frames.length from rfl)) (And.intro (not_f h0_1) (And.intro (not_f h0_1) (And.intro h0_2 (And.intro h0_2 (And.intro h0_2 (And.intro h0_2 (And.intro h0_2 (And.intro (Eq.refl true) True.intro))))))))))))) (congrArg res_spec_GoodMoving (Option.some.inj hm)) (by kernel_rfl)
    · skip
      obtain ⟨h0_3, hm⟩ | ⟨h0_3, hm⟩ := split_ite hm
      · skip
        exact go_end [.res (res_spec_l6Head x0_0), .bit false, .bit false, .bit false, .num p0.frames.length, .bit false, .bit false, .bit false, .bit false, .bit false, .num p0.frames.length, .bit false, .bit false, .bit true] 1000 (And.intro (ok_spec_l6Head p0 x0_0 h0_0) (And.intro (not_f h0_1) (And.intro (not_f h0_1) (And.intro (not_f h0_1) (And.intro (len_map rS_Frame (show p0.frames.length = p0.frames.length from rfl)) (And.intro (not_f h0_1) (And.intro (not_f h0_1) (And.intro h0_2 (And.intro h0_2 (And.intro h0_2 (And.intro (len_map rS_Frame (show p0.frames.length = p0.frames.length from rfl)) (And.intro h0_2 (And.intro h0_2 (And.intro h0_3 True.intro)))))))))))))) (congrArg res_spec_GoodMoving (Option.some.inj hm)) (by kernel_rfl)
      · skip
        refine go_on (u' := .c c_spec_GoodMoving_17) (K' := K_spec_GoodMoving_17) (st' := s_spec_GoodMoving_17 p0 0 0) [.res (res_spec_l6Head x0_0), .bit false, .bit false, .bit false, .num p0.frames.length, .bit false, .bit false, .bit false, .bit false, .bit false, .num p0.frames.length, .bit false, .bit false, .bit false, .num p0.frames.length] 1000 (And.intro (ok_spec_l6Head p0 x0_0 h0_0) (And.intro (not_f h0_1) (And.intro (not_f h0_1) (And.intro (not_f h0_1) (And.intro (len_map rS_Frame (show p0.frames.length = p0.frames.length from rfl)) (And.intro (not_f h0_1) (And.intro (not_f h0_1) (And.intro h0_2 (And.intro h0_2 (And.intro h0_2 (And.intro (len_map rS_Frame (show p0.frames.length = p0.frames.length from rfl)) (And.intro h0_2 (And.intro h0_2 (And.intro h0_3 (And.intro (len_map rS_Frame (show p0.frames.length = p0.frames.length from rfl)) True.intro))))))))))))))) ?_ (by kernel_rfl)
        obtain ⟨e, he, hm⟩ := bind_some hm
        refine loop_rule (u := .c c_spec_GoodMoving_17) (K := K_spec_GoodMoving_17) (Q := (Post vf_spec_GoodMoving (res_spec_GoodMoving r))) (b := lp_spec_GoodMoving_17 p0) (We := O_spec_GoodMoving_17 (Post vf_spec_GoodMoving (res_spec_GoodMoving r))) (stJ := fun s => s_spec_GoodMoving_17 p0 s.1 s.2) (s := (0, 0)) (fun s y hb hin hout => ok_spec_GoodMoving_17 p0 s.1 s.2 y hb (Post vf_spec_GoodMoving (res_spec_GoodMoving r)) hin hout) he ?_
        rcases e with e | e
        · skip
          exact congrArg (fun r => Post vf_spec_GoodMoving (res_spec_GoodMoving r)) (Option.some.inj hm).symm
        · skip
          show EvU ext tbl (.c c_spec_GoodMoving_37) K_spec_GoodMoving_37 (s_spec_GoodMoving_37 e) _
          exact ok_spec_GoodMoving_37 e r hm
  · skip
    exact go_end [.res (res_spec_l6Head x0_0), .bit true, .bit true, .bit true, .bit true, .bit true, .bit true, .bit true, .bit true, .bit true, .bit true, .bit true] 1000 (And.intro (ok_spec_l6Head p0 x0_0 h0_0) (And.intro (not_t h0_1) (And.intro (not_t h0_1) (And.intro (not_t h0_1) (And.intro (not_t h0_1) (And.intro (not_t h0_1) (And.intro (Eq.refl true) (And.intro (Eq.refl true) (And.intro (Eq.refl true) (And.intro (Eq.refl true) (And.intro (Eq.refl true) (And.intro (Eq.refl true) True.intro)))))))))))) (congrArg res_spec_GoodMoving (Option.some.inj hm)) (by kernel_rfl)

theorem ok_spec_GoodMoving (p0 : S_Moving) (r : Bool) (hm : m_spec_GoodMoving p0 = some r) : Runs ext tbl 124 (as_spec_GoodMoving p0) (res_spec_GoodMoving r) :=
  runs_of (vf := vf_spec_GoodMoving) (by kernel_rfl) rfl (st := (enter vf_spec_GoodMoving (as_spec_GoodMoving p0)).getD default) (by kernel_rfl) (go_on [] 1000 True.intro (ok_spec_GoodMoving_0 p0 r hm) (by kernel_rfl))
def O_spec_Screens_91 (p0 : S_Moving) (i36_0 : Int) (Q : VX → St → Prop) (e : ((List (List Int)) × (List Int))) : Prop := EvU ext tbl (.c c_spec_Screens_104) K_spec_Screens_104 (s_spec_Screens_104 p0 i36_0 e.1 e.2) Q
def O_spec_Screens_55 (p0 : S_Moving) (i36_0 : Int) (x36_1 : S_Frame) (l36_1 : (List Int)) (l36_2 : (List (List Int))) (Q : VX → St → Prop) (e : ((List Int))) : Prop := EvU ext tbl (.c c_spec_Screens_71) K_spec_Screens_71 (s_spec_Screens_71 p0 i36_0 x36_1 l36_1 l36_2 e) Q
def O_spec_Screens_36 (Q : VX → St → Prop) (e : ((List (List Int)))) : Prop := EvU ext tbl (.c c_spec_Screens_106) K_spec_Screens_106 (s_spec_Screens_106 e) Q
def O_spec_Screens_17 (p0 : S_Moving) (Q : VX → St → Prop) (e : ((List Int))) : Prop := EvU ext tbl (.c c_spec_Screens_29) K_spec_Screens_29 (s_spec_Screens_29 p0 e) Q
theorem ok_spec_Screens_104 (p0 : S_Moving) (i36_0 : Int) (l104_0 : (List (List Int))) (l104_1 : (List Int)) (y : (Int × (List Int) × (List (List Int))) ⊕ (((List (List Int))))) (hm : m_spec_Screens_104 p0 i36_0 l104_0 l104_1 = some y) (Q : VX → St → Prop)
    (hin : ∀ s, y = .inl s → EvU ext tbl (.c c_spec_Screens_36) K_spec_Screens_36 (s_spec_Screens_36 p0 s.1 s.2.1 s.2.2) Q) (hout : ∀ e, y = .inr e → O_spec_Screens_36 Q e) : EvU ext tbl (.c c_spec_Screens_104) K_spec_Screens_104 (s_spec_Screens_104 p0 i36_0 l104_0 l104_1) Q := by
  refine go_on (u' := .c c_spec_Screens_36) (K' := K_spec_Screens_36) (st' := s_spec_Screens_36 p0 (w64 (i36_0 + 1)) l104_1 l104_0) [.num l104_1.length, .num l104_0.length] 1000 (And.intro (lens l104_1.length l104_1.length rfl) (And.intro (lens l104_0.length l104_0.length rfl) True.intro)) ?_ (by kernel_rfl)
  exact hin ((w64 (i36_0 + 1)), l104_1, l104_0) (Option.some.inj hm).symm

theorem ok_spec_Screens_91 (p0 : S_Moving) (i36_0 : Int) (x36_1 : S_Frame) (i91_0 : Int) (l91_1 : (List (List Int))) (l91_2 : (List Int)) (y : (Int × (List (List Int)) × (List Int)) ⊕ (((List (List Int)) × (List Int)))) (hm : m_spec_Screens_91 p0 i36_0 x36_1 i91_0 l91_1 l91_2 = some y) (Q : VX → St → Prop)
    (hin : ∀ s, y = .inl s → EvU ext tbl (.c c_spec_Screens_91) K_spec_Screens_91 (s_spec_Screens_91 p0 i36_0 x36_1 s.1 s.2.1 s.2.2) Q) (hout : ∀ e, y = .inr e → O_spec_Screens_91 p0 i36_0 Q e) : EvU ext tbl (.c c_spec_Screens_91) K_spec_Screens_91 (s_spec_Screens_91 p0 i36_0 x36_1 i91_0 l91_1 l91_2) Q := by
  obtain ⟨h91_0, hm⟩ | ⟨h91_0, hm⟩ := split_ite hm
  · skip
    obtain ⟨x91_1, h91_1, hm⟩ := bind_some hm
    obtain ⟨x91_2, h91_2, hm⟩ := bind_some hm
    refine go_on (u' := .c c_spec_Screens_91) (K' := K_spec_Screens_91) (st' := s_spec_Screens_91 p0 i36_0 x36_1 (w64 (i91_0 + 1)) l91_1 (l91_2.set (0 + Int.toNat (w64 ((w64 ((w64 ((w64 (x36_1.y + (w64 (Int.tdiv i91_0 x36_1.width)))) * p0.width)) + x36_1.x)) + (Int.tmod i91_0 x36_1.width)))) (-1))) [.bit true, .rows (List.map (rI .i64) (l91_2.set (0 + Int.toNat (w64 ((w64 ((w64 ((w64 (x36_1.y + (w64 (Int.tdiv i91_0 x36_1.width)))) * p0.width)) + x36_1.x)) + (Int.tmod i91_0 x36_1.width)))) (-1))), .num l91_1.length, .num ((l91_2.set (0 + Int.toNat (w64 ((w64 ((w64 ((w64 (x36_1.y + (w64 (Int.tdiv i91_0 x36_1.width)))) * p0.width)) + x36_1.x)) + (Int.tmod i91_0 x36_1.width)))) (-1)).length)] 1000 (And.intro h91_0 (And.intro (ck_p h91_1) (And.intro (ck_p h91_1) (And.intro (rd_in rfl h91_2) (And.intro (put_ob (rI .i64) (-1) 0 (.lit (.int .i64 (-1))) (rd_get0 h91_2) (by kernel_rfl) (by kernel_rfl)) (And.intro (lens l91_1.length l91_1.length rfl) (And.intro (lens l91_2.length ((l91_2.set (0 + Int.toNat (w64 ((w64 ((w64 ((w64 (x36_1.y + (w64 (Int.tdiv i91_0 x36_1.width)))) * p0.width)) + x36_1.x)) + (Int.tmod i91_0 x36_1.width)))) (-1)).length) (set_len rfl)) True.intro))))))) ?_ (by kernel_rfl)
    exact hin ((w64 (i91_0 + 1)), l91_1, (l91_2.set (0 + Int.toNat (w64 ((w64 ((w64 ((w64 (x36_1.y + (w64 (Int.tdiv i91_0 x36_1.width)))) * p0.width)) + x36_1.x)) + (Int.tmod i91_0 x36_1.width)))) (-1))) (Option.some.inj hm).symm
  · skip
    refine go_on (u' := .c c_spec_Screens_104) (K' := K_spec_Screens_104) (st' := s_spec_Screens_104 p0 i36_0 l91_1 l91_2) [.bit false, .num l91_1.length, .num l91_2.length] 1000 (And.intro h91_0 (And.intro (lens l91_1.length l91_1.length rfl) (And.intro (lens l91_2.length l91_2.length rfl) True.intro))) ?_ (by kernel_rfl)
    exact hout (l91_1, l91_2) (Option.some.inj hm).symm

theorem ok_spec_Screens_71 (p0 : S_Moving) (i36_0 : Int) (x36_1 : S_Frame) (l36_1 : (List Int)) (l36_2 : (List (List Int))) (l71_0 : (List Int)) (y : (Int × (List Int) × (List (List Int))) ⊕ (((List (List Int))))) (hm : m_spec_Screens_71 p0 i36_0 x36_1 l36_1 l36_2 l71_0 = some y) (Q : VX → St → Prop)
    (hin : ∀ s, y = .inl s → EvU ext tbl (.c c_spec_Screens_36) K_spec_Screens_36 (s_spec_Screens_36 p0 s.1 s.2.1 s.2.2) Q) (hout : ∀ e, y = .inr e → O_spec_Screens_36 Q e) : EvU ext tbl (.c c_spec_Screens_71) K_spec_Screens_71 (s_spec_Screens_71 p0 i36_0 x36_1 l36_1 l36_2 l71_0) Q := by
  obtain ⟨x71_0, h71_0, hm⟩ := bind_some hm
  obtain ⟨h71_1, hm⟩ | ⟨h71_1, hm⟩ := split_ite hm
  · skip
    refine go_on (u' := .c c_spec_Screens_36) (K' := K_spec_Screens_36) (st' := s_spec_Screens_36 p0 (w64 (i36_0 + 1)) l36_1 (l36_2 ++ ([l71_0] : List (List Int)))) [.rows (List.map (rI .i64) l71_0), .rows (List.map (rI .i64) l71_0), .rows (List.map (rL (rI .i64)) ([l71_0] : List (List Int))), .num 1, .rows (List.map (rL (rI .i64)) (l36_2 ++ ([l71_0] : List (List Int)))), .num ((l36_2 ++ ([l71_0] : List (List Int))).length), .bit true, .num l36_1.length, .num ((l36_2 ++ ([l71_0] : List (List Int))).length)] 1000 (And.intro (all_le (rI .i64) l71_0 rfl) (And.intro (all_dt (rI .i64) l71_0 rfl) (And.intro (all_le (rI .i64) l71_0 rfl) (And.intro (all_dt (rI .i64) l71_0 rfl) (And.intro (Eq.refl (List.map (rL (rI .i64)) ([l71_0] : List (List Int)))) (And.intro (len_map (rL (rI .i64)) (show 1 = ([l71_0] : List (List Int)).length from rfl)) (And.intro (all_le (rL (rI .i64)) ([l71_0] : List (List Int)) rfl) (And.intro (app_ck (rL (rI .i64)) l36_2 ([l71_0] : List (List Int)) rfl rfl h71_0) (And.intro (app_tell (rL (rI .i64)) l36_2 ([l71_0] : List (List Int)) rfl rfl) (And.intro (len_map (rL (rI .i64)) (show (l36_2 ++ ([l71_0] : List (List Int))).length = (l36_2 ++ ([l71_0] : List (List Int))).length from rfl)) (And.intro h71_1 (And.intro (lens l36_1.length l36_1.length rfl) (And.intro (lens ((l36_2 ++ ([l71_0] : List (List Int))).length) ((l36_2 ++ ([l71_0] : List (List Int))).length) rfl) True.intro))))))))))))) ?_ (by kernel_rfl)
    exact hin ((w64 (i36_0 + 1)), l36_1, (l36_2 ++ ([l71_0] : List (List Int)))) (Option.some.inj hm).symm
  · skip
    obtain ⟨x71_2, h71_2, hm⟩ := bind_some hm
    obtain ⟨h71_3, hm⟩ | ⟨h71_3, hm⟩ := split_ite hm
    · skip
      refine go_on (u' := .c c_spec_Screens_91) (K' := K_spec_Screens_91) (st' := s_spec_Screens_91 p0 i36_0 x36_1 0 (l36_2 ++ ([l71_0] : List (List Int))) (([] : List Int) ++ l71_0)) [.rows (List.map (rI .i64) l71_0), .rows (List.map (rI .i64) l71_0), .rows (List.map (rL (rI .i64)) ([l71_0] : List (List Int))), .num 1, .rows (List.map (rL (rI .i64)) (l36_2 ++ ([l71_0] : List (List Int)))), .num ((l36_2 ++ ([l71_0] : List (List Int))).length), .bit false, .rows (List.map (rI .i64) (([] : List Int) ++ l71_0)), .num ((([] : List Int) ++ l71_0).length), .bit true, .num x36_1.pixels.length, .num ((l36_2 ++ ([l71_0] : List (List Int))).length), .num ((([] : List Int) ++ l71_0).length)] 1000 (And.intro (all_le (rI .i64) l71_0 rfl) (And.intro (all_dt (rI .i64) l71_0 rfl) (And.intro (all_le (rI .i64) l71_0 rfl) (And.intro (all_dt (rI .i64) l71_0 rfl) (And.intro (Eq.refl (List.map (rL (rI .i64)) ([l71_0] : List (List Int)))) (And.intro (len_map (rL (rI .i64)) (show 1 = ([l71_0] : List (List Int)).length from rfl)) (And.intro (all_le (rL (rI .i64)) ([l71_0] : List (List Int)) rfl) (And.intro (app_ck (rL (rI .i64)) l36_2 ([l71_0] : List (List Int)) rfl rfl h71_0) (And.intro (app_tell (rL (rI .i64)) l36_2 ([l71_0] : List (List Int)) rfl rfl) (And.intro (len_map (rL (rI .i64)) (show (l36_2 ++ ([l71_0] : List (List Int))).length = (l36_2 ++ ([l71_0] : List (List Int))).length from rfl)) (And.intro h71_1 (And.intro (app_ck_ro (rI .i64) ([] : List Int) l71_0 rfl h71_2) (And.intro (app_tell_ro (rI .i64) ([] : List Int) l71_0 rfl) (And.intro (len_map (rI .i64) (show (([] : List Int) ++ l71_0).length = (([] : List Int) ++ l71_0).length from rfl)) (And.intro h71_3 (And.intro (len_map (rI .i64) (show x36_1.pixels.length = x36_1.pixels.length from rfl)) (And.intro (lens ((l36_2 ++ ([l71_0] : List (List Int))).length) ((l36_2 ++ ([l71_0] : List (List Int))).length) rfl) (And.intro (lens ((([] : List Int) ++ l71_0).length) ((([] : List Int) ++ l71_0).length) rfl) True.intro)))))))))))))))))) ?_ (by kernel_rfl)
      obtain ⟨e, he, hm⟩ := bind_some hm
      refine loop_rule (u := .c c_spec_Screens_91) (K := K_spec_Screens_91) (Q := Q) (b := lp_spec_Screens_91 p0 i36_0 x36_1) (We := O_spec_Screens_91 p0 i36_0 Q) (stJ := fun s => s_spec_Screens_91 p0 i36_0 x36_1 s.1 s.2.1 s.2.2) (s := (0, (l36_2 ++ ([l71_0] : List (List Int))), (([] : List Int) ++ l71_0))) (fun s y hb hin hout => ok_spec_Screens_91 p0 i36_0 x36_1 s.1 s.2.1 s.2.2 y hb Q hin hout) he ?_
      show EvU ext tbl (.c c_spec_Screens_104) K_spec_Screens_104 (s_spec_Screens_104 p0 i36_0 e.1 e.2) _
      exact ok_spec_Screens_104 p0 i36_0 e.1 e.2 y hm Q hin hout
    · skip
      refine go_on (u' := .c c_spec_Screens_104) (K' := K_spec_Screens_104) (st' := s_spec_Screens_104 p0 i36_0 (l36_2 ++ ([l71_0] : List (List Int))) (([] : List Int) ++ l71_0)) [.rows (List.map (rI .i64) l71_0), .rows (List.map (rI .i64) l71_0), .rows (List.map (rL (rI .i64)) ([l71_0] : List (List Int))), .num 1, .rows (List.map (rL (rI .i64)) (l36_2 ++ ([l71_0] : List (List Int)))), .num ((l36_2 ++ ([l71_0] : List (List Int))).length), .bit false, .rows (List.map (rI .i64) (([] : List Int) ++ l71_0)), .num ((([] : List Int) ++ l71_0).length), .bit false, .num ((l36_2 ++ ([l71_0] : List (List Int))).length), .num ((([] : List Int) ++ l71_0).length)] 1000 (And.intro (all_le (rI .i64) l71_0 rfl) (And.intro (all_dt (rI .i64) l71_0 rfl) (And.intro (all_le (rI .i64) l71_0 rfl) (And.intro (all_dt (rI .i64) l71_0 rfl) (And.intro (Eq.refl (List.map (rL (rI .i64)) ([l71_0] : List (List Int)))) (And.intro (len_map (rL (rI .i64)) (show 1 = ([l71_0] : List (List Int)).length from rfl)) (And.intro (all_le (rL (rI .i64)) ([l71_0] : List (List Int)) rfl) (And.intro (app_ck (rL (rI .i64)) l36_2 ([l71_0] : List (List Int)) rfl rfl h71_0) (And.intro (app_tell (rL (rI .i64)) l36_2 ([l71_0] : List (List Int)) rfl rfl) (And.intro (len_map (rL (rI .i64)) (show (l36_2 ++ ([l71_0] : List (List Int))).length = (l36_2 ++ ([l71_0] : List (List Int))).length from rfl)) (And.intro h71_1 (And.intro (app_ck_ro (rI .i64) ([] : List Int) l71_0 rfl h71_2) (And.intro (app_tell_ro (rI .i64) ([] : List Int) l71_0 rfl) (And.intro (len_map (rI .i64) (show (([] : List Int) ++ l71_0).length = (([] : List Int) ++ l71_0).length from rfl)) (And.intro h71_3 (And.intro (lens ((l36_2 ++ ([l71_0] : List (List Int))).length) ((l36_2 ++ ([l71_0] : List (List Int))).length) rfl) (And.intro (lens ((([] : List Int) ++ l71_0).length) ((([] : List Int) ++ l71_0).length) rfl) True.intro))))))))))))))))) ?_ (by kernel_rfl)
      exact ok_spec_Screens_104 p0 i36_0 (l36_2 ++ ([l71_0] : List (List Int))) (([] : List Int) ++ l71_0) y hm Q hin hout

theorem ok_spec_Screens_55 (p0 : S_Moving) (i36_0 : Int) (x36_1 : S_Frame) (l36_1 : (List Int)) (l36_2 : (List (List Int))) (i55_0 : Int) (l55_1 : (List Int)) (y : (Int × (List Int)) ⊕ (((List Int)))) (hm : m_spec_Screens_55 p0 i36_0 x36_1 l36_1 l36_2 i55_0 l55_1 = some y) (Q : VX → St → Prop)
    (hin : ∀ s, y = .inl s → EvU ext tbl (.c c_spec_Screens_55) K_spec_Screens_55 (s_spec_Screens_55 p0 i36_0 x36_1 l36_1 l36_2 s.1 s.2) Q) (hout : ∀ e, y = .inr e → O_spec_Screens_55 p0 i36_0 x36_1 l36_1 l36_2 Q e) : EvU ext tbl (.c c_spec_Screens_55) K_spec_Screens_55 (s_spec_Screens_55 p0 i36_0 x36_1 l36_1 l36_2 i55_0 l55_1) Q := by
  obtain ⟨h55_0, hm⟩ | ⟨h55_0, hm⟩ := split_ite hm
  · skip
    obtain ⟨x55_1, h55_1, hm⟩ := bind_some hm
    obtain ⟨h55_2, hm⟩ | ⟨h55_2, hm⟩ := split_ite hm
    · skip
      obtain ⟨x55_3, h55_3, hm⟩ := bind_some hm
      obtain ⟨x55_4, h55_4, hm⟩ := bind_some hm
      refine go_on (u' := .c c_spec_Screens_55) (K' := K_spec_Screens_55) (st' := s_spec_Screens_55 p0 i36_0 x36_1 l36_1 l36_2 (w64 (i55_0 + 1)) (l55_1.set (0 + Int.toNat (w64 ((w64 ((w64 ((w64 (x36_1.y + (w64 (Int.tdiv i55_0 x36_1.width)))) * p0.width)) + x36_1.x)) + (Int.tmod i55_0 x36_1.width)))) x55_1)) [.bit true, .row ((rI .i64) x55_1), .bit true, .rows (List.map (rI .i64) (l55_1.set (0 + Int.toNat (w64 ((w64 ((w64 ((w64 (x36_1.y + (w64 (Int.tdiv i55_0 x36_1.width)))) * p0.width)) + x36_1.x)) + (Int.tmod i55_0 x36_1.width)))) x55_1)), .num l36_1.length, .num l36_2.length, .num ((l55_1.set (0 + Int.toNat (w64 ((w64 ((w64 ((w64 (x36_1.y + (w64 (Int.tdiv i55_0 x36_1.width)))) * p0.width)) + x36_1.x)) + (Int.tmod i55_0 x36_1.width)))) x55_1).length)] 1000 (And.intro h55_0 (And.intro (rd_nn h55_1) (And.intro (at_row (rI .i64) (rd_get h55_1)) (And.intro h55_2 (And.intro (ck_p h55_3) (And.intro (ck_p h55_3) (And.intro (rd_in rfl h55_4) (And.intro (put_ob (rI .i64) x55_1 0 (.lit (.int .i64 x55_1)) (rd_get0 h55_4) (by kernel_rfl) (by kernel_rfl)) (And.intro (lens l36_1.length l36_1.length rfl) (And.intro (lens l36_2.length l36_2.length rfl) (And.intro (lens l55_1.length ((l55_1.set (0 + Int.toNat (w64 ((w64 ((w64 ((w64 (x36_1.y + (w64 (Int.tdiv i55_0 x36_1.width)))) * p0.width)) + x36_1.x)) + (Int.tmod i55_0 x36_1.width)))) x55_1).length) (set_len rfl)) True.intro))))))))))) ?_ (by kernel_rfl)
      exact hin ((w64 (i55_0 + 1)), (l55_1.set (0 + Int.toNat (w64 ((w64 ((w64 ((w64 (x36_1.y + (w64 (Int.tdiv i55_0 x36_1.width)))) * p0.width)) + x36_1.x)) + (Int.tmod i55_0 x36_1.width)))) x55_1)) (Option.some.inj hm).symm
    · skip
      refine go_on (u' := .c c_spec_Screens_55) (K' := K_spec_Screens_55) (st' := s_spec_Screens_55 p0 i36_0 x36_1 l36_1 l36_2 (w64 (i55_0 + 1)) l55_1) [.bit true, .row ((rI .i64) x55_1), .bit false, .num l36_1.length, .num l36_2.length, .num l55_1.length] 1000 (And.intro h55_0 (And.intro (rd_nn h55_1) (And.intro (at_row (rI .i64) (rd_get h55_1)) (And.intro h55_2 (And.intro (lens l36_1.length l36_1.length rfl) (And.intro (lens l36_2.length l36_2.length rfl) (And.intro (lens l55_1.length l55_1.length rfl) True.intro))))))) ?_ (by kernel_rfl)
      exact hin ((w64 (i55_0 + 1)), l55_1) (Option.some.inj hm).symm
  · skip
    refine go_on (u' := .c c_spec_Screens_71) (K' := K_spec_Screens_71) (st' := s_spec_Screens_71 p0 i36_0 x36_1 l36_1 l36_2 l55_1) [.bit false, .num l36_1.length, .num l36_2.length, .num l55_1.length] 1000 (And.intro h55_0 (And.intro (lens l36_1.length l36_1.length rfl) (And.intro (lens l36_2.length l36_2.length rfl) (And.intro (lens l55_1.length l55_1.length rfl) True.intro)))) ?_ (by kernel_rfl)
    exact hout l55_1 (Option.some.inj hm).symm

theorem ok_spec_Screens_106 (l106_0 : (List (List Int))) (r : (List (List Int))) (hm : m_spec_Screens_106 l106_0 = some r) : EvU ext tbl (.c c_spec_Screens_106) K_spec_Screens_106 (s_spec_Screens_106 l106_0) (Post vf_spec_Screens (res_spec_Screens r)) := by
  exact go_end [.rows (List.map (rL (rI .i64)) l106_0)] 1000 (And.intro (all_le0 (rL (rI .i64)) l106_0 rfl) (And.intro (all_t (rL (rI .i64)) l106_0 rfl) True.intro)) (congrArg res_spec_Screens (Option.some.inj hm)) (by kernel_rfl)

theorem ok_spec_Screens_36 (p0 : S_Moving) (i36_0 : Int) (l36_1 : (List Int)) (l36_2 : (List (List Int))) (y : (Int × (List Int) × (List (List Int))) ⊕ (((List (List Int))))) (hm : m_spec_Screens_36 p0 i36_0 l36_1 l36_2 = some y) (Q : VX → St → Prop)
    (hin : ∀ s, y = .inl s → EvU ext tbl (.c c_spec_Screens_36) K_spec_Screens_36 (s_spec_Screens_36 p0 s.1 s.2.1 s.2.2) Q) (hout : ∀ e, y = .inr e → O_spec_Screens_36 Q e) : EvU ext tbl (.c c_spec_Screens_36) K_spec_Screens_36 (s_spec_Screens_36 p0 i36_0 l36_1 l36_2) Q := by
  obtain ⟨h36_0, hm⟩ | ⟨h36_0, hm⟩ := split_ite hm
  · skip
    obtain ⟨x36_1, h36_1, hm⟩ := bind_some hm
    obtain ⟨x36_2, h36_2, hm⟩ := bind_some hm
    refine go_on (u' := .c c_spec_Screens_55) (K' := K_spec_Screens_55) (st' := s_spec_Screens_55 p0 i36_0 x36_1 l36_1 l36_2 0 (([] : List Int) ++ l36_1)) [.bit true, .row (rS_Frame x36_1), .rows (List.map (rI .i64) (([] : List Int) ++ l36_1)), .num ((([] : List Int) ++ l36_1).length), .num x36_1.pixels.length, .num l36_1.length, .num l36_2.length, .num ((([] : List Int) ++ l36_1).length)] 1000 (And.intro h36_0 (And.intro (rd_nn h36_1) (And.intro (at_row rS_Frame (rd_get h36_1)) (And.intro (all_le (rI .i64) l36_1 rfl) (And.intro (app_ck (rI .i64) ([] : List Int) l36_1 rfl rfl h36_2) (And.intro (app_tell (rI .i64) ([] : List Int) l36_1 rfl rfl) (And.intro (len_map (rI .i64) (show (([] : List Int) ++ l36_1).length = (([] : List Int) ++ l36_1).length from rfl)) (And.intro (len_map (rI .i64) (show x36_1.pixels.length = x36_1.pixels.length from rfl)) (And.intro (lens l36_1.length l36_1.length rfl) (And.intro (lens l36_2.length l36_2.length rfl) (And.intro (lens ((([] : List Int) ++ l36_1).length) ((([] : List Int) ++ l36_1).length) rfl) True.intro))))))))))) ?_ (by kernel_rfl)
    obtain ⟨e, he, hm⟩ := bind_some hm
    refine loop_rule (u := .c c_spec_Screens_55) (K := K_spec_Screens_55) (Q := Q) (b := lp_spec_Screens_55 p0 i36_0 x36_1 l36_1 l36_2) (We := O_spec_Screens_55 p0 i36_0 x36_1 l36_1 l36_2 Q) (stJ := fun s => s_spec_Screens_55 p0 i36_0 x36_1 l36_1 l36_2 s.1 s.2) (s := (0, (([] : List Int) ++ l36_1))) (fun s y hb hin hout => ok_spec_Screens_55 p0 i36_0 x36_1 l36_1 l36_2 s.1 s.2 y hb Q hin hout) he ?_
    show EvU ext tbl (.c c_spec_Screens_71) K_spec_Screens_71 (s_spec_Screens_71 p0 i36_0 x36_1 l36_1 l36_2 e) _
    exact ok_spec_Screens_71 p0 i36_0 x36_1 l36_1 l36_2 e y hm Q hin hout
  · skip
    refine go_on (u' := .c c_spec_Screens_106) (K' := K_spec_Screens_106) (st' := s_spec_Screens_106 l36_2) [.bit false, .num l36_2.length] 1000 (And.intro h36_0 (And.intro (lens l36_2.length l36_2.length rfl) True.intro)) ?_ (by kernel_rfl)
    exact hout l36_2 (Option.some.inj hm).symm

theorem ok_spec_Screens_29 (p0 : S_Moving) (l29_0 : (List Int)) (r : (List (List Int))) (hm : m_spec_Screens_29 p0 l29_0 = some r) : EvU ext tbl (.c c_spec_Screens_29) K_spec_Screens_29 (s_spec_Screens_29 p0 l29_0) (Post vf_spec_Screens (res_spec_Screens r)) := by
  refine go_on (u' := .c c_spec_Screens_36) (K' := K_spec_Screens_36) (st' := s_spec_Screens_36 p0 0 l29_0 ([] : List (List Int))) [.num p0.frames.length, .num l29_0.length, .num (([] : List (List Int)).length)] 1000 (And.intro (len_map rS_Frame (show p0.frames.length = p0.frames.length from rfl)) (And.intro (lens l29_0.length l29_0.length rfl) (And.intro (lens 0 (([] : List (List Int)).length) rfl) True.intro))) ?_ (by kernel_rfl)
  obtain ⟨e, he, hm⟩ := bind_some hm
  refine loop_rule (u := .c c_spec_Screens_36) (K := K_spec_Screens_36) (Q := (Post vf_spec_Screens (res_spec_Screens r))) (b := lp_spec_Screens_36 p0) (We := O_spec_Screens_36 (Post vf_spec_Screens (res_spec_Screens r))) (stJ := fun s => s_spec_Screens_36 p0 s.1 s.2.1 s.2.2) (s := (0, l29_0, ([] : List (List Int)))) (fun s y hb hin hout => ok_spec_Screens_36 p0 s.1 s.2.1 s.2.2 y hb (Post vf_spec_Screens (res_spec_Screens r)) hin hout) he ?_
  show EvU ext tbl (.c c_spec_Screens_106) K_spec_Screens_106 (s_spec_Screens_106 e) _
  exact ok_spec_Screens_106 e r hm

theorem ok_spec_Screens_17 (p0 : S_Moving) (i17_0 : Int) (i17_1 : Int) (l17_2 : (List Int)) (y : (Int × Int × (List Int)) ⊕ (((List Int)))) (hm : m_spec_Screens_17 p0 i17_0 i17_1 l17_2 = some y) (Q : VX → St → Prop)
    (hin : ∀ s, y = .inl s → EvU ext tbl (.c c_spec_Screens_17) K_spec_Screens_17 (s_spec_Screens_17 p0 s.1 s.2.1 s.2.2) Q) (hout : ∀ e, y = .inr e → O_spec_Screens_17 p0 Q e) : EvU ext tbl (.c c_spec_Screens_17) K_spec_Screens_17 (s_spec_Screens_17 p0 i17_0 i17_1 l17_2) Q := by
  obtain ⟨h17_0, hm⟩ | ⟨h17_0, hm⟩ := split_ite hm
  · skip
    obtain ⟨x17_1, h17_1, hm⟩ := bind_some hm
    refine go_on (u' := .c c_spec_Screens_17) (K' := K_spec_Screens_17) (st' := s_spec_Screens_17 p0 i17_0 (w64 (i17_1 + 1)) (l17_2.set (0 + Int.toNat i17_1) (-1))) [.bit true, .rows (List.map (rI .i64) (l17_2.set (0 + Int.toNat i17_1) (-1))), .num ((l17_2.set (0 + Int.toNat i17_1) (-1)).length)] 1000 (And.intro h17_0 (And.intro (rd_in rfl h17_1) (And.intro (put_ob (rI .i64) (-1) 0 (.lit (.int .i64 (-1))) (rd_get0 h17_1) (by kernel_rfl) (by kernel_rfl)) (And.intro (lens l17_2.length ((l17_2.set (0 + Int.toNat i17_1) (-1)).length) (set_len rfl)) True.intro)))) ?_ (by kernel_rfl)
    exact hin (i17_0, (w64 (i17_1 + 1)), (l17_2.set (0 + Int.toNat i17_1) (-1))) (Option.some.inj hm).symm
  · skip
    refine go_on (u' := .c c_spec_Screens_29) (K' := K_spec_Screens_29) (st' := s_spec_Screens_29 p0 l17_2) [.bit false, .num l17_2.length] 1000 (And.intro h17_0 (And.intro (lens l17_2.length l17_2.length rfl) True.intro)) ?_ (by kernel_rfl)
    exact hout l17_2 (Option.some.inj hm).symm

theorem ok_spec_Screens_0 (p0 : S_Moving) (r : (List (List Int))) (hm : m_spec_Screens_0 p0 = some r) : EvU ext tbl (.c c_spec_Screens_0) K_spec_Screens_0 (s_spec_Screens_0 p0) (Post vf_spec_Screens (res_spec_Screens r)) := by
  obtain ⟨x0_0, h0_0, hm⟩ := bind_some hm
  obtain ⟨h0_1, hm⟩ | ⟨h0_1, hm⟩ := split_ite hm
  · skip
    obtain ⟨x0_2, h0_2, hm⟩ := bind_some hm
    refine go_on (u' := .c c_spec_Screens_17) (K' := K_spec_Screens_17) (st' := s_spec_Screens_17 p0 ((Int.toNat (w64 (p0.width * p0.height))) : Int) 0 (List.replicate (Int.toNat (w64 (p0.width * p0.height))) (0 : Int))) [.res (res_spec_GoodMoving x0_0), .bit false, .rows (List.map (rI .i64) (List.replicate (Int.toNat (w64 (p0.width * p0.height))) (0 : Int))), .num (Int.toNat (w64 (p0.width * p0.height))), .num ((List.replicate (Int.toNat (w64 (p0.width * p0.height))) (0 : Int)).length)] 1000 (And.intro (ok_spec_GoodMoving p0 x0_0 h0_0) (And.intro (not_f h0_1) (And.intro (ck_p h0_2) (And.intro (rep_ob (rI .i64) (Int.toNat (w64 (p0.width * p0.height))) (0 : Int) [.lit (.int .i64 0)] (by kernel_rfl)) (And.intro (len_map (rI .i64) (show (Int.toNat (w64 (p0.width * p0.height))) = (List.replicate (Int.toNat (w64 (p0.width * p0.height))) (0 : Int)).length from (rep_len (Int.toNat (w64 (p0.width * p0.height))) (0 : Int)))) (And.intro (lens (Int.toNat (w64 (p0.width * p0.height))) ((List.replicate (Int.toNat (w64 (p0.width * p0.height))) (0 : Int)).length) (rep_len (Int.toNat (w64 (p0.width * p0.height))) (0 : Int))) True.intro)))))) ?_ (by kernel_rfl)
    obtain ⟨e, he, hm⟩ := bind_some hm
    refine loop_rule (u := .c c_spec_Screens_17) (K := K_spec_Screens_17) (Q := (Post vf_spec_Screens (res_spec_Screens r))) (b := lp_spec_Screens_17 p0) (We := O_spec_Screens_17 p0 (Post vf_spec_Screens (res_spec_Screens r))) (stJ := fun s => s_spec_Screens_17 p0 s.1 s.2.1 s.2.2) (s := (((Int.toNat (w64 (p0.width * p0.height))) : Int), 0, (List.replicate (Int.toNat (w64 (p0.width * p0.height))) (0 : Int)))) (fun s y hb hin hout => ok_spec_Screens_17 p0 s.1 s.2.1 s.2.2 y hb (Post vf_spec_Screens (res_spec_Screens r)) hin hout) he ?_
    show EvU ext tbl (.c c_spec_Screens_29) K_spec_Screens_29 (s_spec_Screens_29 p0 e) _
    exact ok_spec_Screens_29 p0 e r hm
  · skip
    exact go_end [.res (res_spec_GoodMoving x0_0), .bit true, .rows (List.map (rL (rI .i64)) ([] : List (List Int)))] 1000 (And.intro (ok_spec_GoodMoving p0 x0_0 h0_0) (And.intro (not_t h0_1) (And.intro (all_le0 (rL (rI .i64)) ([] : List (List Int)) rfl) (And.intro (all_t (rL (rI .i64)) ([] : List (List Int)) rfl) True.intro)))) (congrArg res_spec_Screens (Option.some.inj hm)) (by kernel_rfl)

theorem ok_spec_Screens (p0 : S_Moving) (r : (List (List Int))) (hm : m_spec_Screens p0 = some r) : Runs ext tbl 37 (as_spec_Screens p0) (res_spec_Screens r) :=
  runs_of (vf := vf_spec_Screens) (by kernel_rfl) rfl (st := (enter vf_spec_Screens (as_spec_Screens p0)).getD default) (by kernel_rfl) (go_on [] 1000 True.intro (ok_spec_Screens_0 p0 r hm) (by kernel_rfl))
theorem ok_impl_goodSide_0 (p0 : Int) (r : Bool) (hm : m_impl_goodSide_0 p0 = some r) : EvU ext tbl (.c c_impl_goodSide_0) K_impl_goodSide_0 (s_impl_goodSide_0 p0) (Post vf_impl_goodSide (res_impl_goodSide r)) := by
  obtain ⟨h0_0, hm⟩ | ⟨h0_0, hm⟩ := split_ite hm
  · skip
    exact go_end [.bit true, .bit true, .bit true] 1000 (And.intro h0_0 (And.intro h0_0 (And.intro h0_0 True.intro))) (congrArg res_impl_goodSide (Option.some.inj hm)) (by kernel_rfl)
  · skip
    exact go_end [.bit false, .bit false, .bit false] 1000 (And.intro h0_0 (And.intro h0_0 (And.intro h0_0 True.intro))) (congrArg res_impl_goodSide (Option.some.inj hm)) (by kernel_rfl)

theorem ok_impl_goodSide (p0 : Int) (r : Bool) (hm : m_impl_goodSide p0 = some r) : Runs ext tbl 218 (as_impl_goodSide p0) (res_impl_goodSide r) :=
  runs_of (vf := vf_impl_goodSide) (by kernel_rfl) rfl (st := (enter vf_impl_goodSide (as_impl_goodSide p0)).getD default) (by kernel_rfl) (go_on [] 1000 True.intro (ok_impl_goodSide_0 p0 r hm) (by kernel_rfl))
theorem ok_impl_goodSides_0 (p0 : Int) (p1 : Int) (r : Bool) (hm : m_impl_goodSides_0 p0 p1 = some r) : EvU ext tbl (.c c_impl_goodSides_0) K_impl_goodSides_0 (s_impl_goodSides_0 p0 p1) (Post vf_impl_goodSides (res_impl_goodSides r)) := by
  obtain ⟨x0_0, h0_0, hm⟩ := bind_some hm
  obtain ⟨h0_1, hm⟩ | ⟨h0_1, hm⟩ := split_ite hm
  · skip
    obtain ⟨x0_2, h0_2, hm⟩ := bind_some hm
    obtain ⟨h0_3, hm⟩ | ⟨h0_3, hm⟩ := split_ite hm
    · skip
      exact go_end [.res (res_impl_goodSide x0_0), .bit true, .bit true, .res (res_impl_goodSide x0_2), .bit true, .bit true, .bit true, .bit true, .bit true, .bit true] 1000 (And.intro (ok_impl_goodSide p0 x0_0 h0_0) (And.intro h0_1 (And.intro h0_1 (And.intro (ok_impl_goodSide p1 x0_2 h0_2) (And.intro h0_1 (And.intro h0_3 (And.intro h0_3 (And.intro h0_3 (And.intro h0_3 (And.intro h0_3 True.intro)))))))))) (congrArg res_impl_goodSides (Option.some.inj hm)) (by kernel_rfl)
    · skip
      exact go_end [.res (res_impl_goodSide x0_0), .bit true, .bit true, .res (res_impl_goodSide x0_2), .bit true, .bit false, .bit false, .bit false, .bit false, .bit false] 1000 (And.intro (ok_impl_goodSide p0 x0_0 h0_0) (And.intro h0_1 (And.intro h0_1 (And.intro (ok_impl_goodSide p1 x0_2 h0_2) (And.intro h0_1 (And.intro h0_3 (And.intro h0_3 (And.intro h0_3 (And.intro h0_3 (And.intro h0_3 True.intro)))))))))) (congrArg res_impl_goodSides (Option.some.inj hm)) (by kernel_rfl)
  · skip
    exact go_end [.res (res_impl_goodSide x0_0), .bit false, .bit false, .bit false, .bit false, .bit false, .bit false, .bit false, .bit false] 1000 (And.intro (ok_impl_goodSide p0 x0_0 h0_0) (And.intro h0_1 (And.intro h0_1 (And.intro h0_1 (And.intro (Eq.refl false) (And.intro (Eq.refl false) (And.intro (Eq.refl false) (And.intro (Eq.refl false) (And.intro (Eq.refl false) True.intro))))))))) (congrArg res_impl_goodSides (Option.some.inj hm)) (by kernel_rfl)

theorem ok_impl_goodSides (p0 : Int) (p1 : Int) (r : Bool) (hm : m_impl_goodSides p0 p1 = some r) : Runs ext tbl 185 (as_impl_goodSides p0 p1) (res_impl_goodSides r) :=
  runs_of (vf := vf_impl_goodSides) (by kernel_rfl) rfl (st := (enter vf_impl_goodSides (as_impl_goodSides p0 p1)).getD default) (by kernel_rfl) (go_on [] 1000 True.intro (ok_impl_goodSides_0 p0 p1 r hm) (by kernel_rfl))
def O_impl_inRange_7 (Q : VX → St → Prop) (e : (Bool) ⊕ ((Unit))) : Prop := match e with | .inl e => Q = Post vf_impl_inRange (res_impl_inRange e) | .inr e => EvU ext tbl (.c c_impl_inRange_25) K_impl_inRange_25 (s_impl_inRange_25) Q
theorem ok_impl_inRange_25 (r : Bool) (hm : m_impl_inRange_25 = some r) : EvU ext tbl (.c c_impl_inRange_25) K_impl_inRange_25 (s_impl_inRange_25) (Post vf_impl_inRange (res_impl_inRange r)) := by
  exact go_end [] 1000 True.intro (congrArg res_impl_inRange (Option.some.inj hm)) (by kernel_rfl)

theorem ok_impl_inRange_7 (p1 : Int) (p0 : (List Int)) (i7_0 : Int) (y : (Int) ⊕ ((Bool) ⊕ ((Unit)))) (hm : m_impl_inRange_7 p1 p0 i7_0 = some y) (Q : VX → St → Prop)
    (hin : ∀ s, y = .inl s → EvU ext tbl (.c c_impl_inRange_7) K_impl_inRange_7 (s_impl_inRange_7 p1 p0 s) Q) (hout : ∀ e, y = .inr e → O_impl_inRange_7 Q e) : EvU ext tbl (.c c_impl_inRange_7) K_impl_inRange_7 (s_impl_inRange_7 p1 p0 i7_0) Q := by
  obtain ⟨h7_0, hm⟩ | ⟨h7_0, hm⟩ := split_ite hm
  · skip
    obtain ⟨x7_1, h7_1, hm⟩ := bind_some hm
    obtain ⟨h7_2, hm⟩ | ⟨h7_2, hm⟩ := split_ite hm
    · skip
      have hQ : Q = Post vf_impl_inRange (res_impl_inRange false) := hout (.inl false) (Option.some.inj hm).symm
      subst hQ
      exact go_end [.bit true, .row ((rI .i64) x7_1), .bit true, .bit true, .bit true, .bit true, .bit true] 1000 (And.intro h7_0 (And.intro (rd_nn h7_1) (And.intro (at_row (rI .i64) (rd_get h7_1)) (And.intro h7_2 (And.intro h7_2 (And.intro h7_2 (And.intro h7_2 (And.intro (Eq.refl true) True.intro)))))))) (rfl : res_impl_inRange false = res_impl_inRange false) (by kernel_rfl)
    · skip
      obtain ⟨h7_3, hm⟩ | ⟨h7_3, hm⟩ := split_ite hm
      · skip
        have hQ : Q = Post vf_impl_inRange (res_impl_inRange false) := hout (.inl false) (Option.some.inj hm).symm
        subst hQ
        exact go_end [.bit true, .row ((rI .i64) x7_1), .bit false, .bit false, .bit false, .bit false, .bit true] 1000 (And.intro h7_0 (And.intro (rd_nn h7_1) (And.intro (at_row (rI .i64) (rd_get h7_1)) (And.intro h7_2 (And.intro h7_2 (And.intro h7_2 (And.intro h7_2 (And.intro h7_3 True.intro)))))))) (rfl : res_impl_inRange false = res_impl_inRange false) (by kernel_rfl)
      · skip
        refine go_on (u' := .c c_impl_inRange_7) (K' := K_impl_inRange_7) (st' := s_impl_inRange_7 p1 p0 (w64 (i7_0 + 1))) [.bit true, .row ((rI .i64) x7_1), .bit false, .bit false, .bit false, .bit false, .bit false] 1000 (And.intro h7_0 (And.intro (rd_nn h7_1) (And.intro (at_row (rI .i64) (rd_get h7_1)) (And.intro h7_2 (And.intro h7_2 (And.intro h7_2 (And.intro h7_2 (And.intro h7_3 True.intro)))))))) ?_ (by kernel_rfl)
        exact hin (w64 (i7_0 + 1)) (Option.some.inj hm).symm
  · skip
    refine go_on (u' := .c c_impl_inRange_25) (K' := K_impl_inRange_25) (st' := s_impl_inRange_25) [.bit false] 1000 (And.intro h7_0 True.intro) ?_ (by kernel_rfl)
    exact hout (.inr ()) (Option.some.inj hm).symm

theorem ok_impl_inRange_0 (p0 : (List Int)) (p1 : Int) (r : Bool) (hm : m_impl_inRange_0 p0 p1 = some r) : EvU ext tbl (.c c_impl_inRange_0) K_impl_inRange_0 (s_impl_inRange_0 p0 p1) (Post vf_impl_inRange (res_impl_inRange r)) := by
  refine go_on (u' := .c c_impl_inRange_7) (K' := K_impl_inRange_7) (st' := s_impl_inRange_7 p1 p0 0) [.num p0.length] 1000 (And.intro (len_map (rI .i64) (show p0.length = p0.length from rfl)) True.intro) ?_ (by kernel_rfl)
  obtain ⟨e, he, hm⟩ := bind_some hm
  refine loop_rule (u := .c c_impl_inRange_7) (K := K_impl_inRange_7) (Q := (Post vf_impl_inRange (res_impl_inRange r))) (b := lp_impl_inRange_7 p1 p0) (We := O_impl_inRange_7 (Post vf_impl_inRange (res_impl_inRange r))) (stJ := fun s => s_impl_inRange_7 p1 p0 s) (s := 0) (fun s y hb hin hout => ok_impl_inRange_7 p1 p0 s y hb (Post vf_impl_inRange (res_impl_inRange r)) hin hout) he ?_
  rcases e with e | e
  · skip
    exact congrArg (fun r => Post vf_impl_inRange (res_impl_inRange r)) (Option.some.inj hm).symm
  · skip
    show EvU ext tbl (.c c_impl_inRange_25) K_impl_inRange_25 (s_impl_inRange_25) _
    exact ok_impl_inRange_25 r hm

theorem ok_impl_inRange (p0 : (List Int)) (p1 : Int) (r : Bool) (hm : m_impl_inRange p0 p1 = some r) : Runs ext tbl 104 (as_impl_inRange p0 p1) (res_impl_inRange r) :=
  runs_of (vf := vf_impl_inRange) (by kernel_rfl) rfl (st := (enter vf_impl_inRange (as_impl_inRange p0 p1)).getD default) (by kernel_rfl) (go_on [] 1000 True.intro (ok_impl_inRange_0 p0 p1 r hm) (by kernel_rfl))
theorem ok_impl_goodFrame_0 (p0 : S_Moving) (p1 : S_Frame) (r : Bool) (hm : m_impl_goodFrame_0 p0 p1 = some r) : EvU ext tbl (.c c_impl_goodFrame_0) K_impl_goodFrame_0 (s_impl_goodFrame_0 p0 p1) (Post vf_impl_goodFrame (res_impl_goodFrame r)) := by
  obtain ⟨h0_0, hm⟩ | ⟨h0_0, hm⟩ := split_ite hm
  · skip
    obtain ⟨h0_1, hm⟩ | ⟨h0_1, hm⟩ := split_ite hm
    · skip
      obtain ⟨h0_2, hm⟩ | ⟨h0_2, hm⟩ := split_ite hm
      · skip
        obtain ⟨h0_3, hm⟩ | ⟨h0_3, hm⟩ := split_ite hm
        · skip
          obtain ⟨h0_4, hm⟩ | ⟨h0_4, hm⟩ := split_ite hm
          · skip
            obtain ⟨h0_5, hm⟩ | ⟨h0_5, hm⟩ := split_ite hm
            · skip
              obtain ⟨h0_6, hm⟩ | ⟨h0_6, hm⟩ := split_ite hm
              · skip
                obtain ⟨h0_7, hm⟩ | ⟨h0_7, hm⟩ := split_ite hm
                · skip
                  obtain ⟨h0_8, hm⟩ | ⟨h0_8, hm⟩ := split_ite hm
                  · skip
                    obtain ⟨h0_9, hm⟩ | ⟨h0_9, hm⟩ := split_ite hm
                    · skip
                      obtain ⟨h0_10, hm⟩ | ⟨h0_10, hm⟩ := split_ite hm
                      · skip
                        exact go_end [.bit true, .bit true, .bit true, .bit true, .bit true, .bit true, .bit true, .bit true, .bit true, .bit true, .bit true, .bit true, .bit true, .bit true, .bit true, .bit true, .bit true, .bit true, .bit true, .bit true, .bit true, .bit true, .bit true, .bit true, .bit true, .bit true, .bit true, .bit true, .bit true, .bit true, .bit true, .bit true, .bit true, .bit true, .bit true, .bit true, .bit true, .bit true, .bit true, .bit true, .bit true, .bit true, .bit true, .bit true, .bit true, .bit true, .bit true, .bit true, .bit true, .bit true, .bit true, .bit true, .bit true, .bit true, .bit true, .num p0.palette.length, .bit true, .bit true] 1000 (And.intro h0_0 (And.intro h0_0 (And.intro h0_0 (And.intro h0_0 (And.intro h0_1 (And.intro h0_1 (And.intro h0_1 (And.intro h0_1 (And.intro h0_2 (And.intro h0_2 (And.intro h0_2 (And.intro h0_2 (And.intro h0_3 (And.intro h0_3 (And.intro h0_3 (And.intro h0_3 (And.intro h0_3 (And.intro h0_3 (And.intro h0_3 (And.intro h0_3 (And.intro h0_3 (And.intro h0_4 (And.intro h0_4 (And.intro h0_4 (And.intro h0_4 (And.intro h0_4 (And.intro h0_4 (And.intro h0_4 (And.intro h0_4 (And.intro h0_4 (And.intro h0_5 (And.intro h0_5 (And.intro h0_5 (And.intro h0_5 (And.intro h0_6 (And.intro h0_6 (And.intro h0_6 (And.intro h0_6 (And.intro h0_7 (And.intro h0_7 (And.intro h0_7 (And.intro h0_7 (And.intro h0_8 (And.intro h0_8 (And.intro h0_8 (And.intro h0_8 (And.intro h0_9 (And.intro h0_9 (And.intro h0_9 (And.intro h0_9 (And.intro h0_10 (And.intro h0_10 (And.intro h0_10 (And.intro h0_10 (And.intro h0_10 (And.intro (len_map (rI .i64) (show p0.palette.length = p0.palette.length from rfl)) (And.intro h0_10 (And.intro h0_10 True.intro)))))))))))))))))))))))))))))))))))))))))))))))))))))))))) (congrArg res_impl_goodFrame (Option.some.inj hm)) (by kernel_rfl)
                      · skip
                        exact go_end [.bit true, .bit true, .bit true, .bit true, .bit true, .bit true, .bit true, .bit true, .bit true, .bit true, .bit true, .bit true, .bit true, .bit true, .bit true, .bit true, .bit true, .bit true, .bit true, .bit true, .bit true, .bit true, .bit true, .bit true, .bit true, .bit true, .bit true, .bit true, .bit true, .bit true, .bit true, .bit true, .bit true, .bit true, .bit true, .bit true, .bit true, .bit true, .bit true, .bit true, .bit true, .bit true, .bit true, .bit true, .bit true, .bit true, .bit true, .bit true, .bit true, .bit true, .bit false, .bit false, .bit false, .bit false, .bit false, .bit false, .bit false] 1000 (And.intro h0_0 (And.intro h0_0 (And.intro h0_0 (And.intro h0_0 (And.intro h0_1 (And.intro h0_1 (And.intro h0_1 (And.intro h0_1 (And.intro h0_2 (And.intro h0_2 (And.intro h0_2 (And.intro h0_2 (And.intro h0_3 (And.intro h0_3 (And.intro h0_3 (And.intro h0_3 (And.intro h0_3 (And.intro h0_3 (And.intro h0_3 (And.intro h0_3 (And.intro h0_3 (And.intro h0_4 (And.intro h0_4 (And.intro h0_4 (And.intro h0_4 (And.intro h0_4 (And.intro h0_4 (And.intro h0_4 (And.intro h0_4 (And.intro h0_4 (And.intro h0_5 (And.intro h0_5 (And.intro h0_5 (And.intro h0_5 (And.intro h0_6 (And.intro h0_6 (And.intro h0_6 (And.intro h0_6 (And.intro h0_7 (And.intro h0_7 (And.intro h0_7 (And.intro h0_7 (And.intro h0_8 (And.intro h0_8 (And.intro h0_8 (And.intro h0_8 (And.intro h0_9 (And.intro h0_9 (And.intro h0_9 (And.intro h0_9 (And.intro h0_10 (And.intro h0_10 (And.intro h0_10 (And.intro h0_10 (And.intro h0_10 (And.intro h0_10 (And.intro h0_10 True.intro))))))))))))))))))))))))))))))))))))))))))))))))))))))))) (congrArg res_impl_goodFrame (Option.some.inj hm)) (by kernel_rfl)
                    · skip
                      exact go_end [.bit true, .bit true, .bit true, .bit true, .bit true, .bit true, .bit true, .bit true, .bit true, .bit true, .bit true, .bit true, .bit true, .bit true, .bit true, .bit true, .bit true, .bit true, .bit true, .bit true, .bit true, .bit true, .bit true, .bit true, .bit true, .bit true, .bit true, .bit true, .bit true, .bit true, .bit true, .bit true, .bit true, .bit true, .bit true, .bit true, .bit true, .bit true, .bit true, .bit true, .bit true, .bit true, .bit true, .bit true, .bit true, .bit true, .bit false, .bit false, .bit false, .bit false, .bit false, .bit false, .bit false, .bit false, .bit false, .bit false, .bit false] 1000 (And.intro h0_0 (And.intro h0_0 (And.intro h0_0 (And.intro h0_0 (And.intro h0_1 (And.intro h0_1 (And.intro h0_1 (And.intro h0_1 (And.intro h0_2 (And.intro h0_2 (And.intro h0_2 (And.intro h0_2 (And.intro h0_3 (And.intro h0_3 (And.intro h0_3 (And.intro h0_3 (And.intro h0_3 (And.intro h0_3 (And.intro h0_3 (And.intro h0_3 (And.intro h0_3 (And.intro h0_4 (And.intro h0_4 (And.intro h0_4 (And.intro h0_4 (And.intro h0_4 (And.intro h0_4 (And.intro h0_4 (And.intro h0_4 (And.intro h0_4 (And.intro h0_5 (And.intro h0_5 (And.intro h0_5 (And.intro h0_5 (And.intro h0_6 (And.intro h0_6 (And.intro h0_6 (And.intro h0_6 (And.intro h0_7 (And.intro h0_7 (And.intro h0_7 (And.intro h0_7 (And.intro h0_8 (And.intro h0_8 (And.intro h0_8 (And.intro h0_8 (And.intro h0_9 (And.intro h0_9 (And.intro h0_9 (And.intro h0_9 (And.intro (Eq.refl false) (And.intro (Eq.refl false) (And.intro (Eq.refl false) (And.intro (Eq.refl false) (And.intro (Eq.refl false) (And.intro (Eq.refl false) (And.intro (Eq.refl false) True.intro))))))))))))))))))))))))))))))))))))))))))))))))))))))))) (congrArg res_impl_goodFrame (Option.some.inj hm)) (by kernel_rfl)
                  · skip
                    exact go_end [.bit true, .bit true, .bit true, .bit true, .bit true, .bit true, .bit true, .bit true, .bit true, .bit true, .bit true, .bit true, .bit true, .bit true, .bit true, .bit true, .bit true, .bit true, .bit true, .bit true, .bit true, .bit true, .bit true, .bit true, .bit true, .bit true, .bit true, .bit true, .bit true, .bit true, .bit true, .bit true, .bit true, .bit true, .bit true, .bit true, .bit true, .bit true, .bit true, .bit true, .bit true, .bit true, .bit false, .bit false, .bit false, .bit false, .bit false, .bit false, .bit false, .bit false, .bit false, .bit false, .bit false, .bit false, .bit false, .bit false, .bit false] 1000 (And.intro h0_0 (And.intro h0_0 (And.intro h0_0 (And.intro h0_0 (And.intro h0_1 (And.intro h0_1 (And.intro h0_1 (And.intro h0_1 (And.intro h0_2 (And.intro h0_2 (And.intro h0_2 (And.intro h0_2 (And.intro h0_3 (And.intro h0_3 (And.intro h0_3 (And.intro h0_3 (And.intro h0_3 (And.intro h0_3 (And.intro h0_3 (And.intro h0_3 (And.intro h0_3 (And.intro h0_4 (And.intro h0_4 (And.intro h0_4 (And.intro h0_4 (And.intro h0_4 (And.intro h0_4 (And.intro h0_4 (And.intro h0_4 (And.intro h0_4 (And.intro h0_5 (And.intro h0_5 (And.intro h0_5 (And.intro h0_5 (And.intro h0_6 (And.intro h0_6 (And.intro h0_6 (And.intro h0_6 (And.intro h0_7 (And.intro h0_7 (And.intro h0_7 (And.intro h0_7 (And.intro h0_8 (And.intro h0_8 (And.intro h0_8 (And.intro h0_8 (And.intro (Eq.refl false) (And.intro (Eq.refl false) (And.intro (Eq.refl false) (And.intro (Eq.refl false) (And.intro (Eq.refl false) (And.intro (Eq.refl false) (And.intro (Eq.refl false) (And.intro (Eq.refl false) (And.intro (Eq.refl false) (And.intro (Eq.refl false) (And.intro (Eq.refl false) True.intro))))))))))))))))))))))))))))))))))))))))))))))))))))))))) (congrArg res_impl_goodFrame (Option.some.inj hm)) (by kernel_rfl)
                · skip
                  exact go_end [.bit true, .bit true, .bit true, .bit true, .bit true, .bit true, .bit true, .bit true, .bit true, .bit true, .bit true, .bit true, .bit true, .bit true, .bit true, .bit true, .bit true, .bit true, .bit true, .bit true, .bit true, .bit true, .bit true, .bit true, .bit true, .bit true, .bit true, .bit true, .bit true, .bit true, .bit true, .bit true, .bit true, .bit true, .bit true, .bit true, .bit true, .bit true, .bit false, .bit false, .bit false, .bit false, .bit false, .bit false, .bit false, .bit false, .bit false, .bit false, .bit false, .bit false, .bit false, .bit false, .bit false, .bit false, .bit false, .bit false, .bit false] 1000 (And.intro h0_0 (And.intro h0_0 (And.intro h0_0 (And.intro h0_0 (And.intro h0_1 (And.intro h0_1 (And.intro h0_1 (And.intro h0_1 (And.intro h0_2 (And.intro h0_2 (And.intro h0_2 (And.intro h0_2 (And.intro h0_3 (And.intro h0_3 (And.intro h0_3 (And.intro h0_3 (And.intro h0_3 (And.intro h0_3 (And.intro h0_3 (And.intro h0_3 (And.intro h0_3 (And.intro h0_4 (And.intro h0_4 (And.intro h0_4 (And.intro h0_4 (And.intro h0_4 (And.intro h0_4 (And.intro h0_4 (And.intro h0_4 (And.intro h0_4 (And.intro h0_5 (And.intro h0_5 (And.intro h0_5 (And.intro h0_5 (And.intro h0_6 (And.intro h0_6 (And.intro h0_6 (And.intro h0_6 (And.intro h0_7 (And.intro h0_7 (And.intro h0_7 (And.intro h0_7 (And.intro (Eq.refl false) (And.intro (Eq.refl false) (And.intro (Eq.refl false) (And.intro (Eq.refl false) (And.intro (Eq.refl false) (And.intro (Eq.refl false) (And.intro (Eq.refl false) (And.intro (Eq.refl false) (And.intro (Eq.refl false) (And.intro (Eq.refl false) (And.intro (Eq.refl false) (And.intro (Eq.refl false) (And.intro (Eq.refl false) (And.intro (Eq.refl false) (And.intro (Eq.refl false) True.intro))))))))))))))))))))))))))))))))))))))))))))))))))))))))) (congrArg res_impl_goodFrame (Option.some.inj hm)) (by kernel_rfl)
              · skip
                exact go_end [.bit true, .bit true, .bit true, .bit true, .bit true, .bit true, .bit true, .bit true, .bit true, .bit true, .bit true, .bit true, .bit true, .bit true, .bit true, .bit true, .bit true, .bit true, .bit true, .bit true, .bit true, .bit true, .bit true, .bit true, .bit true, .bit true, .bit true, .bit true, .bit true, .bit true, .bit true, .bit true, .bit true, .bit true, .bit false, .bit false, .bit false, .bit false, .bit false, .bit false, .bit false, .bit false, .bit false, .bit false, .bit false, .bit false, .bit false, .bit false, .bit false, .bit false, .bit false, .bit false, .bit false, .bit false, .bit false, .bit false, .bit false] 1000 (And.intro h0_0 (And.intro h0_0 (And.intro h0_0 (And.intro h0_0 (And.intro h0_1 (And.intro h0_1 (And.intro h0_1 (And.intro h0_1 (And.intro h0_2 (And.intro h0_2 (And.intro h0_2 (And.intro h0_2 (And.intro h0_3 (And.intro h0_3 (And.intro h0_3 (And.intro h0_3 (And.intro h0_3 (And.intro h0_3 (And.intro h0_3 (And.intro h0_3 (And.intro h0_3 (And.intro h0_4 (And.intro h0_4 (And.intro h0_4 (And.intro h0_4 (And.intro h0_4 (And.intro h0_4 (And.intro h0_4 (And.intro h0_4 (And.intro h0_4 (And.intro h0_5 (And.intro h0_5 (And.intro h0_5 (And.intro h0_5 (And.intro h0_6 (And.intro h0_6 (And.intro h0_6 (And.intro h0_6 (And.intro (Eq.refl false) (And.intro (Eq.refl false) (And.intro (Eq.refl false) (And.intro (Eq.refl false) (And.intro (Eq.refl false) (And.intro (Eq.refl false) (And.intro (Eq.refl false) (And.intro (Eq.refl false) (And.intro (Eq.refl false) (And.intro (Eq.refl false) (And.intro (Eq.refl false) (And.intro (Eq.refl false) (And.intro (Eq.refl false) (And.intro (Eq.refl false) (And.intro (Eq.refl false) (And.intro (Eq.refl false) (And.intro (Eq.refl false) (And.intro (Eq.refl false) (And.intro (Eq.refl false) True.intro))))))))))))))))))))))))))))))))))))))))))))))))))))))))) (congrArg res_impl_goodFrame (Option.some.inj hm)) (by kernel_rfl)
            · skip
              exact go_end [.bit true, .bit true, .bit true, .bit true, .bit true, .bit true, .bit true, .bit true, .bit true, .bit true, .bit true, .bit true, .bit true, .bit true, .bit true, .bit true, .bit true, .bit true, .bit true, .bit true, .bit true, .bit true, .bit true, .bit true, .bit true, .bit true, .bit true, .bit true, .bit true, .bit true, .bit false, .bit false, .bit false, .bit false, .bit false, .bit false, .bit false, .bit false, .bit false, .bit false, .bit false, .bit false, .bit false, .bit false, .bit false, .bit false, .bit false, .bit false, .bit false, .bit false, .bit false, .bit false, .bit false, .bit false, .bit false, .bit false, .bit false] 1000 (And.intro h0_0 (And.intro h0_0 (And.intro h0_0 (And.intro h0_0 (And.intro h0_1 (And.intro h0_1 (And.intro h0_1 (And.intro h0_1 (And.intro h0_2 (And.intro h0_2 (And.intro h0_2 (And.intro h0_2 (And.intro h0_3 (And.intro h0_3 (And.intro h0_3 (And.intro h0_3 (And.intro h0_3 (And.intro h0_3 (And.intro h0_3 (And.intro h0_3 (And.intro h0_3 (And.intro h0_4 (And.intro h0_4 (And.intro h0_4 (And.intro h0_4 (And.intro h0_4 (And.intro h0_4 (And.intro h0_4 (And.intro h0_4 (And.intro h0_4 (And.intro h0_5 (And.intro h0_5 (And.intro h0_5 (And.intro h0_5 (And.intro (Eq.refl false) (And.intro (Eq.refl false) (And.intro (Eq.refl false) (And.intro (Eq.refl false) (And.intro (Eq.refl false) (And.intro (Eq.refl false) (And.intro (Eq.refl false) (And.intro (Eq.refl false) (And.intro (Eq.refl false) (And.intro (Eq.refl false) (And.intro (Eq.refl false) (And.intro (Eq.refl false) (And.intro (Eq.refl false) (And.intro (Eq.refl false) (And.intro (Eq.refl false) (And.intro (Eq.refl false) (And.intro (Eq.refl false) (And.intro (Eq.refl false) (And.intro (Eq.refl false) (And.intro (Eq.refl false) (And.intro (Eq.refl false) (And.intro (Eq.refl false) (And.intro (Eq.refl false) True.intro))))))))))))))))))))))))))))))))))))))))))))))))))))))))) (congrArg res_impl_goodFrame (Option.some.inj hm)) (by kernel_rfl)
          · skip
            exact go_end [.bit true, .bit true, .bit true, .bit true, .bit true, .bit true, .bit true, .bit true, .bit true, .bit true, .bit true, .bit true, .bit true, .bit true, .bit true, .bit true, .bit true, .bit true, .bit true, .bit true, .bit true, .bit false, .bit false, .bit false, .bit false, .bit false, .bit false, .bit false, .bit false, .bit false, .bit false, .bit false, .bit false, .bit false, .bit false, .bit false, .bit false, .bit false, .bit false, .bit false, .bit false, .bit false, .bit false, .bit false, .bit false, .bit false, .bit false, .bit false, .bit false, .bit false, .bit false, .bit false, .bit false, .bit false, .bit false, .bit false, .bit false] 1000 (And.intro h0_0 (And.intro h0_0 (And.intro h0_0 (And.intro h0_0 (And.intro h0_1 (And.intro h0_1 (And.intro h0_1 (And.intro h0_1 (And.intro h0_2 (And.intro h0_2 (And.intro h0_2 (And.intro h0_2 (And.intro h0_3 (And.intro h0_3 (And.intro h0_3 (And.intro h0_3 (And.intro h0_3 (And.intro h0_3 (And.intro h0_3 (And.intro h0_3 (And.intro h0_3 (And.intro h0_4 (And.intro h0_4 (And.intro h0_4 (And.intro h0_4 (And.intro h0_4 (And.intro h0_4 (And.intro h0_4 (And.intro h0_4 (And.intro h0_4 (And.intro (Eq.refl false) (And.intro (Eq.refl false) (And.intro (Eq.refl false) (And.intro (Eq.refl false) (And.intro (Eq.refl false) (And.intro (Eq.refl false) (And.intro (Eq.refl false) (And.intro (Eq.refl false) (And.intro (Eq.refl false) (And.intro (Eq.refl false) (And.intro (Eq.refl false) (And.intro (Eq.refl false) (And.intro (Eq.refl false) (And.intro (Eq.refl false) (And.intro (Eq.refl false) (And.intro (Eq.refl false) (And.intro (Eq.refl false) (And.intro (Eq.refl false) (And.intro (Eq.refl false) (And.intro (Eq.refl false) (And.intro (Eq.refl false) (And.intro (Eq.refl false) (And.intro (Eq.refl false) (And.intro (Eq.refl false) (And.intro (Eq.refl false) (And.intro (Eq.refl false) (And.intro (Eq.refl false) True.intro))))))))))))))))))))))))))))))))))))))))))))))))))))))))) (congrArg res_impl_goodFrame (Option.some.inj hm)) (by kernel_rfl)
        · skip
          exact go_end [.bit true, .bit true, .bit true, .bit true, .bit true, .bit true, .bit true, .bit true, .bit true, .bit true, .bit true, .bit true, .bit false, .bit false, .bit false, .bit false, .bit false, .bit false, .bit false, .bit false, .bit false, .bit false, .bit false, .bit false, .bit false, .bit false, .bit false, .bit false, .bit false, .bit false, .bit false, .bit false, .bit false, .bit false, .bit false, .bit false, .bit false, .bit false, .bit false, .bit false, .bit false, .bit false, .bit false, .bit false, .bit false, .bit false, .bit false, .bit false, .bit false, .bit false, .bit false, .bit false, .bit false, .bit false, .bit false, .bit false, .bit false] 1000 (And.intro h0_0 (And.intro h0_0 (And.intro h0_0 (And.intro h0_0 (And.intro h0_1 (And.intro h0_1 (And.intro h0_1 (And.intro h0_1 (And.intro h0_2 (And.intro h0_2 (And.intro h0_2 (And.intro h0_2 (And.intro h0_3 (And.intro h0_3 (And.intro h0_3 (And.intro h0_3 (And.intro h0_3 (And.intro h0_3 (And.intro h0_3 (And.intro h0_3 (And.intro h0_3 (And.intro (Eq.refl false) (And.intro (Eq.refl false) (And.intro (Eq.refl false) (And.intro (Eq.refl false) (And.intro (Eq.refl false) (And.intro (Eq.refl false) (And.intro (Eq.refl false) (And.intro (Eq.refl false) (And.intro (Eq.refl false) (And.intro (Eq.refl false) (And.intro (Eq.refl false) (And.intro (Eq.refl false) (And.intro (Eq.refl false) (And.intro (Eq.refl false) (And.intro (Eq.refl false) (And.intro (Eq.refl false) (And.intro (Eq.refl false) (And.intro (Eq.refl false) (And.intro (Eq.refl false) (And.intro (Eq.refl false) (And.intro (Eq.refl false) (And.intro (Eq.refl false) (And.intro (Eq.refl false) (And.intro (Eq.refl false) (And.intro (Eq.refl false) (And.intro (Eq.refl false) (And.intro (Eq.refl false) (And.intro (Eq.refl false) (And.intro (Eq.refl false) (And.intro (Eq.refl false) (And.intro (Eq.refl false) (And.intro (Eq.refl false) (And.intro (Eq.refl false) (And.intro (Eq.refl false) (And.intro (Eq.refl false) (And.intro (Eq.refl false) True.intro))))))))))))))))))))))))))))))))))))))))))))))))))))))))) (congrArg res_impl_goodFrame (Option.some.inj hm)) (by kernel_rfl)
      · skip
        exact go_end [.bit true, .bit true, .bit true, .bit true, .bit true, .bit true, .bit true, .bit true, .bit false, .bit false, .bit false, .bit false, .bit false, .bit false, .bit false, .bit false, .bit false, .bit false, .bit false, .bit false, .bit false, .bit false, .bit false, .bit false, .bit false, .bit false, .bit false, .bit false, .bit false, .bit false, .bit false, .bit false, .bit false, .bit false, .bit false, .bit false, .bit false, .bit false, .bit false, .bit false, .bit false, .bit false, .bit false, .bit false, .bit false, .bit false, .bit false, .bit false, .bit false, .bit false, .bit false, .bit false, .bit false, .bit false, .bit false, .bit false, .bit false] 1000 (And.intro h0_0 (And.intro h0_0 (And.intro h0_0 (And.intro h0_0 (And.intro h0_1 (And.intro h0_1 (And.intro h0_1 (And.intro h0_1 (And.intro h0_2 (And.intro h0_2 (And.intro h0_2 (And.intro h0_2 (And.intro (Eq.refl false) (And.intro (Eq.refl false) (And.intro (Eq.refl false) (And.intro (Eq.refl false) (And.intro (Eq.refl false) (And.intro (Eq.refl false) (And.intro (Eq.refl false) (And.intro (Eq.refl false) (And.intro (Eq.refl false) (And.intro (Eq.refl false) (And.intro (Eq.refl false) (And.intro (Eq.refl false) (And.intro (Eq.refl false) (And.intro (Eq.refl false) (And.intro (Eq.refl false) (And.intro (Eq.refl false) (And.intro (Eq.refl false) (And.intro (Eq.refl false) (And.intro (Eq.refl false) (And.intro (Eq.refl false) (And.intro (Eq.refl false) (And.intro (Eq.refl false) (And.intro (Eq.refl false) (And.intro (Eq.refl false) (And.intro (Eq.refl false) (And.intro (Eq.refl false) (And.intro (Eq.refl false) (And.intro (Eq.refl false) (And.intro (Eq.refl false) (And.intro (Eq.refl false) (And.intro (Eq.refl false) (And.intro (Eq.refl false) (And.intro (Eq.refl false) (And.intro (Eq.refl false) (And.intro (Eq.refl false) (And.intro (Eq.refl false) (And.intro (Eq.refl false) (And.intro (Eq.refl false) (And.intro (Eq.refl false) (And.intro (Eq.refl false) (And.intro (Eq.refl false) (And.intro (Eq.refl false) (And.intro (Eq.refl false) (And.intro (Eq.refl false) (And.intro (Eq.refl false) True.intro))))))))))))))))))))))))))))))))))))))))))))))))))))))))) (congrArg res_impl_goodFrame (Option.some.inj hm)) (by kernel_rfl)
    · skip
      exact go_end [.bit true, .bit true, .bit true, .bit true, .bit false, .bit false, .bit false, .bit false, .bit false, .bit false, .bit false, .bit false, .bit false, .bit false, .bit false, .bit false, .bit false, .bit false, .bit false, .bit false, .bit false, .bit false, .bit false, .bit false, .bit false, .bit false, .bit false, .bit false, .bit false, .bit false, .bit false, .bit false, .bit false, .bit false, .bit false, .bit false, .bit false, .bit false, .bit false, .bit false, .bit false, .bit false, .bit false, .bit false, .bit false, .bit false, .bit false, .bit false, .bit false, .bit false, .bit false, .bit false, .bit false, .bit false, .bit false, .bit false, .bit false] 1000 (And.intro h0_0 (And.intro h0_0 (And.intro h0_0 (And.intro h0_0 (And.intro h0_1 (And.intro h0_1 (And.intro h0_1 (And.intro h0_1 (And.intro (Eq.refl false) (And.intro (Eq.refl false) (And.intro (Eq.refl false) (And.intro (Eq.refl false) (And.intro (Eq.refl false) (And.intro (Eq.refl false) (And.intro (Eq.refl false) (And.intro (Eq.refl false) (And.intro (Eq.refl false) (And.intro (Eq.refl false) (And.intro (Eq.refl false) (And.intro (Eq.refl false) (And.intro (Eq.refl false) (And.intro (Eq.refl false) (And.intro (Eq.refl false) (And.intro (Eq.refl false) (And.intro (Eq.refl false) (And.intro (Eq.refl false) (And.intro (Eq.refl false) (And.intro (Eq.refl false) (And.intro (Eq.refl false) (And.intro (Eq.refl false) (And.intro (Eq.refl false) (And.intro (Eq.refl false) (And.intro (Eq.refl false) (And.intro (Eq.refl false) (And.intro (Eq.refl false) (And.intro (Eq.refl false) (And.intro (Eq.refl false) (And.intro (Eq.refl false) (And.intro (Eq.refl false) (And.intro (Eq.refl false) (And.intro (Eq.refl false) (And.intro (Eq.refl false) (And.intro (Eq.refl false) (And.intro (Eq.refl false) (And.intro (Eq.refl false) (And.intro (Eq.refl false) (And.intro (Eq.refl false) (And.intro (Eq.refl false) (And.intro (Eq.refl false) (And.intro (Eq.refl false) (And.intro (Eq.refl false) (And.intro (Eq.refl false) (And.intro (Eq.refl false) (And.intro (Eq.refl false) (And.intro (Eq.refl false) (And.intro (Eq.refl false) (And.intro (Eq.refl false) True.intro))))))))))))))))))))))))))))))))))))))))))))))))))))))))) (congrArg res_impl_goodFrame (Option.some.inj hm)) (by kernel_rfl)
  · skip
    exact go_end [.bit false, .bit false, .bit false, .bit false, .bit false, .bit false, .bit false, .bit false, .bit false, .bit false, .bit false, .bit false, .bit false, .bit false, .bit false, .bit false, .bit false, .bit false, .bit false, .bit false, .bit false, .bit false, .bit false, .bit false, .bit false, .bit false, .bit false, .bit false, .bit false, .bit false, .bit false, .bit false, .bit false, .bit false, .bit false, .bit false, .bit false, .bit false, .bit false, .bit false, .bit false, .bit false, .bit false, .bit false, .bit false, .bit false, .bit false, .bit false, .bit false, .bit false, .bit false, .bit false, .bit false, .bit false, .bit false, .bit false, .bit false] 1000 (And.intro h0_0 (And.intro h0_0 (And.intro h0_0 (And.intro h0_0 (And.intro (Eq.refl false) (And.intro (Eq.refl false) (And.intro (Eq.refl false) (And.intro (Eq.refl false) (And.intro (Eq.refl false) (And.intro (Eq.refl false) (And.intro (Eq.refl false) (And.intro (Eq.refl false) (And.intro (Eq.refl false) (And.intro (Eq.refl false) (And.intro (Eq.refl false) (And.intro (Eq.refl false) (And.intro (Eq.refl false) (And.intro (Eq.refl false) (And.intro (Eq.refl false) (And.intro (Eq.refl false) (And.intro (Eq.refl false) (And.intro (Eq.refl false) (And.intro (Eq.refl false) (And.intro (Eq.refl false) (And.intro (Eq.refl false) (And.intro (Eq.refl false) (And.intro (Eq.refl false) (And.intro (Eq.refl false) (And.intro (Eq.refl false) (And.intro (Eq.refl false) (And.intro (Eq.refl false) (And.intro (Eq.refl false) (And.intro (Eq.refl false) (And.intro (Eq.refl false) (And.intro (Eq.refl false) (And.intro (Eq.refl false) (And.intro (Eq.refl false) (And.intro (Eq.refl false) (And.intro (Eq.refl false) (And.intro (Eq.refl false) (And.intro (Eq.refl false) (And.intro (Eq.refl false) (And.intro (Eq.refl false) (And.intro (Eq.refl false) (And.intro (Eq.refl false) (And.intro (Eq.refl false) (And.intro (Eq.refl false) (And.intro (Eq.refl false) (And.intro (Eq.refl false) (And.intro (Eq.refl false) (And.intro (Eq.refl false) (And.intro (Eq.refl false) (And.intro (Eq.refl false) (And.intro (Eq.refl false) (And.intro (Eq.refl false) (And.intro (Eq.refl false) (And.intro (Eq.refl false) True.intro))))))))))))))))))))))))))))))))))))))))))))))))))))))))) (congrArg res_impl_goodFrame (Option.some.inj hm)) (by kernel_rfl)

theorem ok_impl_goodFrame (p0 : S_Moving) (p1 : S_Frame) (r : Bool) (hm : m_impl_goodFrame p0 p1 = some r) : Runs ext tbl 186 (as_impl_goodFrame p0 p1) (res_impl_goodFrame r) :=
  runs_of (vf := vf_impl_goodFrame) (by kernel_rfl) rfl (st := (enter vf_impl_goodFrame (as_impl_goodFrame p0 p1)).getD default) (by kernel_rfl) (go_on [] 1000 True.intro (ok_impl_goodFrame_0 p0 p1 r hm) (by kernel_rfl))
def O_impl_GoodMoving_19 (Q : VX → St → Prop) (e : (Bool) ⊕ ((Int))) : Prop := match e with | .inl e => Q = Post vf_impl_GoodMoving (res_impl_GoodMoving e) | .inr e => EvU ext tbl (.c c_impl_GoodMoving_39) K_impl_GoodMoving_39 (s_impl_GoodMoving_39 e) Q
theorem ok_impl_GoodMoving_39 (i39_0 : Int) (r : Bool) (hm : m_impl_GoodMoving_39 i39_0 = some r) : EvU ext tbl (.c c_impl_GoodMoving_39) K_impl_GoodMoving_39 (s_impl_GoodMoving_39 i39_0) (Post vf_impl_GoodMoving (res_impl_GoodMoving r)) := by
  exact go_end [] 1000 True.intro (congrArg res_impl_GoodMoving (Option.some.inj hm)) (by kernel_rfl)

theorem ok_impl_GoodMoving_19 (p0 : S_Moving) (i19_0 : Int) (i19_1 : Int) (y : (Int × Int) ⊕ ((Bool) ⊕ ((Int)))) (hm : m_impl_GoodMoving_19 p0 i19_0 i19_1 = some y) (Q : VX → St → Prop)
    (hin : ∀ s, y = .inl s → EvU ext tbl (.c c_impl_GoodMoving_19) K_impl_GoodMoving_19 (s_impl_GoodMoving_19 p0 s.1 s.2) Q) (hout : ∀ e, y = .inr e → O_impl_GoodMoving_19 Q e) : EvU ext tbl (.c c_impl_GoodMoving_19) K_impl_GoodMoving_19 (s_impl_GoodMoving_19 p0 i19_0 i19_1) Q := by
  obtain ⟨h19_0, hm⟩ | ⟨h19_0, hm⟩ := split_ite hm
  · skip
    obtain ⟨x19_1, h19_1, hm⟩ := bind_some hm
    obtain ⟨x19_2, h19_2, hm⟩ := bind_some hm
    obtain ⟨h19_3, hm⟩ | ⟨h19_3, hm⟩ := split_ite hm
    · skip
      obtain ⟨h19_4, hm⟩ | ⟨h19_4, hm⟩ := split_ite hm
      · skip
        have hQ : Q = Post vf_impl_GoodMoving (res_impl_GoodMoving false) := hout (.inl false) (Option.some.inj hm).symm
        subst hQ
        exact go_end [.bit true, .row (rS_Frame x19_1), .res (res_impl_goodFrame x19_2), .bit false, .bit false, .bit false, .num x19_1.pixels.length, .bit false, .bit false, .bit false, .bit false, .bit false, .bit false, .bit false, .bit true, .bit true, .bit true, .bit true, .bit true, .bit true, .bit true, .bit true] 1000 (And.intro h19_0 (And.intro (rd_nn h19_1) (And.intro (at_row rS_Frame (rd_get h19_1)) (And.intro (ok_impl_goodFrame p0 x19_1 x19_2 h19_2) (And.intro (not_f h19_3) (And.intro (not_f h19_3) (And.intro (not_f h19_3) (And.intro (len_map (rI .i64) (show x19_1.pixels.length = x19_1.pixels.length from rfl)) (And.intro (not_f h19_3) (And.intro (not_f h19_3) (And.intro (not_f h19_3) (And.intro (not_f h19_3) (And.intro (not_f h19_3) (And.intro (not_f h19_3) (And.intro (not_f h19_3) (And.intro h19_4 (And.intro h19_4 (And.intro h19_4 (And.intro h19_4 (And.intro h19_4 (And.intro h19_4 (And.intro h19_4 (And.intro (Eq.refl true) True.intro))))))))))))))))))))))) (rfl : res_impl_GoodMoving false = res_impl_GoodMoving false) (by kernel_rfl)
      · skip
        obtain ⟨x19_5, h19_5, hm⟩ := bind_some hm
        obtain ⟨h19_6, hm⟩ | ⟨h19_6, hm⟩ := split_ite hm
        · skip
          refine go_on (u' := .c c_impl_GoodMoving_19) (K' := K_impl_GoodMoving_19) (st' := s_impl_GoodMoving_19 p0 (w64 (i19_0 + (x19_1.pixels.length : Int))) (w64 (i19_1 + 1))) [.bit true, .row (rS_Frame x19_1), .res (res_impl_goodFrame x19_2), .bit false, .bit false, .bit false, .num x19_1.pixels.length, .bit false, .bit false, .bit false, .bit false, .bit false, .bit false, .bit false, .bit false, .bit false, .bit false, .bit false, .bit false, .res (res_impl_inRange x19_5), .bit false, .bit false, .bit false, .num x19_1.pixels.length] 1000 (And.intro h19_0 (And.intro (rd_nn h19_1) (And.intro (at_row rS_Frame (rd_get h19_1)) (And.intro (ok_impl_goodFrame p0 x19_1 x19_2 h19_2) (And.intro (not_f h19_3) (And.intro (not_f h19_3) (And.intro (not_f h19_3) (And.intro (len_map (rI .i64) (show x19_1.pixels.length = x19_1.pixels.length from rfl)) (And.intro (not_f h19_3) (And.intro (not_f h19_3) (And.intro (not_f h19_3) (And.intro (not_f h19_3) (And.intro (not_f h19_3) (And.intro (not_f h19_3) (And.intro (not_f h19_3) (And.intro h19_4 (And.intro h19_4 (And.intro h19_4 (And.intro h19_4 (And.intro h19_4 (And.intro (ok_impl_inRange x19_1.pixels (w64 ((p0.palette.length : Int) - 1)) x19_5 h19_5) (And.intro h19_4 (And.intro h19_4 (And.intro (not_f h19_6) (And.intro (len_map (rI .i64) (show x19_1.pixels.length = x19_1.pixels.length from rfl)) True.intro))))))))))))))))))))))))) ?_ (by kernel_rfl)
          exact hin ((w64 (i19_0 + (x19_1.pixels.length : Int))), (w64 (i19_1 + 1))) (Option.some.inj hm).symm
        · skip
          have hQ : Q = Post vf_impl_GoodMoving (res_impl_GoodMoving false) := hout (.inl false) (Option.some.inj hm).symm
          subst hQ
          exact go_end [.bit true, .row (rS_Frame x19_1), .res (res_impl_goodFrame x19_2), .bit false, .bit false, .bit false, .num x19_1.pixels.length, .bit false, .bit false, .bit false, .bit false, .bit false, .bit false, .bit false, .bit false, .bit false, .bit false, .bit false, .bit false, .res (res_impl_inRange x19_5), .bit false, .bit false, .bit true] 1000 (And.intro h19_0 (And.intro (rd_nn h19_1) (And.intro (at_row rS_Frame (rd_get h19_1)) (And.intro (ok_impl_goodFrame p0 x19_1 x19_2 h19_2) (And.intro (not_f h19_3) (And.intro (not_f h19_3) (And.intro (not_f h19_3) (And.intro (len_map (rI .i64) (show x19_1.pixels.length = x19_1.pixels.length from rfl)) (And.intro (not_f h19_3) (And.intro (not_f h19_3) (And.intro (not_f h19_3) (And.intro (not_f h19_3) (And.intro (not_f h19_3) (And.intro (not_f h19_3) (And.intro (not_f h19_3) (And.intro h19_4 (And.intro h19_4 (And.intro h19_4 (And.intro h19_4 (And.intro h19_4 (And.intro (ok_impl_inRange x19_1.pixels (w64 ((p0.palette.length : Int) - 1)) x19_5 h19_5) (And.intro h19_4 (And.intro h19_4 (And.intro (not_t h19_6) True.intro)))))))))))))))))))))))) (rfl : res_impl_GoodMoving false = res_impl_GoodMoving false) (by kernel_rfl)
    · skip
      have hQ : Q = Post vf_impl_GoodMoving (res_impl_GoodMoving false) := hout (.inl false) (Option.some.inj hm).symm
      subst hQ
      exact go_end [.bit true, .row (rS_Frame x19_1), .res (res_impl_goodFrame x19_2), .bit true, .bit true, .bit true, .bit true, .bit true, .bit true, .bit true, .bit true, .bit true, .bit true, .bit true, .bit true, .bit true, .bit true, .bit true, .bit true, .bit true, .bit true] 1000 (And.intro h19_0 (And.intro (rd_nn h19_1) (And.intro (at_row rS_Frame (rd_get h19_1)) (And.intro (ok_impl_goodFrame p0 x19_1 x19_2 h19_2) (And.intro (not_t h19_3) (And.intro (not_t h19_3) (And.intro (not_t h19_3) (And.intro (not_t h19_3) (And.intro (not_t h19_3) (And.intro (not_t h19_3) (And.intro (not_t h19_3) (And.intro (not_t h19_3) (And.intro (not_t h19_3) (And.intro (not_t h19_3) (And.intro (Eq.refl true) (And.intro (Eq.refl true) (And.intro (Eq.refl true) (And.intro (Eq.refl true) (And.intro (Eq.refl true) (And.intro (Eq.refl true) (And.intro (Eq.refl true) (And.intro (Eq.refl true) True.intro)))))))))))))))))))))) (rfl : res_impl_GoodMoving false = res_impl_GoodMoving false) (by kernel_rfl)
  · skip
    refine go_on (u' := .c c_impl_GoodMoving_39) (K' := K_impl_GoodMoving_39) (st' := s_impl_GoodMoving_39 i19_0) [.bit false] 1000 (And.intro h19_0 True.intro) ?_ (by kernel_rfl)
    exact hout (.inr i19_0) (Option.some.inj hm).symm

end Go.Proofs.V
