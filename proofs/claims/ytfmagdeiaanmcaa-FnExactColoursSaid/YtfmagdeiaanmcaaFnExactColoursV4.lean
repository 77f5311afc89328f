/- printed by a program: the plain functions, the code and the proofs of one law -/
import Derived.Test.YtfmagdeiaanmcaaFnExactColoursV3
import Derived.KernelRfl
set_option linter.unusedVariables false
set_option maxRecDepth 100000
namespace Go.Proofs.V
open Go
def as_laws_szIntS (p0 : (List Int)) (p1 : Int) : List Arg := [.v false [.sl (p0.map (rI .i64))], .v false [.lit (.int .i64 p1)]]
def res_laws_szIntS (r : Int) : FRes := ⟨[.v false [.lit (.int .i64 r)]], []⟩
def as_laws_szImage (p0 : S_Image) (p1 : Int) : List Arg := [.v true [.lit (.int .i64 p0.width), .lit (.int .i64 p0.height), .lit (.int .i64 p0.planes), .lit (.int .i64 p0.depth), .sl (p0.samples.map (rI .i64))], .v false [.lit (.int .i64 p1)]]
def res_laws_szImage (r : Int) : FRes := ⟨[.v false [.lit (.int .i64 r)]], []⟩
def as_laws_szNote (p0 : S_Note) (p1 : Int) : List Arg := [.v true [.lit (.string p0.key), .lit (.string p0.value)], .v false [.lit (.int .i64 p1)]]
def res_laws_szNote (r : Int) : FRes := ⟨[.v false [.lit (.int .i64 r)]], []⟩
def as_laws_szNoteS (p0 : (List S_Note)) (p1 : Int) : List Arg := [.v false [.sl (p0.map rS_Note)], .v false [.lit (.int .i64 p1)]]
def res_laws_szNoteS (r : Int) : FRes := ⟨[.v false [.lit (.int .i64 r)]], []⟩
def as_laws_szStill (p0 : S_Still) (p1 : Int) : List Arg := [.v true [.lit (.int .i64 p0.image.width), .lit (.int .i64 p0.image.height), .lit (.int .i64 p0.image.planes), .lit (.int .i64 p0.image.depth), .sl (p0.image.samples.map (rI .i64)), .sl (p0.palette.map (rI .i64)), .sl (p0.notes.map rS_Note), .lit (.bool p0.woven)], .v false [.lit (.int .i64 p1)]]
def res_laws_szStill (r : Int) : FRes := ⟨[.v false [.lit (.int .i64 r)]], []⟩
def as_laws_toIntS (p0 : (List Int)) : List Arg := [.v false [.sl (p0.map (rI .i64))]]
def res_laws_toIntS (r : (List Int)) : FRes := ⟨[.v false [.sl (r.map (rI .i64))]], []⟩
def as_laws_toImage (p0 : S_Image) : List Arg := [.v true [.lit (.int .i64 p0.width), .lit (.int .i64 p0.height), .lit (.int .i64 p0.planes), .lit (.int .i64 p0.depth), .sl (p0.samples.map (rI .i64))]]
def res_laws_toImage (r : S_Image) : FRes := ⟨[.v true [.lit (.int .i64 r.width), .lit (.int .i64 r.height), .lit (.int .i64 r.planes), .lit (.int .i64 r.depth), .sl (r.samples.map (rI .i64))]], []⟩
def as_laws_toNote (p0 : S_Note) : List Arg := [.v true [.lit (.string p0.key), .lit (.string p0.value)]]
def res_laws_toNote (r : S_Note) : FRes := ⟨[.v true [.lit (.string r.key), .lit (.string r.value)]], []⟩
def as_laws_toNoteS (p0 : (List S_Note)) : List Arg := [.v false [.sl (p0.map rS_Note)]]
def res_laws_toNoteS (r : (List S_Note)) : FRes := ⟨[.v false [.sl (r.map rS_Note)]], []⟩
def as_laws_toStill (p0 : S_Still) : List Arg := [.v true [.lit (.int .i64 p0.image.width), .lit (.int .i64 p0.image.height), .lit (.int .i64 p0.image.planes), .lit (.int .i64 p0.image.depth), .sl (p0.image.samples.map (rI .i64)), .sl (p0.palette.map (rI .i64)), .sl (p0.notes.map rS_Note), .lit (.bool p0.woven)]]
def res_laws_toStill (r : S_Still) : FRes := ⟨[.v true [.lit (.int .i64 r.image.width), .lit (.int .i64 r.image.height), .lit (.int .i64 r.image.planes), .lit (.int .i64 r.image.depth), .sl (r.image.samples.map (rI .i64)), .sl (r.palette.map (rI .i64)), .sl (r.notes.map rS_Note), .lit (.bool r.woven)]], []⟩
def as_spec_l4Sides (p0 : Int) (p1 : Int) : List Arg := [.v false [.lit (.int .i64 p0)], .v false [.lit (.int .i64 p1)]]
def res_spec_l4Sides (r : Bool) : FRes := ⟨[.v false [.lit (.bool r)]], []⟩
def as_spec_l4Depth (p0 : Int) : List Arg := [.v false [.lit (.int .i64 p0)]]
def res_spec_l4Depth (r : Bool) : FRes := ⟨[.v false [.lit (.bool r)]], []⟩
def as_spec_GoodImage (p0 : S_Image) : List Arg := [.v true [.lit (.int .i64 p0.width), .lit (.int .i64 p0.height), .lit (.int .i64 p0.planes), .lit (.int .i64 p0.depth), .sl (p0.samples.map (rI .i64))]]
def res_spec_GoodImage (r : Bool) : FRes := ⟨[.v false [.lit (.bool r)]], []⟩
def as_spec_l5Colours (p0 : (List Int)) : List Arg := [.v false [.sl (p0.map (rI .i64))]]
def res_spec_l5Colours (r : Bool) : FRes := ⟨[.v false [.lit (.bool r)]], []⟩
def as_spec_l5Note (p0 : S_Note) : List Arg := [.v true [.lit (.string p0.key), .lit (.string p0.value)]]
def res_spec_l5Note (r : Bool) : FRes := ⟨[.v false [.lit (.bool r)]], []⟩
def as_spec_l4Count (p0 : Int) (p1 : Int) (p2 : Int) : List Arg := [.v false [.lit (.int .i64 p0)], .v false [.lit (.int .i64 p1)], .v false [.lit (.int .i64 p2)]]
def res_spec_l4Count (r : Int) : FRes := ⟨[.v false [.lit (.int .i64 r)]], []⟩
def as_spec_l4Passes (p0 : Int) (p1 : Int) : List Arg := [.v false [.lit (.int .i64 p0)], .v false [.lit (.int .i64 p1)]]
def res_spec_l4Passes (r : (List S_Pass)) : FRes := ⟨[.v false [.sl (r.map rS_Pass)]], []⟩
def as_spec_l5Sizes (p0 : S_Image) (p1 : Bool) : List Arg := [.v true [.lit (.int .i64 p0.width), .lit (.int .i64 p0.height), .lit (.int .i64 p0.planes), .lit (.int .i64 p0.depth), .sl (p0.samples.map (rI .i64))], .v false [.lit (.bool p1)]]
def res_spec_l5Sizes (r : (List S_Image)) : FRes := ⟨[.v false [.sl (r.map rS_Image)]], []⟩
def as_spec_l5RowBytes (p0 : S_Image) : List Arg := [.v true [.lit (.int .i64 p0.width), .lit (.int .i64 p0.height), .lit (.int .i64 p0.planes), .lit (.int .i64 p0.depth), .sl (p0.samples.map (rI .i64))]]
def res_spec_l5RowBytes (r : Int) : FRes := ⟨[.v false [.lit (.int .i64 r)]], []⟩
def as_spec_l5Total (p0 : S_Image) (p1 : Bool) : List Arg := [.v true [.lit (.int .i64 p0.width), .lit (.int .i64 p0.height), .lit (.int .i64 p0.planes), .lit (.int .i64 p0.depth), .sl (p0.samples.map (rI .i64))], .v false [.lit (.bool p1)]]
def res_spec_l5Total (r : Int) : FRes := ⟨[.v false [.lit (.int .i64 r)]], []⟩
def as_spec_GoodStill (p0 : S_Still) : List Arg := [.v true [.lit (.int .i64 p0.image.width), .lit (.int .i64 p0.image.height), .lit (.int .i64 p0.image.planes), .lit (.int .i64 p0.image.depth), .sl (p0.image.samples.map (rI .i64)), .sl (p0.palette.map (rI .i64)), .sl (p0.notes.map rS_Note), .lit (.bool p0.woven)]]
def res_spec_GoodStill (r : Bool) : FRes := ⟨[.v false [.lit (.bool r)]], []⟩
def as_spec_Colours (p0 : S_Still) : List Arg := [.v true [.lit (.int .i64 p0.image.width), .lit (.int .i64 p0.image.height), .lit (.int .i64 p0.image.planes), .lit (.int .i64 p0.image.depth), .sl (p0.image.samples.map (rI .i64)), .sl (p0.palette.map (rI .i64)), .sl (p0.notes.map rS_Note), .lit (.bool p0.woven)]]
def res_spec_Colours (r : S_Image) : FRes := ⟨[.v true [.lit (.int .i64 r.width), .lit (.int .i64 r.height), .lit (.int .i64 r.planes), .lit (.int .i64 r.depth), .sl (r.samples.map (rI .i64))]], []⟩
def as_impl_goodSide (p0 : Int) : List Arg := [.v false [.lit (.int .i64 p0)]]
def res_impl_goodSide (r : Bool) : FRes := ⟨[.v false [.lit (.bool r)]], []⟩
def as_impl_goodSides (p0 : Int) (p1 : Int) : List Arg := [.v false [.lit (.int .i64 p0)], .v false [.lit (.int .i64 p1)]]
def res_impl_goodSides (r : Bool) : FRes := ⟨[.v false [.lit (.bool r)]], []⟩
def as_impl_goodDepth (p0 : Int) : List Arg := [.v false [.lit (.int .i64 p0)]]
def res_impl_goodDepth (r : Bool) : FRes := ⟨[.v false [.lit (.bool r)]], []⟩
def as_impl_goodShape (p0 : Int) (p1 : Int) (p2 : Int) (p3 : Int) : List Arg := [.v false [.lit (.int .i64 p0)], .v false [.lit (.int .i64 p1)], .v false [.lit (.int .i64 p2)], .v false [.lit (.int .i64 p3)]]
def res_impl_goodShape (r : Bool) : FRes := ⟨[.v false [.lit (.bool r)]], []⟩
def as_impl_inRange (p0 : (List Int)) (p1 : Int) : List Arg := [.v false [.sl (p0.map (rI .i64))], .v false [.lit (.int .i64 p1)]]
def res_impl_inRange (r : Bool) : FRes := ⟨[.v false [.lit (.bool r)]], []⟩
def as_impl_GoodImage (p0 : S_Image) : List Arg := [.v true [.lit (.int .i64 p0.width), .lit (.int .i64 p0.height), .lit (.int .i64 p0.planes), .lit (.int .i64 p0.depth), .sl (p0.samples.map (rI .i64))]]
def res_impl_GoodImage (r : Bool) : FRes := ⟨[.v false [.lit (.bool r)]], []⟩
def as_strings_IndexByte (p0 : ByteArray) (p1 : Int) : List Arg := [.v false [.lit (.string p0)], .v false [.lit (.int .u8 p1)]]
def res_strings_IndexByte (r : Int) : FRes := ⟨[.v false [.lit (.int .i64 r)]], []⟩
def as_impl_goodNote (p0 : S_Note) : List Arg := [.v true [.lit (.string p0.key), .lit (.string p0.value)]]
def res_impl_goodNote (r : Bool) : FRes := ⟨[.v false [.lit (.bool r)]], []⟩
def as_impl_Passes (p0 : Int) (p1 : Int) : List Arg := [.v false [.lit (.int .i64 p0)], .v false [.lit (.int .i64 p1)]]
def res_impl_Passes (r : (List S_Pass)) : FRes := ⟨[.v false [.sl (r.map rS_Pass)]], []⟩
def as_impl_shapes (p0 : Int) (p1 : Int) (p2 : Bool) : List Arg := [.v false [.lit (.int .i64 p0)], .v false [.lit (.int .i64 p1)], .v false [.lit (.bool p2)]]
def res_impl_shapes (r : (List S__2_int)) : FRes := ⟨[.v false [.sl (r.map rS__2_int)]], []⟩
def as_impl_rowBytes (p0 : Int) (p1 : Int) (p2 : Int) : List Arg := [.v false [.lit (.int .i64 p0)], .v false [.lit (.int .i64 p1)], .v false [.lit (.int .i64 p2)]]
def res_impl_rowBytes (r : Int) : FRes := ⟨[.v false [.lit (.int .i64 r)]], []⟩
def as_impl_rowsSize (p0 : Int) (p1 : Int) (p2 : Int) (p3 : Int) (p4 : Bool) : List Arg := [.v false [.lit (.int .i64 p0)], .v false [.lit (.int .i64 p1)], .v false [.lit (.int .i64 p2)], .v false [.lit (.int .i64 p3)], .v false [.lit (.bool p4)]]
def res_impl_rowsSize (r : Int) : FRes := ⟨[.v false [.lit (.int .i64 r)]], []⟩
def as_impl_GoodStill (p0 : S_Still) : List Arg := [.v true [.lit (.int .i64 p0.image.width), .lit (.int .i64 p0.image.height), .lit (.int .i64 p0.image.planes), .lit (.int .i64 p0.image.depth), .sl (p0.image.samples.map (rI .i64)), .sl (p0.palette.map (rI .i64)), .sl (p0.notes.map rS_Note), .lit (.bool p0.woven)]]
def res_impl_GoodStill (r : Bool) : FRes := ⟨[.v false [.lit (.bool r)]], []⟩
def as_impl_Colours (p0 : S_Still) : List Arg := [.v true [.lit (.int .i64 p0.image.width), .lit (.int .i64 p0.image.height), .lit (.int .i64 p0.image.planes), .lit (.int .i64 p0.image.depth), .sl (p0.image.samples.map (rI .i64)), .sl (p0.palette.map (rI .i64)), .sl (p0.notes.map rS_Note), .lit (.bool p0.woven)]]
def res_impl_Colours (r : S_Image) : FRes := ⟨[.v true [.lit (.int .i64 r.width), .lit (.int .i64 r.height), .lit (.int .i64 r.planes), .lit (.int .i64 r.depth), .sl (r.samples.map (rI .i64))]], []⟩
def as_laws_eqIntS (p0 : (List Int)) (p1 : (List Int)) : List Arg := [.v false [.sl (p0.map (rI .i64))], .v false [.sl (p1.map (rI .i64))]]
def res_laws_eqIntS (r : Bool) : FRes := ⟨[.v false [.lit (.bool r)]], []⟩
def as_laws_eqImage (p0 : S_Image) (p1 : S_Image) : List Arg := [.v true [.lit (.int .i64 p0.width), .lit (.int .i64 p0.height), .lit (.int .i64 p0.planes), .lit (.int .i64 p0.depth), .sl (p0.samples.map (rI .i64))], .v true [.lit (.int .i64 p1.width), .lit (.int .i64 p1.height), .lit (.int .i64 p1.planes), .lit (.int .i64 p1.depth), .sl (p1.samples.map (rI .i64))]]
def res_laws_eqImage (r : Bool) : FRes := ⟨[.v false [.lit (.bool r)]], []⟩
def as_laws_eqNote (p0 : S_Note) (p1 : S_Note) : List Arg := [.v true [.lit (.string p0.key), .lit (.string p0.value)], .v true [.lit (.string p1.key), .lit (.string p1.value)]]
def res_laws_eqNote (r : Bool) : FRes := ⟨[.v false [.lit (.bool r)]], []⟩
def as_laws_eqNoteS (p0 : (List S_Note)) (p1 : (List S_Note)) : List Arg := [.v false [.sl (p0.map rS_Note)], .v false [.sl (p1.map rS_Note)]]
def res_laws_eqNoteS (r : Bool) : FRes := ⟨[.v false [.lit (.bool r)]], []⟩
def as_laws_eqStill (p0 : S_Still) (p1 : S_Still) : List Arg := [.v true [.lit (.int .i64 p0.image.width), .lit (.int .i64 p0.image.height), .lit (.int .i64 p0.image.planes), .lit (.int .i64 p0.image.depth), .sl (p0.image.samples.map (rI .i64)), .sl (p0.palette.map (rI .i64)), .sl (p0.notes.map rS_Note), .lit (.bool p0.woven)], .v true [.lit (.int .i64 p1.image.width), .lit (.int .i64 p1.image.height), .lit (.int .i64 p1.image.planes), .lit (.int .i64 p1.image.depth), .sl (p1.image.samples.map (rI .i64)), .sl (p1.palette.map (rI .i64)), .sl (p1.notes.map rS_Note), .lit (.bool p1.woven)]]
def res_laws_eqStill (r : Bool) : FRes := ⟨[.v false [.lit (.bool r)]], []⟩
def as_laws_markIntS (p0 : (List Int)) (p1 : Int) : List Arg := [.m (.sl (p0.map (rI .i64))), .v false [.lit (.int .i64 p1)]]
def res_laws_markIntS (r : Int × (List Int)) : FRes := ⟨[.v false [.lit (.int .i64 r.1)]], [.sl (r.2.map (rI .i64))]⟩
def as_laws_markImage (p0 : S_Image) (p1 : Int) : List Arg := [.v true [.lit (.int .i64 p0.width), .lit (.int .i64 p0.height), .lit (.int .i64 p0.planes), .lit (.int .i64 p0.depth), .sl (p0.samples.map (rI .i64))], .v false [.lit (.int .i64 p1)]]
def res_laws_markImage (r : Int × S_Image) : FRes := ⟨[.v false [.lit (.int .i64 r.1)]], [.sl (r.2.samples.map (rI .i64))]⟩
def as_laws_markText (p0 : Int) : List Arg := [.v false [.lit (.int .i64 p0)]]
def res_laws_markText (r : ByteArray) : FRes := ⟨[.v false [.lit (.string r)]], []⟩
def as_laws_markNoteS (p0 : (List S_Note)) (p1 : Int) : List Arg := [.m (.sl (p0.map rS_Note)), .v false [.lit (.int .i64 p1)]]
def res_laws_markNoteS (r : Int × (List S_Note)) : FRes := ⟨[.v false [.lit (.int .i64 r.1)]], [.sl (r.2.map rS_Note)]⟩
def as_laws_markStill (p0 : S_Still) (p1 : Int) : List Arg := [.v true [.lit (.int .i64 p0.image.width), .lit (.int .i64 p0.image.height), .lit (.int .i64 p0.image.planes), .lit (.int .i64 p0.image.depth), .sl (p0.image.samples.map (rI .i64)), .sl (p0.palette.map (rI .i64)), .sl (p0.notes.map rS_Note), .lit (.bool p0.woven)], .v false [.lit (.int .i64 p1)]]
def res_laws_markStill (r : Int × S_Still) : FRes := ⟨[.v false [.lit (.int .i64 r.1)]], [.sl (r.2.image.samples.map (rI .i64)), .sl (r.2.palette.map (rI .i64)), .sl (r.2.notes.map rS_Note)]⟩
def as_laws_heldIntS (p0 : (List Int)) (p1 : Int) : List Arg := [.v false [.sl (p0.map (rI .i64))], .v false [.lit (.int .i64 p1)]]
def res_laws_heldIntS (r : Int) : FRes := ⟨[.v false [.lit (.int .i64 r)]], []⟩
def as_laws_heldImage (p0 : S_Image) (p1 : Int) : List Arg := [.v true [.lit (.int .i64 p0.width), .lit (.int .i64 p0.height), .lit (.int .i64 p0.planes), .lit (.int .i64 p0.depth), .sl (p0.samples.map (rI .i64))], .v false [.lit (.int .i64 p1)]]
def res_laws_heldImage (r : Int) : FRes := ⟨[.v false [.lit (.int .i64 r)]], []⟩
def as_laws_FnExactColours (p0 : S_Still) : List Arg := [.v true [.lit (.int .i64 p0.image.width), .lit (.int .i64 p0.image.height), .lit (.int .i64 p0.image.planes), .lit (.int .i64 p0.image.depth), .sl (p0.image.samples.map (rI .i64)), .sl (p0.palette.map (rI .i64)), .sl (p0.notes.map rS_Note), .lit (.bool p0.woven)]]
def res_laws_FnExactColours (r : Bool) : FRes := ⟨[.v false [.lit (.bool r)]], []⟩
def K_laws_szIntS_0 : List Fr := []
def s_laws_szIntS_0 (p0 : (List Int)) (p1 : Int) : St :=
  ⟨mkSl 12 [(0, .v false [.ro [.sc] (p0.map (rI .i64))]), (1, .v false [.lit (.int .i64 p1)])], [], []⟩
def K_laws_szImage_0 : List Fr := []
def s_laws_szImage_0 (p0 : S_Image) (p1 : Int) : St :=
  ⟨mkSl 12 [(0, .v true [.lit (.int .i64 p0.width), .lit (.int .i64 p0.height), .lit (.int .i64 p0.planes), .lit (.int .i64 p0.depth), .ro [.sc] (p0.samples.map (rI .i64))]), (1, .v false [.lit (.int .i64 p1)])], [], []⟩
def K_laws_szNote_0 : List Fr := []
def s_laws_szNote_0 (p0 : S_Note) (p1 : Int) : St :=
  ⟨mkSl 20 [(0, .v true [.lit (.string p0.key), .lit (.string p0.value)]), (1, .v false [.lit (.int .i64 p1)])], [], []⟩
def K_laws_szNoteS_35 : List Fr := []
def s_laws_szNoteS_35 (i35_0 : Int) : St :=
  ⟨mkSl 27 [(1, .v false [.lit (.int .i64 i35_0)])], [], []⟩
def K_laws_szNoteS_17 : List Fr := [.lp [0, 1, 5] c_laws_szNoteS_17, .bk 0, .sq (.kp [1] c_laws_szNoteS_35)]
def s_laws_szNoteS_17 (p0 : (List S_Note)) (i17_0 : Int) (i17_1 : Int) : St :=
  ⟨mkSl 27 [(0, .v false [.ro [.sc, .sc] (p0.map rS_Note)]), (1, .v false [.lit (.int .i64 i17_0)]), (5, .v false [.lit (.int .i64 i17_1)])], [], []⟩
def K_laws_szNoteS_0 : List Fr := []
def s_laws_szNoteS_0 (p0 : (List S_Note)) (p1 : Int) : St :=
  ⟨mkSl 27 [(0, .v false [.ro [.sc, .sc] (p0.map rS_Note)]), (1, .v false [.lit (.int .i64 p1)])], [], []⟩
def K_laws_szStill_0 : List Fr := []
def s_laws_szStill_0 (p0 : S_Still) (p1 : Int) : St :=
  ⟨mkSl 24 [(0, .v true [.lit (.int .i64 p0.image.width), .lit (.int .i64 p0.image.height), .lit (.int .i64 p0.image.planes), .lit (.int .i64 p0.image.depth), .ro [.sc] (p0.image.samples.map (rI .i64)), .ro [.sc] (p0.palette.map (rI .i64)), .ro [.sc, .sc] (p0.notes.map rS_Note), .lit (.bool p0.woven)]), (1, .v false [.lit (.int .i64 p1)])], [], []⟩
def K_laws_toIntS_19 : List Fr := []
def s_laws_toIntS_19 (l19_0 : (List Int)) : St :=
  ⟨mkSl 22 [(3, .v false [.ref 0 [] 0 l19_0.length])], [some ⟨[.sc], (List.map (rI .i64) l19_0)⟩], []⟩
def K_laws_toIntS_9 : List Fr := [.lp [0, 3, 4] c_laws_toIntS_9, .bk 0, .sq (.kp [3] c_laws_toIntS_19)]
def s_laws_toIntS_9 (p0 : (List Int)) (i9_0 : Int) (l9_1 : (List Int)) : St :=
  ⟨mkSl 22 [(0, .v false [.ro [.sc] (p0.map (rI .i64))]), (3, .v false [.ref 0 [] 0 l9_1.length]), (4, .v false [.lit (.int .i64 i9_0)])], [some ⟨[.sc], (List.map (rI .i64) l9_1)⟩], []⟩
def K_laws_toIntS_0 : List Fr := []
def s_laws_toIntS_0 (p0 : (List Int)) : St :=
  ⟨mkSl 22 [(0, .v false [.ro [.sc] (p0.map (rI .i64))])], [], []⟩
def K_laws_toImage_0 : List Fr := []
def s_laws_toImage_0 (p0 : S_Image) : St :=
  ⟨mkSl 21 [(0, .v true [.lit (.int .i64 p0.width), .lit (.int .i64 p0.height), .lit (.int .i64 p0.planes), .lit (.int .i64 p0.depth), .ro [.sc] (p0.samples.map (rI .i64))])], [], []⟩
def K_laws_toNote_0 : List Fr := []
def s_laws_toNote_0 (p0 : S_Note) : St :=
  ⟨mkSl 11 [(0, .v true [.lit (.string p0.key), .lit (.string p0.value)])], [], []⟩
def K_laws_toNoteS_19 : List Fr := []
def s_laws_toNoteS_19 (l19_0 : (List S_Note)) : St :=
  ⟨mkSl 23 [(3, .v false [.ref 0 [] 0 l19_0.length])], [some ⟨[.sc, .sc], (List.map rS_Note l19_0)⟩], []⟩
def K_laws_toNoteS_9 : List Fr := [.lp [0, 3, 4] c_laws_toNoteS_9, .bk 0, .sq (.kp [3] c_laws_toNoteS_19)]
def s_laws_toNoteS_9 (p0 : (List S_Note)) (i9_0 : Int) (l9_1 : (List S_Note)) : St :=
  ⟨mkSl 23 [(0, .v false [.ro [.sc, .sc] (p0.map rS_Note)]), (3, .v false [.ref 0 [] 0 l9_1.length]), (4, .v false [.lit (.int .i64 i9_0)])], [some ⟨[.sc, .sc], (List.map rS_Note l9_1)⟩], []⟩
def K_laws_toNoteS_0 : List Fr := []
def s_laws_toNoteS_0 (p0 : (List S_Note)) : St :=
  ⟨mkSl 23 [(0, .v false [.ro [.sc, .sc] (p0.map rS_Note)])], [], []⟩
def K_laws_toStill_0 : List Fr := []
def s_laws_toStill_0 (p0 : S_Still) : St :=
  ⟨mkSl 20 [(0, .v true [.lit (.int .i64 p0.image.width), .lit (.int .i64 p0.image.height), .lit (.int .i64 p0.image.planes), .lit (.int .i64 p0.image.depth), .ro [.sc] (p0.image.samples.map (rI .i64)), .ro [.sc] (p0.palette.map (rI .i64)), .ro [.sc, .sc] (p0.notes.map rS_Note), .lit (.bool p0.woven)])], [], []⟩
def K_spec_l4Sides_0 : List Fr := []
def s_spec_l4Sides_0 (p0 : Int) (p1 : Int) : St :=
  ⟨mkSl 19 [(0, .v false [.lit (.int .i64 p0)]), (1, .v false [.lit (.int .i64 p1)])], [], []⟩
def K_spec_l4Depth_0 : List Fr := []
def s_spec_l4Depth_0 (p0 : Int) : St :=
  ⟨mkSl 21 [(0, .v false [.lit (.int .i64 p0)])], [], []⟩
def K_spec_GoodImage_41 : List Fr := []
def s_spec_GoodImage_41 : St :=
  ⟨mkSl 75 [], [], []⟩
def K_spec_GoodImage_23 : List Fr := [.lp [1, 58, 59, 60] c_spec_GoodImage_23, .bk 0, .sq (.kp [] c_spec_GoodImage_41)]
def s_spec_GoodImage_23 (p0 : S_Image) (i23_0 : Int) : St :=
  ⟨mkSl 75 [(1, .v false [.vptr 0 0]), (58, .v false [.ro [.sc] (p0.samples.map (rI .i64))]), (59, .v false [.lit (.int .i64 (p0.samples.length : Int))]), (60, .v false [.lit (.int .i64 i23_0)])], [], [some [.lit (.int .i64 p0.width), .lit (.int .i64 p0.height), .lit (.int .i64 p0.planes), .lit (.int .i64 p0.depth), .ro [.sc] (p0.samples.map (rI .i64))]]⟩
def K_spec_GoodImage_18 : List Fr := []
def s_spec_GoodImage_18 (p0 : S_Image) : St :=
  ⟨mkSl 75 [(1, .v false [.vptr 0 0])], [], [some [.lit (.int .i64 p0.width), .lit (.int .i64 p0.height), .lit (.int .i64 p0.planes), .lit (.int .i64 p0.depth), .ro [.sc] (p0.samples.map (rI .i64))]]⟩
def K_spec_GoodImage_0 : List Fr := []
def s_spec_GoodImage_0 (p0 : S_Image) : St :=
  ⟨mkSl 75 [(0, .v true [.lit (.int .i64 p0.width), .lit (.int .i64 p0.height), .lit (.int .i64 p0.planes), .lit (.int .i64 p0.depth), .ro [.sc] (p0.samples.map (rI .i64))])], [], []⟩
def K_spec_l5Colours_25 : List Fr := []
def s_spec_l5Colours_25 (p0 : (List Int)) : St :=
  ⟨mkSl 21 [(0, .v false [.ro [.sc] (p0.map (rI .i64))])], [], []⟩
def K_spec_l5Colours_7 : List Fr := [.lp [0, 5, 6, 7] c_spec_l5Colours_7, .bk 0, .sq (.kp [0] c_spec_l5Colours_25)]
def s_spec_l5Colours_7 (p0 : (List Int)) (i7_0 : Int) : St :=
  ⟨mkSl 21 [(0, .v false [.ro [.sc] (p0.map (rI .i64))]), (5, .v false [.ro [.sc] (p0.map (rI .i64))]), (6, .v false [.lit (.int .i64 (p0.length : Int))]), (7, .v false [.lit (.int .i64 i7_0)])], [], []⟩
def K_spec_l5Colours_0 : List Fr := []
def s_spec_l5Colours_0 (p0 : (List Int)) : St :=
  ⟨mkSl 21 [(0, .v false [.ro [.sc] (p0.map (rI .i64))])], [], []⟩
def K_spec_l5Note_52 : List Fr := []
def s_spec_l5Note_52 : St :=
  ⟨mkSl 52 [], [], []⟩
def K_spec_l5Note_36 : List Fr := [.lp [1, 4] c_spec_l5Note_36, .bk 2, .sq (.kp [] c_spec_l5Note_52)]
def s_spec_l5Note_36 (p0 : S_Note) (i36_0 : Int) : St :=
  ⟨mkSl 52 [(1, .v false [.vptr 0 0]), (4, .v false [.lit (.int .i64 i36_0)])], [], [some [.lit (.string p0.key), .lit (.string p0.value)]]⟩
def K_spec_l5Note_31 : List Fr := []
def s_spec_l5Note_31 (p0 : S_Note) : St :=
  ⟨mkSl 52 [(1, .v false [.vptr 0 0])], [], [some [.lit (.string p0.key), .lit (.string p0.value)]]⟩
def K_spec_l5Note_15 : List Fr := [.lp [1, 3] c_spec_l5Note_15, .bk 0, .sq (.kp [1] c_spec_l5Note_31)]
def s_spec_l5Note_15 (p0 : S_Note) (i15_0 : Int) : St :=
  ⟨mkSl 52 [(1, .v false [.vptr 0 0]), (3, .v false [.lit (.int .i64 i15_0)])], [], [some [.lit (.string p0.key), .lit (.string p0.value)]]⟩
def K_spec_l5Note_0 : List Fr := []
def s_spec_l5Note_0 (p0 : S_Note) : St :=
  ⟨mkSl 52 [(0, .v true [.lit (.string p0.key), .lit (.string p0.value)])], [], []⟩
def K_spec_l4Count_0 : List Fr := []
def s_spec_l4Count_0 (p0 : Int) (p1 : Int) (p2 : Int) : St :=
  ⟨mkSl 18 [(0, .v false [.lit (.int .i64 p0)]), (1, .v false [.lit (.int .i64 p1)]), (2, .v false [.lit (.int .i64 p2)])], [], []⟩
def K_spec_l4Passes_27 : List Fr := [.bk 1, .sq c_spec_l4Passes_30, .lp [0, 1, 5, 6, 7] c_spec_l4Passes_11, .bk 0, .sq (.kp [6] c_spec_l4Passes_31)]
def s_spec_l4Passes_27 (p0 : Int) (p1 : Int) (i11_0 : Int) (x11_1 : Int) (x11_2 : Int) (x11_3 : Int) (x11_4 : Int) (x11_5 : Int) (x11_6 : Int) (l11_1 : (List Int)) (l11_2 : (List S_Pass)) (b27_0 : Bool) : St :=
  ⟨mkSl 63 [(0, .v false [.lit (.int .i64 p0)]), (1, .v false [.lit (.int .i64 p1)]), (5, .v false [.ref 0 [] 0 l11_1.length]), (6, .v false [.ref 1 [] 0 l11_2.length]), (7, .v false [.lit (.int .i64 i11_0)]), (8, .v false [.vptr 0 0]), (57, .v false [.lit (.bool b27_0)])], [some ⟨[.sc], (List.map (rI .i64) l11_1)⟩, some ⟨[.sc, .sc, .sc, .sc, .sc, .sc], (List.map rS_Pass l11_2)⟩], [some [.lit (.int .i64 x11_1), .lit (.int .i64 x11_2), .lit (.int .i64 x11_3), .lit (.int .i64 x11_4), .lit (.int .i64 x11_5), .lit (.int .i64 x11_6)]]⟩
def K_spec_l4Passes_31 : List Fr := []
def s_spec_l4Passes_31 (l31_0 : (List S_Pass)) : St :=
  ⟨mkSl 63 [(6, .v false [.ref 0 [] 0 l31_0.length])], [some ⟨[.sc, .sc, .sc, .sc, .sc, .sc], (List.map rS_Pass l31_0)⟩], []⟩
def K_spec_l4Passes_11 : List Fr := [.lp [0, 1, 5, 6, 7] c_spec_l4Passes_11, .bk 0, .sq (.kp [6] c_spec_l4Passes_31)]
def s_spec_l4Passes_11 (p0 : Int) (p1 : Int) (i11_0 : Int) (l11_1 : (List Int)) (l11_2 : (List S_Pass)) : St :=
  ⟨mkSl 63 [(0, .v false [.lit (.int .i64 p0)]), (1, .v false [.lit (.int .i64 p1)]), (5, .v false [.ref 0 [] 0 l11_1.length]), (6, .v false [.ref 1 [] 0 l11_2.length]), (7, .v false [.lit (.int .i64 i11_0)])], [some ⟨[.sc], (List.map (rI .i64) l11_1)⟩, some ⟨[.sc, .sc, .sc, .sc, .sc, .sc], (List.map rS_Pass l11_2)⟩], []⟩
def K_spec_l4Passes_0 : List Fr := []
def s_spec_l4Passes_0 (p0 : Int) (p1 : Int) : St :=
  ⟨mkSl 63 [(0, .v false [.lit (.int .i64 p0)]), (1, .v false [.lit (.int .i64 p1)])], [], []⟩
def K_spec_l5Sizes_29 : List Fr := []
def s_spec_l5Sizes_29 (l29_0 : (List S_Image)) : St :=
  ⟨mkSl 44 [(5, .v false [.ref 0 [] 0 l29_0.length])], [some ⟨[.sc, .sc, .sc, .sc, .own [.sc]], (List.map rS_Image l29_0)⟩], []⟩
def K_spec_l5Sizes_17 : List Fr := [.lp [2, 5, 24, 25, 26] c_spec_l5Sizes_17, .bk 0, .sq (.kp [5] c_spec_l5Sizes_29)]
def s_spec_l5Sizes_17 (x0_1 : (List S_Pass)) (p0 : S_Image) (i17_0 : Int) (l17_1 : (List S_Image)) : St :=
  ⟨mkSl 44 [(2, .v false [.vptr 0 0]), (5, .v false [.ref 0 [] 0 l17_1.length]), (24, .v false [.ref 1 [] 0 x0_1.length]), (25, .v false [.lit (.int .i64 (x0_1.length : Int))]), (26, .v false [.lit (.int .i64 i17_0)])], [some ⟨[.sc, .sc, .sc, .sc, .own [.sc]], (List.map rS_Image l17_1)⟩, some ⟨[.sc, .sc, .sc, .sc, .sc, .sc], (List.map rS_Pass x0_1)⟩], [some [.lit (.int .i64 p0.width), .lit (.int .i64 p0.height), .lit (.int .i64 p0.planes), .lit (.int .i64 p0.depth), .ro [.sc] (p0.samples.map (rI .i64))]]⟩
def K_spec_l5Sizes_0 : List Fr := []
def s_spec_l5Sizes_0 (p0 : S_Image) (p1 : Bool) : St :=
  ⟨mkSl 44 [(0, .v true [.lit (.int .i64 p0.width), .lit (.int .i64 p0.height), .lit (.int .i64 p0.planes), .lit (.int .i64 p0.depth), .ro [.sc] (p0.samples.map (rI .i64))]), (1, .v false [.lit (.bool p1)])], [], []⟩
def K_spec_l5RowBytes_0 : List Fr := []
def s_spec_l5RowBytes_0 (p0 : S_Image) : St :=
  ⟨mkSl 13 [(0, .v true [.lit (.int .i64 p0.width), .lit (.int .i64 p0.height), .lit (.int .i64 p0.planes), .lit (.int .i64 p0.depth), .ro [.sc] (p0.samples.map (rI .i64))])], [], []⟩
def K_spec_l5Total_21 : List Fr := []
def s_spec_l5Total_21 (i21_0 : Int) : St :=
  ⟨mkSl 26 [(5, .v false [.lit (.int .i64 i21_0)])], [], []⟩
def K_spec_l5Total_9 : List Fr := [.lp [5, 10, 11, 12] c_spec_l5Total_9, .bk 0, .sq (.kp [5] c_spec_l5Total_21)]
def s_spec_l5Total_9 (x0_0 : (List S_Image)) (i9_0 : Int) (i9_1 : Int) : St :=
  ⟨mkSl 26 [(5, .v false [.lit (.int .i64 i9_0)]), (10, .v false [.ref 0 [] 0 x0_0.length]), (11, .v false [.lit (.int .i64 (x0_0.length : Int))]), (12, .v false [.lit (.int .i64 i9_1)])], [some ⟨[.sc, .sc, .sc, .sc, .own [.sc]], (List.map rS_Image x0_0)⟩], []⟩
def K_spec_l5Total_0 : List Fr := []
def s_spec_l5Total_0 (p0 : S_Image) (p1 : Bool) : St :=
  ⟨mkSl 26 [(0, .v true [.lit (.int .i64 p0.width), .lit (.int .i64 p0.height), .lit (.int .i64 p0.planes), .lit (.int .i64 p0.depth), .ro [.sc] (p0.samples.map (rI .i64))]), (1, .v false [.lit (.bool p1)])], [], []⟩
def K_spec_GoodStill_68 : List Fr := []
def s_spec_GoodStill_68 (p0 : S_Still) : St :=
  ⟨mkSl 68 [(1, .v false [.vptr 0 0])], [], [some [.lit (.int .i64 p0.image.width), .lit (.int .i64 p0.image.height), .lit (.int .i64 p0.image.planes), .lit (.int .i64 p0.image.depth), .ro [.sc] (p0.image.samples.map (rI .i64)), .ro [.sc] (p0.palette.map (rI .i64)), .ro [.sc, .sc] (p0.notes.map rS_Note), .lit (.bool p0.woven)]]⟩
def K_spec_GoodStill_50 : List Fr := [.lp [1, 52, 53, 54] c_spec_GoodStill_50, .bk 2, .sq (.kp [1] c_spec_GoodStill_68)]
def s_spec_GoodStill_50 (p0 : S_Still) (i50_0 : Int) : St :=
  ⟨mkSl 68 [(1, .v false [.vptr 0 0]), (52, .v false [.ro [.sc, .sc] (p0.notes.map rS_Note)]), (53, .v false [.lit (.int .i64 (p0.notes.length : Int))]), (54, .v false [.lit (.int .i64 i50_0)])], [], [some [.lit (.int .i64 p0.image.width), .lit (.int .i64 p0.image.height), .lit (.int .i64 p0.image.planes), .lit (.int .i64 p0.image.depth), .ro [.sc] (p0.image.samples.map (rI .i64)), .ro [.sc] (p0.palette.map (rI .i64)), .ro [.sc, .sc] (p0.notes.map rS_Note), .lit (.bool p0.woven)]]⟩
def K_spec_GoodStill_45 : List Fr := []
def s_spec_GoodStill_45 (p0 : S_Still) : St :=
  ⟨mkSl 68 [(1, .v false [.vptr 0 0])], [], [some [.lit (.int .i64 p0.image.width), .lit (.int .i64 p0.image.height), .lit (.int .i64 p0.image.planes), .lit (.int .i64 p0.image.depth), .ro [.sc] (p0.image.samples.map (rI .i64)), .ro [.sc] (p0.palette.map (rI .i64)), .ro [.sc, .sc] (p0.notes.map rS_Note), .lit (.bool p0.woven)]]⟩
def K_spec_GoodStill_26 : List Fr := [.lp [1, 39, 40, 41] c_spec_GoodStill_26, .bk 0, .sq (.kp [1] c_spec_GoodStill_45)]
def s_spec_GoodStill_26 (p0 : S_Still) (i26_0 : Int) : St :=
  ⟨mkSl 68 [(1, .v false [.vptr 0 0]), (39, .v false [.ro [.sc] (p0.image.samples.map (rI .i64))]), (40, .v false [.lit (.int .i64 (p0.image.samples.length : Int))]), (41, .v false [.lit (.int .i64 i26_0)])], [], [some [.lit (.int .i64 p0.image.width), .lit (.int .i64 p0.image.height), .lit (.int .i64 p0.image.planes), .lit (.int .i64 p0.image.depth), .ro [.sc] (p0.image.samples.map (rI .i64)), .ro [.sc] (p0.palette.map (rI .i64)), .ro [.sc, .sc] (p0.notes.map rS_Note), .lit (.bool p0.woven)]]⟩
def K_spec_GoodStill_0 : List Fr := []
def s_spec_GoodStill_0 (p0 : S_Still) : St :=
  ⟨mkSl 68 [(0, .v true [.lit (.int .i64 p0.image.width), .lit (.int .i64 p0.image.height), .lit (.int .i64 p0.image.planes), .lit (.int .i64 p0.image.depth), .ro [.sc] (p0.image.samples.map (rI .i64)), .ro [.sc] (p0.palette.map (rI .i64)), .ro [.sc, .sc] (p0.notes.map rS_Note), .lit (.bool p0.woven)])], [], []⟩
def K_spec_Colours_47 : List Fr := []
def s_spec_Colours_47 (p0 : S_Still) (l47_0 : (List Int)) : St :=
  ⟨mkSl 57 [(2, .v false [.vptr 0 0]), (5, .v false [.vptr 1 0])], [some ⟨[.sc], (List.map (rI .i64) ([] : List Int))⟩, some ⟨[.sc], (List.map (rI .i64) l47_0)⟩], [some [.lit (.int .i64 0), .lit (.int .i64 0), .lit (.int .i64 0), .lit (.int .i64 0), .ref 0 [] 0 (([] : List Int).length)], some [.lit (.int .i64 p0.image.width), .lit (.int .i64 p0.image.height), .lit (.int .i64 3), .lit (.int .i64 8), .ref 1 [] 0 l47_0.length]]⟩
def K_spec_Colours_33 : List Fr := [.lp [1, 2, 5, 32, 33, 34] c_spec_Colours_33, .bk 0, .sq (.kp [2, 5] c_spec_Colours_47)]
def s_spec_Colours_33 (p0 : S_Still) (i33_0 : Int) (l33_1 : (List Int)) : St :=
  ⟨mkSl 57 [(1, .v false [.vptr 0 0]), (2, .v false [.vptr 1 0]), (5, .v false [.vptr 2 0]), (32, .v false [.ro [.sc] (p0.image.samples.map (rI .i64))]), (33, .v false [.lit (.int .i64 (p0.image.samples.length : Int))]), (34, .v false [.lit (.int .i64 i33_0)])], [some ⟨[.sc], (List.map (rI .i64) ([] : List Int))⟩, some ⟨[.sc], (List.map (rI .i64) l33_1)⟩], [some [.lit (.int .i64 p0.image.width), .lit (.int .i64 p0.image.height), .lit (.int .i64 p0.image.planes), .lit (.int .i64 p0.image.depth), .ro [.sc] (p0.image.samples.map (rI .i64)), .ro [.sc] (p0.palette.map (rI .i64)), .ro [.sc, .sc] (p0.notes.map rS_Note), .lit (.bool p0.woven)], some [.lit (.int .i64 0), .lit (.int .i64 0), .lit (.int .i64 0), .lit (.int .i64 0), .ref 0 [] 0 (([] : List Int).length)], some [.lit (.int .i64 p0.image.width), .lit (.int .i64 p0.image.height), .lit (.int .i64 3), .lit (.int .i64 8), .ref 1 [] 0 l33_1.length]]⟩
def K_spec_Colours_0 : List Fr := []
def s_spec_Colours_0 (p0 : S_Still) : St :=
  ⟨mkSl 57 [(0, .v true [.lit (.int .i64 p0.image.width), .lit (.int .i64 p0.image.height), .lit (.int .i64 p0.image.planes), .lit (.int .i64 p0.image.depth), .ro [.sc] (p0.image.samples.map (rI .i64)), .ro [.sc] (p0.palette.map (rI .i64)), .ro [.sc, .sc] (p0.notes.map rS_Note), .lit (.bool p0.woven)])], [], []⟩
def K_impl_goodSide_0 : List Fr := []
def s_impl_goodSide_0 (p0 : Int) : St :=
  ⟨mkSl 9 [(0, .v false [.lit (.int .i64 p0)])], [], []⟩
def K_impl_goodSides_0 : List Fr := []
def s_impl_goodSides_0 (p0 : Int) (p1 : Int) : St :=
  ⟨mkSl 17 [(0, .v false [.lit (.int .i64 p0)]), (1, .v false [.lit (.int .i64 p1)])], [], []⟩
def K_impl_goodDepth_0 : List Fr := []
def s_impl_goodDepth_0 (p0 : Int) : St :=
  ⟨mkSl 21 [(0, .v false [.lit (.int .i64 p0)])], [], []⟩
def K_impl_goodShape_0 : List Fr := []
def s_impl_goodShape_0 (p0 : Int) (p1 : Int) (p2 : Int) (p3 : Int) : St :=
  ⟨mkSl 32 [(0, .v false [.lit (.int .i64 p0)]), (1, .v false [.lit (.int .i64 p1)]), (2, .v false [.lit (.int .i64 p2)]), (3, .v false [.lit (.int .i64 p3)])], [], []⟩
def K_impl_inRange_25 : List Fr := []
def s_impl_inRange_25 : St :=
  ⟨mkSl 21 [], [], []⟩
def K_impl_inRange_7 : List Fr := [.lp [1, 7, 8, 9] c_impl_inRange_7, .bk 0, .sq (.kp [] c_impl_inRange_25)]
def s_impl_inRange_7 (p1 : Int) (p0 : (List Int)) (i7_0 : Int) : St :=
  ⟨mkSl 21 [(1, .v false [.lit (.int .i64 p1)]), (7, .v false [.ro [.sc] (p0.map (rI .i64))]), (8, .v false [.lit (.int .i64 (p0.length : Int))]), (9, .v false [.lit (.int .i64 i7_0)])], [], []⟩
def K_impl_inRange_0 : List Fr := []
def s_impl_inRange_0 (p0 : (List Int)) (p1 : Int) : St :=
  ⟨mkSl 21 [(0, .v false [.ro [.sc] (p0.map (rI .i64))]), (1, .v false [.lit (.int .i64 p1)])], [], []⟩
def K_impl_GoodImage_0 : List Fr := []
def s_impl_GoodImage_0 (p0 : S_Image) : St :=
  ⟨mkSl 35 [(0, .v true [.lit (.int .i64 p0.width), .lit (.int .i64 p0.height), .lit (.int .i64 p0.planes), .lit (.int .i64 p0.depth), .ro [.sc] (p0.samples.map (rI .i64))])], [], []⟩
def K_impl_goodNote_33 : List Fr := []
def s_impl_goodNote_33 : St :=
  ⟨mkSl 45 [], [], []⟩
def K_impl_goodNote_15 : List Fr := [.lp [1, 28, 29] c_impl_goodNote_15, .bk 0, .sq (.kp [] c_impl_goodNote_33)]
def s_impl_goodNote_15 (p0 : S_Note) (i15_0 : Int) : St :=
  ⟨mkSl 45 [(1, .v false [.vptr 0 0]), (28, .v false [.lit (.int .i64 (p0.key.size : Int))]), (29, .v false [.lit (.int .i64 i15_0)])], [], [some [.lit (.string p0.key), .lit (.string p0.value)]]⟩
def K_impl_goodNote_0 : List Fr := []
def s_impl_goodNote_0 (p0 : S_Note) : St :=
  ⟨mkSl 45 [(0, .v true [.lit (.string p0.key), .lit (.string p0.value)])], [], []⟩
def K_impl_Passes_33 : List Fr := [.bk 1, .sq c_impl_Passes_36, .lp [0, 1, 5, 23, 24, 25] c_impl_Passes_17, .bk 0, .sq (.kp [5] c_impl_Passes_37)]
def s_impl_Passes_33 (p0 : Int) (p1 : Int) (i17_0 : Int) (x17_1 : S_Pass) (l17_1 : (List S_Pass)) (l17_2 : (List S_Pass)) (b33_0 : Bool) (i33_1 : Int) (i33_2 : Int) : St :=
  ⟨mkSl 67 [(0, .v false [.lit (.int .i64 p0)]), (1, .v false [.lit (.int .i64 p1)]), (5, .v false [.ref 0 [] 0 l17_1.length]), (7, .v false [.vptr 0 0]), (23, .v false [.ref 1 [] 0 l17_2.length]), (24, .v false [.lit (.int .i64 7)]), (25, .v false [.lit (.int .i64 i17_0)]), (60, .v false [.lit (.bool b33_0)])], [some ⟨[.sc, .sc, .sc, .sc, .sc, .sc], (List.map rS_Pass l17_1)⟩, some ⟨[.sc, .sc, .sc, .sc, .sc, .sc], (List.map rS_Pass l17_2)⟩], [some [.lit (.int .i64 x17_1.x), .lit (.int .i64 x17_1.y), .lit (.int .i64 x17_1.stepX), .lit (.int .i64 x17_1.stepY), .lit (.int .i64 i33_1), .lit (.int .i64 i33_2)]]⟩
def K_impl_Passes_37 : List Fr := []
def s_impl_Passes_37 (l37_0 : (List S_Pass)) : St :=
  ⟨mkSl 67 [(5, .v false [.ref 0 [] 0 l37_0.length])], [some ⟨[.sc, .sc, .sc, .sc, .sc, .sc], (List.map rS_Pass l37_0)⟩], []⟩
def K_impl_Passes_17 : List Fr := [.lp [0, 1, 5, 23, 24, 25] c_impl_Passes_17, .bk 0, .sq (.kp [5] c_impl_Passes_37)]
def s_impl_Passes_17 (p0 : Int) (p1 : Int) (i17_0 : Int) (l17_1 : (List S_Pass)) (l17_2 : (List S_Pass)) : St :=
  ⟨mkSl 67 [(0, .v false [.lit (.int .i64 p0)]), (1, .v false [.lit (.int .i64 p1)]), (5, .v false [.ref 0 [] 0 l17_1.length]), (23, .v false [.ref 1 [] 0 l17_2.length]), (24, .v false [.lit (.int .i64 7)]), (25, .v false [.lit (.int .i64 i17_0)])], [some ⟨[.sc, .sc, .sc, .sc, .sc, .sc], (List.map rS_Pass l17_1)⟩, some ⟨[.sc, .sc, .sc, .sc, .sc, .sc], (List.map rS_Pass l17_2)⟩], []⟩
def K_impl_Passes_0 : List Fr := []
def s_impl_Passes_0 (p0 : Int) (p1 : Int) : St :=
  ⟨mkSl 67 [(0, .v false [.lit (.int .i64 p0)]), (1, .v false [.lit (.int .i64 p1)])], [], []⟩
def K_impl_shapes_29 : List Fr := []
def s_impl_shapes_29 (l29_0 : (List S__2_int)) : St :=
  ⟨mkSl 34 [(7, .v false [.ref 0 [] 0 l29_0.length])], [some ⟨[.sc, .sc], (List.map rS__2_int l29_0)⟩], []⟩
def K_impl_shapes_17 : List Fr := [.lp [7, 18, 19, 20] c_impl_shapes_17, .bk 0, .sq (.kp [7] c_impl_shapes_29)]
def s_impl_shapes_17 (x0_1 : (List S_Pass)) (i17_0 : Int) (l17_1 : (List S__2_int)) : St :=
  ⟨mkSl 34 [(7, .v false [.ref 0 [] 0 l17_1.length]), (18, .v false [.ref 1 [] 0 x0_1.length]), (19, .v false [.lit (.int .i64 (x0_1.length : Int))]), (20, .v false [.lit (.int .i64 i17_0)])], [some ⟨[.sc, .sc], (List.map rS__2_int l17_1)⟩, some ⟨[.sc, .sc, .sc, .sc, .sc, .sc], (List.map rS_Pass x0_1)⟩], []⟩
def K_impl_shapes_0 : List Fr := []
def s_impl_shapes_0 (p0 : Int) (p1 : Int) (p2 : Bool) : St :=
  ⟨mkSl 34 [(0, .v false [.lit (.int .i64 p0)]), (1, .v false [.lit (.int .i64 p1)]), (2, .v false [.lit (.bool p2)])], [], []⟩
def K_impl_rowBytes_0 : List Fr := []
def s_impl_rowBytes_0 (p0 : Int) (p1 : Int) (p2 : Int) : St :=
  ⟨mkSl 14 [(0, .v false [.lit (.int .i64 p0)]), (1, .v false [.lit (.int .i64 p1)]), (2, .v false [.lit (.int .i64 p2)])], [], []⟩
def K_impl_rowsSize_21 : List Fr := []
def s_impl_rowsSize_21 (i21_0 : Int) : St :=
  ⟨mkSl 36 [(11, .v false [.lit (.int .i64 i21_0)])], [], []⟩
def K_impl_rowsSize_9 : List Fr := [.lp [2, 3, 11, 17, 18, 19] c_impl_rowsSize_9, .bk 0, .sq (.kp [11] c_impl_rowsSize_21)]
def s_impl_rowsSize_9 (p2 : Int) (p3 : Int) (x0_0 : (List S__2_int)) (i9_0 : Int) (i9_1 : Int) : St :=
  ⟨mkSl 36 [(2, .v false [.lit (.int .i64 p2)]), (3, .v false [.lit (.int .i64 p3)]), (11, .v false [.lit (.int .i64 i9_0)]), (17, .v false [.ref 0 [] 0 x0_0.length]), (18, .v false [.lit (.int .i64 (x0_0.length : Int))]), (19, .v false [.lit (.int .i64 i9_1)])], [some ⟨[.sc, .sc], (List.map rS__2_int x0_0)⟩], []⟩
def K_impl_rowsSize_0 : List Fr := []
def s_impl_rowsSize_0 (p0 : Int) (p1 : Int) (p2 : Int) (p3 : Int) (p4 : Bool) : St :=
  ⟨mkSl 36 [(0, .v false [.lit (.int .i64 p0)]), (1, .v false [.lit (.int .i64 p1)]), (2, .v false [.lit (.int .i64 p2)]), (3, .v false [.lit (.int .i64 p3)]), (4, .v false [.lit (.bool p4)])], [], []⟩
def K_impl_GoodStill_43 : List Fr := []
def s_impl_GoodStill_43 (p0 : S_Still) : St :=
  ⟨mkSl 76 [(1, .v false [.vptr 0 0]), (3, .v false [.vptr 1 0])], [], [some [.lit (.int .i64 p0.image.width), .lit (.int .i64 p0.image.height), .lit (.int .i64 p0.image.planes), .lit (.int .i64 p0.image.depth), .ro [.sc] (p0.image.samples.map (rI .i64)), .ro [.sc] (p0.palette.map (rI .i64)), .ro [.sc, .sc] (p0.notes.map rS_Note), .lit (.bool p0.woven)], some [.lit (.int .i64 p0.image.width), .lit (.int .i64 p0.image.height), .lit (.int .i64 p0.image.planes), .lit (.int .i64 p0.image.depth), .ro [.sc] (p0.image.samples.map (rI .i64))]]⟩
def K_impl_GoodStill_25 : List Fr := [.lp [1, 3, 54, 55, 56] c_impl_GoodStill_25, .bk 0, .sq (.kp [1, 3] c_impl_GoodStill_43)]
def s_impl_GoodStill_25 (p0 : S_Still) (i25_0 : Int) : St :=
  ⟨mkSl 76 [(1, .v false [.vptr 0 0]), (3, .v false [.vptr 1 0]), (54, .v false [.ro [.sc, .sc] (p0.notes.map rS_Note)]), (55, .v false [.lit (.int .i64 (p0.notes.length : Int))]), (56, .v false [.lit (.int .i64 i25_0)])], [], [some [.lit (.int .i64 p0.image.width), .lit (.int .i64 p0.image.height), .lit (.int .i64 p0.image.planes), .lit (.int .i64 p0.image.depth), .ro [.sc] (p0.image.samples.map (rI .i64)), .ro [.sc] (p0.palette.map (rI .i64)), .ro [.sc, .sc] (p0.notes.map rS_Note), .lit (.bool p0.woven)], some [.lit (.int .i64 p0.image.width), .lit (.int .i64 p0.image.height), .lit (.int .i64 p0.image.planes), .lit (.int .i64 p0.image.depth), .ro [.sc] (p0.image.samples.map (rI .i64))]]⟩
def K_impl_GoodStill_20 : List Fr := []
def s_impl_GoodStill_20 (p0 : S_Still) : St :=
  ⟨mkSl 76 [(1, .v false [.vptr 0 0]), (3, .v false [.vptr 1 0])], [], [some [.lit (.int .i64 p0.image.width), .lit (.int .i64 p0.image.height), .lit (.int .i64 p0.image.planes), .lit (.int .i64 p0.image.depth), .ro [.sc] (p0.image.samples.map (rI .i64)), .ro [.sc] (p0.palette.map (rI .i64)), .ro [.sc, .sc] (p0.notes.map rS_Note), .lit (.bool p0.woven)], some [.lit (.int .i64 p0.image.width), .lit (.int .i64 p0.image.height), .lit (.int .i64 p0.image.planes), .lit (.int .i64 p0.image.depth), .ro [.sc] (p0.image.samples.map (rI .i64))]]⟩
def K_impl_GoodStill_0 : List Fr := []
def s_impl_GoodStill_0 (p0 : S_Still) : St :=
  ⟨mkSl 76 [(0, .v true [.lit (.int .i64 p0.image.width), .lit (.int .i64 p0.image.height), .lit (.int .i64 p0.image.planes), .lit (.int .i64 p0.image.depth), .ro [.sc] (p0.image.samples.map (rI .i64)), .ro [.sc] (p0.palette.map (rI .i64)), .ro [.sc, .sc] (p0.notes.map rS_Note), .lit (.bool p0.woven)])], [], []⟩
def K_impl_Colours_43 : List Fr := []
def s_impl_Colours_43 (p0 : S_Still) (l43_0 : (List Int)) : St :=
  ⟨mkSl 54 [(2, .v false [.vptr 0 0]), (4, .v false [.vptr 1 0])], [some ⟨[.sc], (List.map (rI .i64) ([] : List Int))⟩, some ⟨[.sc], (List.map (rI .i64) l43_0)⟩], [some [.lit (.int .i64 0), .lit (.int .i64 0), .lit (.int .i64 0), .lit (.int .i64 0), .ref 0 [] 0 (([] : List Int).length)], some [.lit (.int .i64 p0.image.width), .lit (.int .i64 p0.image.height), .lit (.int .i64 3), .lit (.int .i64 8), .ref 1 [] 0 l43_0.length]]⟩
def K_impl_Colours_29 : List Fr := [.lp [1, 2, 4, 29, 30, 31] c_impl_Colours_29, .bk 0, .sq (.kp [2, 4] c_impl_Colours_43)]
def s_impl_Colours_29 (p0 : S_Still) (i29_0 : Int) (l29_1 : (List Int)) : St :=
  ⟨mkSl 54 [(1, .v false [.vptr 0 0]), (2, .v false [.vptr 1 0]), (4, .v false [.vptr 2 0]), (29, .v false [.ro [.sc] (p0.image.samples.map (rI .i64))]), (30, .v false [.lit (.int .i64 (p0.image.samples.length : Int))]), (31, .v false [.lit (.int .i64 i29_0)])], [some ⟨[.sc], (List.map (rI .i64) ([] : List Int))⟩, some ⟨[.sc], (List.map (rI .i64) l29_1)⟩], [some [.lit (.int .i64 p0.image.width), .lit (.int .i64 p0.image.height), .lit (.int .i64 p0.image.planes), .lit (.int .i64 p0.image.depth), .ro [.sc] (p0.image.samples.map (rI .i64)), .ro [.sc] (p0.palette.map (rI .i64)), .ro [.sc, .sc] (p0.notes.map rS_Note), .lit (.bool p0.woven)], some [.lit (.int .i64 0), .lit (.int .i64 0), .lit (.int .i64 0), .lit (.int .i64 0), .ref 0 [] 0 (([] : List Int).length)], some [.lit (.int .i64 p0.image.width), .lit (.int .i64 p0.image.height), .lit (.int .i64 3), .lit (.int .i64 8), .ref 1 [] 0 l29_1.length]]⟩
def K_impl_Colours_0 : List Fr := []
def s_impl_Colours_0 (p0 : S_Still) : St :=
  ⟨mkSl 54 [(0, .v true [.lit (.int .i64 p0.image.width), .lit (.int .i64 p0.image.height), .lit (.int .i64 p0.image.planes), .lit (.int .i64 p0.image.depth), .ro [.sc] (p0.image.samples.map (rI .i64)), .ro [.sc] (p0.palette.map (rI .i64)), .ro [.sc, .sc] (p0.notes.map rS_Note), .lit (.bool p0.woven)])], [], []⟩
def K_laws_eqIntS_31 : List Fr := []
def s_laws_eqIntS_31 : St :=
  ⟨mkSl 26 [], [], []⟩
def K_laws_eqIntS_15 : List Fr := [.lp [0, 1, 5] c_laws_eqIntS_15, .bk 0, .sq (.kp [] c_laws_eqIntS_31)]
def s_laws_eqIntS_15 (p0 : (List Int)) (p1 : (List Int)) (i15_0 : Int) : St :=
  ⟨mkSl 26 [(0, .v false [.ro [.sc] (p0.map (rI .i64))]), (1, .v false [.ro [.sc] (p1.map (rI .i64))]), (5, .v false [.lit (.int .i64 i15_0)])], [], []⟩
def K_laws_eqIntS_0 : List Fr := []
def s_laws_eqIntS_0 (p0 : (List Int)) (p1 : (List Int)) : St :=
  ⟨mkSl 26 [(0, .v false [.ro [.sc] (p0.map (rI .i64))]), (1, .v false [.ro [.sc] (p1.map (rI .i64))])], [], []⟩
def K_laws_eqImage_0 : List Fr := []
def s_laws_eqImage_0 (p0 : S_Image) (p1 : S_Image) : St :=
  ⟨mkSl 31 [(0, .v true [.lit (.int .i64 p0.width), .lit (.int .i64 p0.height), .lit (.int .i64 p0.planes), .lit (.int .i64 p0.depth), .ro [.sc] (p0.samples.map (rI .i64))]), (1, .v true [.lit (.int .i64 p1.width), .lit (.int .i64 p1.height), .lit (.int .i64 p1.planes), .lit (.int .i64 p1.depth), .ro [.sc] (p1.samples.map (rI .i64))])], [], []⟩
def K_laws_eqNote_0 : List Fr := []
def s_laws_eqNote_0 (p0 : S_Note) (p1 : S_Note) : St :=
  ⟨mkSl 15 [(0, .v true [.lit (.string p0.key), .lit (.string p0.value)]), (1, .v true [.lit (.string p1.key), .lit (.string p1.value)])], [], []⟩
def K_laws_eqNoteS_31 : List Fr := []
def s_laws_eqNoteS_31 : St :=
  ⟨mkSl 27 [], [], []⟩
def K_laws_eqNoteS_15 : List Fr := [.lp [0, 1, 5] c_laws_eqNoteS_15, .bk 0, .sq (.kp [] c_laws_eqNoteS_31)]
def s_laws_eqNoteS_15 (p0 : (List S_Note)) (p1 : (List S_Note)) (i15_0 : Int) : St :=
  ⟨mkSl 27 [(0, .v false [.ro [.sc, .sc] (p0.map rS_Note)]), (1, .v false [.ro [.sc, .sc] (p1.map rS_Note)]), (5, .v false [.lit (.int .i64 i15_0)])], [], []⟩
def K_laws_eqNoteS_0 : List Fr := []
def s_laws_eqNoteS_0 (p0 : (List S_Note)) (p1 : (List S_Note)) : St :=
  ⟨mkSl 27 [(0, .v false [.ro [.sc, .sc] (p0.map rS_Note)]), (1, .v false [.ro [.sc, .sc] (p1.map rS_Note)])], [], []⟩
def K_laws_eqStill_0 : List Fr := []
def s_laws_eqStill_0 (p0 : S_Still) (p1 : S_Still) : St :=
  ⟨mkSl 28 [(0, .v true [.lit (.int .i64 p0.image.width), .lit (.int .i64 p0.image.height), .lit (.int .i64 p0.image.planes), .lit (.int .i64 p0.image.depth), .ro [.sc] (p0.image.samples.map (rI .i64)), .ro [.sc] (p0.palette.map (rI .i64)), .ro [.sc, .sc] (p0.notes.map rS_Note), .lit (.bool p0.woven)]), (1, .v true [.lit (.int .i64 p1.image.width), .lit (.int .i64 p1.image.height), .lit (.int .i64 p1.image.planes), .lit (.int .i64 p1.image.depth), .ro [.sc] (p1.image.samples.map (rI .i64)), .ro [.sc] (p1.palette.map (rI .i64)), .ro [.sc, .sc] (p1.notes.map rS_Note), .lit (.bool p1.woven)])], [], []⟩
def K_laws_markIntS_19 : List Fr := []
def s_laws_markIntS_19 (i19_0 : Int) (l19_1 : (List Int)) : St :=
  ⟨mkSl 19 [(0, .v false [.ref 0 [] 0 l19_1.length]), (1, .v false [.lit (.int .i64 i19_0)])], [some ⟨[.sc], (List.map (rI .i64) l19_1)⟩], []⟩
def K_laws_markIntS_7 : List Fr := [.lp [0, 1, 5] c_laws_markIntS_7, .bk 0, .sq (.kp [0, 1] c_laws_markIntS_19)]
def s_laws_markIntS_7 (i7_0 : Int) (i7_1 : Int) (l7_2 : (List Int)) : St :=
  ⟨mkSl 19 [(0, .v false [.ref 0 [] 0 l7_2.length]), (1, .v false [.lit (.int .i64 i7_0)]), (5, .v false [.lit (.int .i64 i7_1)])], [some ⟨[.sc], (List.map (rI .i64) l7_2)⟩], []⟩
def K_laws_markIntS_0 : List Fr := []
def s_laws_markIntS_0 (p1 : Int) (p0 : (List Int)) : St :=
  ⟨mkSl 19 [(0, .v false [.ref 0 [] 0 p0.length]), (1, .v false [.lit (.int .i64 p1)])], [some ⟨[.sc], (List.map (rI .i64) p0)⟩], []⟩
def K_laws_markImage_0 : List Fr := []
def s_laws_markImage_0 (p0 : S_Image) (p1 : Int) : St :=
  ⟨mkSl 10 [(0, .v true [.lit (.int .i64 p0.width), .lit (.int .i64 p0.height), .lit (.int .i64 p0.planes), .lit (.int .i64 p0.depth), .ref 0 [] 0 p0.samples.length]), (1, .v false [.lit (.int .i64 p1)])], [some ⟨[.sc], (List.map (rI .i64) p0.samples)⟩], []⟩
def K_laws_markText_25 : List Fr := []
def s_laws_markText_25 (l25_0 : ByteArray) : St :=
  ⟨mkSl 20 [(3, .v false [.lit (.string l25_0)])], [], []⟩
def K_laws_markText_15 : List Fr := [.lp [0, 3] c_laws_markText_15, .bk 0, .sq (.kp [3] c_laws_markText_25)]
def s_laws_markText_15 (i15_0 : Int) (l15_1 : ByteArray) : St :=
  ⟨mkSl 20 [(0, .v false [.lit (.int .i64 i15_0)]), (3, .v false [.lit (.string l15_1)])], [], []⟩
def K_laws_markText_0 : List Fr := []
def s_laws_markText_0 (p0 : Int) : St :=
  ⟨mkSl 20 [(0, .v false [.lit (.int .i64 p0)])], [], []⟩
def K_laws_markNoteS_23 : List Fr := []
def s_laws_markNoteS_23 (i23_0 : Int) (l23_1 : (List S_Note)) : St :=
  ⟨mkSl 29 [(0, .v false [.ref 0 [] 0 l23_1.length]), (1, .v false [.lit (.int .i64 i23_0)])], [some ⟨[.sc, .sc], (List.map rS_Note l23_1)⟩], []⟩
def K_laws_markNoteS_7 : List Fr := [.lp [0, 1, 5] c_laws_markNoteS_7, .bk 0, .sq (.kp [0, 1] c_laws_markNoteS_23)]
def s_laws_markNoteS_7 (i7_0 : Int) (i7_1 : Int) (l7_2 : (List S_Note)) : St :=
  ⟨mkSl 29 [(0, .v false [.ref 0 [] 0 l7_2.length]), (1, .v false [.lit (.int .i64 i7_0)]), (5, .v false [.lit (.int .i64 i7_1)])], [some ⟨[.sc, .sc], (List.map rS_Note l7_2)⟩], []⟩
def K_laws_markNoteS_0 : List Fr := []
def s_laws_markNoteS_0 (p1 : Int) (p0 : (List S_Note)) : St :=
  ⟨mkSl 29 [(0, .v false [.ref 0 [] 0 p0.length]), (1, .v false [.lit (.int .i64 p1)])], [some ⟨[.sc, .sc], (List.map rS_Note p0)⟩], []⟩
def K_laws_markStill_0 : List Fr := []
def s_laws_markStill_0 (p0 : S_Still) (p1 : Int) : St :=
  ⟨mkSl 18 [(0, .v true [.lit (.int .i64 p0.image.width), .lit (.int .i64 p0.image.height), .lit (.int .i64 p0.image.planes), .lit (.int .i64 p0.image.depth), .ref 0 [] 0 p0.image.samples.length, .ref 1 [] 0 p0.palette.length, .ref 2 [] 0 p0.notes.length, .lit (.bool p0.woven)]), (1, .v false [.lit (.int .i64 p1)])], [some ⟨[.sc], (List.map (rI .i64) p0.image.samples)⟩, some ⟨[.sc], (List.map (rI .i64) p0.palette)⟩, some ⟨[.sc, .sc], (List.map rS_Note p0.notes)⟩], []⟩
def K_laws_heldIntS_25 : List Fr := []
def s_laws_heldIntS_25 (i25_0 : Int) : St :=
  ⟨mkSl 21 [(1, .v false [.lit (.int .i64 i25_0)])], [], []⟩
def K_laws_heldIntS_7 : List Fr := [.lp [0, 1, 5] c_laws_heldIntS_7, .bk 0, .sq (.kp [1] c_laws_heldIntS_25)]
def s_laws_heldIntS_7 (p0 : (List Int)) (i7_0 : Int) (i7_1 : Int) : St :=
  ⟨mkSl 21 [(0, .v false [.ro [.sc] (p0.map (rI .i64))]), (1, .v false [.lit (.int .i64 i7_0)]), (5, .v false [.lit (.int .i64 i7_1)])], [], []⟩
def K_laws_heldIntS_0 : List Fr := []
def s_laws_heldIntS_0 (p0 : (List Int)) (p1 : Int) : St :=
  ⟨mkSl 21 [(0, .v false [.ro [.sc] (p0.map (rI .i64))]), (1, .v false [.lit (.int .i64 p1)])], [], []⟩
def K_laws_heldImage_0 : List Fr := []
def s_laws_heldImage_0 (p0 : S_Image) (p1 : Int) : St :=
  ⟨mkSl 12 [(0, .v true [.lit (.int .i64 p0.width), .lit (.int .i64 p0.height), .lit (.int .i64 p0.planes), .lit (.int .i64 p0.depth), .ro [.sc] (p0.samples.map (rI .i64))]), (1, .v false [.lit (.int .i64 p1)])], [], []⟩
def K_laws_FnExactColours_0 : List Fr := []
def s_laws_FnExactColours_0 (p0 : S_Still) : St :=
  ⟨mkSl 69 [(0, .v true [.lit (.int .i64 p0.image.width), .lit (.int .i64 p0.image.height), .lit (.int .i64 p0.image.planes), .lit (.int .i64 p0.image.depth), .ro [.sc] (p0.image.samples.map (rI .i64)), .ro [.sc] (p0.palette.map (rI .i64)), .ro [.sc, .sc] (p0.notes.map rS_Note), .lit (.bool p0.woven)])], [], []⟩
theorem ok_laws_szIntS_0 (p0 : (List Int)) (p1 : Int) (r : Int) (hm : m_laws_szIntS_0 p0 p1 = some r) : EvU ext tbl (.c c_laws_szIntS_0) K_laws_szIntS_0 (s_laws_szIntS_0 p0 p1) (Post vf_laws_szIntS (res_laws_szIntS r)) := by
  obtain ⟨h0_0, hm⟩ | ⟨h0_0, hm⟩ := split_ite hm
  · skip
    exact go_end [.num p0.length, .bit true] 1000 (And.intro (len_map (rI .i64) (show p0.length = p0.length from rfl)) (And.intro h0_0 True.intro)) (congrArg res_laws_szIntS (Option.some.inj hm)) (by kernel_rfl)
  · skip
    exact go_end [.num p0.length, .bit false] 1000 (And.intro (len_map (rI .i64) (show p0.length = p0.length from rfl)) (And.intro h0_0 True.intro)) (congrArg res_laws_szIntS (Option.some.inj hm)) (by kernel_rfl)

theorem ok_laws_szIntS (p0 : (List Int)) (p1 : Int) (r : Int) (hm : m_laws_szIntS p0 p1 = some r) : Runs ext tbl 95 (as_laws_szIntS p0 p1) (res_laws_szIntS r) :=
  runs_of (vf := vf_laws_szIntS) (by kernel_rfl) rfl (st := (enter vf_laws_szIntS (as_laws_szIntS p0 p1)).getD default) (by kernel_rfl) (go_on [] 1000 True.intro (ok_laws_szIntS_0 p0 p1 r hm) (by kernel_rfl))
theorem ok_laws_szImage_0 (p0 : S_Image) (p1 : Int) (r : Int) (hm : m_laws_szImage_0 p0 p1 = some r) : EvU ext tbl (.c c_laws_szImage_0) K_laws_szImage_0 (s_laws_szImage_0 p0 p1) (Post vf_laws_szImage (res_laws_szImage r)) := by
  obtain ⟨x0_0, h0_0, hm⟩ := bind_some hm
  obtain ⟨h0_1, hm⟩ | ⟨h0_1, hm⟩ := split_ite hm
  · skip
    exact go_end [.res (res_laws_szIntS x0_0), .bit true] 1000 (And.intro (ok_laws_szIntS p0.samples p1 x0_0 h0_0) (And.intro h0_1 True.intro)) (congrArg res_laws_szImage (Option.some.inj hm)) (by kernel_rfl)
  · skip
    exact go_end [.res (res_laws_szIntS x0_0), .bit false] 1000 (And.intro (ok_laws_szIntS p0.samples p1 x0_0 h0_0) (And.intro h0_1 True.intro)) (congrArg res_laws_szImage (Option.some.inj hm)) (by kernel_rfl)

theorem ok_laws_szImage (p0 : S_Image) (p1 : Int) (r : Int) (hm : m_laws_szImage p0 p1 = some r) : Runs ext tbl 94 (as_laws_szImage p0 p1) (res_laws_szImage r) :=
  runs_of (vf := vf_laws_szImage) (by kernel_rfl) rfl (st := (enter vf_laws_szImage (as_laws_szImage p0 p1)).getD default) (by kernel_rfl) (go_on [] 1000 True.intro (ok_laws_szImage_0 p0 p1 r hm) (by kernel_rfl))
theorem ok_laws_szNote_0 (p0 : S_Note) (p1 : Int) (r : Int) (hm : m_laws_szNote_0 p0 p1 = some r) : EvU ext tbl (.c c_laws_szNote_0) K_laws_szNote_0 (s_laws_szNote_0 p0 p1) (Post vf_laws_szNote (res_laws_szNote r)) := by
  obtain ⟨h0_0, hm⟩ | ⟨h0_0, hm⟩ := split_ite hm
  · skip
    exact go_end [.bit true] 1000 (And.intro h0_0 True.intro) (congrArg res_laws_szNote (Option.some.inj hm)) (by kernel_rfl)
  · skip
    obtain ⟨h0_1, hm⟩ | ⟨h0_1, hm⟩ := split_ite hm
    · skip
      exact go_end [.bit false, .bit true] 1000 (And.intro h0_0 (And.intro h0_1 True.intro)) (congrArg res_laws_szNote (Option.some.inj hm)) (by kernel_rfl)
    · skip
      exact go_end [.bit false, .bit false] 1000 (And.intro h0_0 (And.intro h0_1 True.intro)) (congrArg res_laws_szNote (Option.some.inj hm)) (by kernel_rfl)

theorem ok_laws_szNote (p0 : S_Note) (p1 : Int) (r : Int) (hm : m_laws_szNote p0 p1 = some r) : Runs ext tbl 162 (as_laws_szNote p0 p1) (res_laws_szNote r) :=
  runs_of (vf := vf_laws_szNote) (by kernel_rfl) rfl (st := (enter vf_laws_szNote (as_laws_szNote p0 p1)).getD default) (by kernel_rfl) (go_on [] 1000 True.intro (ok_laws_szNote_0 p0 p1 r hm) (by kernel_rfl))
def O_laws_szNoteS_17 (Q : VX → St → Prop) (e : (Int) ⊕ ((Int))) : Prop := match e with | .inl e => Q = Post vf_laws_szNoteS (res_laws_szNoteS e) | .inr e => EvU ext tbl (.c c_laws_szNoteS_35) K_laws_szNoteS_35 (s_laws_szNoteS_35 e) Q
theorem ok_laws_szNoteS_35 (i35_0 : Int) (r : Int) (hm : m_laws_szNoteS_35 i35_0 = some r) : EvU ext tbl (.c c_laws_szNoteS_35) K_laws_szNoteS_35 (s_laws_szNoteS_35 i35_0) (Post vf_laws_szNoteS (res_laws_szNoteS r)) := by
  exact go_end [] 1000 True.intro (congrArg res_laws_szNoteS (Option.some.inj hm)) (by kernel_rfl)

theorem ok_laws_szNoteS_17 (p0 : (List S_Note)) (i17_0 : Int) (i17_1 : Int) (y : (Int × Int) ⊕ ((Int) ⊕ ((Int)))) (hm : m_laws_szNoteS_17 p0 i17_0 i17_1 = some y) (Q : VX → St → Prop)
    (hin : ∀ s, y = .inl s → EvU ext tbl (.c c_laws_szNoteS_17) K_laws_szNoteS_17 (s_laws_szNoteS_17 p0 s.1 s.2) Q) (hout : ∀ e, y = .inr e → O_laws_szNoteS_17 Q e) : EvU ext tbl (.c c_laws_szNoteS_17) K_laws_szNoteS_17 (s_laws_szNoteS_17 p0 i17_0 i17_1) Q := by
  obtain ⟨h17_0, hm⟩ | ⟨h17_0, hm⟩ := split_ite hm
  · skip
    obtain ⟨x17_1, h17_1, hm⟩ := bind_some hm
    obtain ⟨x17_2, h17_2, hm⟩ := bind_some hm
    obtain ⟨h17_3, hm⟩ | ⟨h17_3, hm⟩ := split_ite hm
    · skip
      have hQ : Q = Post vf_laws_szNoteS (res_laws_szNoteS (-1)) := hout (.inl (-1)) (Option.some.inj hm).symm
      subst hQ
      exact go_end [.num p0.length, .bit true, .row (rS_Note x17_1), .res (res_laws_szNote x17_2), .bit true] 1000 (And.intro (len_map rS_Note (show p0.length = p0.length from rfl)) (And.intro h17_0 (And.intro (rd_nn h17_1) (And.intro (at_row rS_Note (rd_get h17_1)) (And.intro (ok_laws_szNote x17_1 i17_0 x17_2 h17_2) (And.intro h17_3 True.intro)))))) (rfl : res_laws_szNoteS (-1) = res_laws_szNoteS (-1)) (by kernel_rfl)
    · skip
      refine go_on (u' := .c c_laws_szNoteS_17) (K' := K_laws_szNoteS_17) (st' := s_laws_szNoteS_17 p0 x17_2 (w64 (i17_1 + 1))) [.num p0.length, .bit true, .row (rS_Note x17_1), .res (res_laws_szNote x17_2), .bit false] 1000 (And.intro (len_map rS_Note (show p0.length = p0.length from rfl)) (And.intro h17_0 (And.intro (rd_nn h17_1) (And.intro (at_row rS_Note (rd_get h17_1)) (And.intro (ok_laws_szNote x17_1 i17_0 x17_2 h17_2) (And.intro h17_3 True.intro)))))) ?_ (by kernel_rfl)
      exact hin (x17_2, (w64 (i17_1 + 1))) (Option.some.inj hm).symm
  · skip
    refine go_on (u' := .c c_laws_szNoteS_35) (K' := K_laws_szNoteS_35) (st' := s_laws_szNoteS_35 i17_0) [.num p0.length, .bit false] 1000 (And.intro (len_map rS_Note (show p0.length = p0.length from rfl)) (And.intro h17_0 True.intro)) ?_ (by kernel_rfl)
    exact hout (.inr i17_0) (Option.some.inj hm).symm

theorem ok_laws_szNoteS_0 (p0 : (List S_Note)) (p1 : Int) (r : Int) (hm : m_laws_szNoteS_0 p0 p1 = some r) : EvU ext tbl (.c c_laws_szNoteS_0) K_laws_szNoteS_0 (s_laws_szNoteS_0 p0 p1) (Post vf_laws_szNoteS (res_laws_szNoteS r)) := by
  obtain ⟨h0_0, hm⟩ | ⟨h0_0, hm⟩ := split_ite hm
  · skip
    exact go_end [.num p0.length, .bit true] 1000 (And.intro (len_map rS_Note (show p0.length = p0.length from rfl)) (And.intro h0_0 True.intro)) (congrArg res_laws_szNoteS (Option.some.inj hm)) (by kernel_rfl)
  · skip
    refine go_on (u' := .c c_laws_szNoteS_17) (K' := K_laws_szNoteS_17) (st' := s_laws_szNoteS_17 p0 (w64 (p1 - (p0.length : Int))) 0) [.num p0.length, .bit false] 1000 (And.intro (len_map rS_Note (show p0.length = p0.length from rfl)) (And.intro h0_0 True.intro)) ?_ (by kernel_rfl)
    obtain ⟨e, he, hm⟩ := bind_some hm
    refine loop_rule (u := .c c_laws_szNoteS_17) (K := K_laws_szNoteS_17) (Q := (Post vf_laws_szNoteS (res_laws_szNoteS r))) (b := lp_laws_szNoteS_17 p0) (We := O_laws_szNoteS_17 (Post vf_laws_szNoteS (res_laws_szNoteS r))) (stJ := fun s => s_laws_szNoteS_17 p0 s.1 s.2) (s := ((w64 (p1 - (p0.length : Int))), 0)) (fun s y hb hin hout => ok_laws_szNoteS_17 p0 s.1 s.2 y hb (Post vf_laws_szNoteS (res_laws_szNoteS r)) hin hout) he ?_
    rcases e with e | e
    · skip
      exact congrArg (fun r => Post vf_laws_szNoteS (res_laws_szNoteS r)) (Option.some.inj hm).symm
    · skip
      show EvU ext tbl (.c c_laws_szNoteS_35) K_laws_szNoteS_35 (s_laws_szNoteS_35 e) _
      exact ok_laws_szNoteS_35 e r hm

theorem ok_laws_szNoteS (p0 : (List S_Note)) (p1 : Int) (r : Int) (hm : m_laws_szNoteS p0 p1 = some r) : Runs ext tbl 96 (as_laws_szNoteS p0 p1) (res_laws_szNoteS r) :=
  runs_of (vf := vf_laws_szNoteS) (by kernel_rfl) rfl (st := (enter vf_laws_szNoteS (as_laws_szNoteS p0 p1)).getD default) (by kernel_rfl) (go_on [] 1000 True.intro (ok_laws_szNoteS_0 p0 p1 r hm) (by kernel_rfl))
theorem ok_laws_szStill_0 (p0 : S_Still) (p1 : Int) (r : Int) (hm : m_laws_szStill_0 p0 p1 = some r) : EvU ext tbl (.c c_laws_szStill_0) K_laws_szStill_0 (s_laws_szStill_0 p0 p1) (Post vf_laws_szStill (res_laws_szStill r)) := by
  obtain ⟨x0_0, h0_0, hm⟩ := bind_some hm
  obtain ⟨h0_1, hm⟩ | ⟨h0_1, hm⟩ := split_ite hm
  · skip
    exact go_end [.res (res_laws_szImage x0_0), .bit true] 1000 (And.intro (ok_laws_szImage p0.image p1 x0_0 h0_0) (And.intro h0_1 True.intro)) (congrArg res_laws_szStill (Option.some.inj hm)) (by kernel_rfl)
  · skip
    obtain ⟨x0_2, h0_2, hm⟩ := bind_some hm
    obtain ⟨h0_3, hm⟩ | ⟨h0_3, hm⟩ := split_ite hm
    · skip
      exact go_end [.res (res_laws_szImage x0_0), .bit false, .res (res_laws_szIntS x0_2), .bit true] 1000 (And.intro (ok_laws_szImage p0.image p1 x0_0 h0_0) (And.intro h0_1 (And.intro (ok_laws_szIntS p0.palette x0_0 x0_2 h0_2) (And.intro h0_3 True.intro)))) (congrArg res_laws_szStill (Option.some.inj hm)) (by kernel_rfl)
    · skip
      obtain ⟨x0_4, h0_4, hm⟩ := bind_some hm
      obtain ⟨h0_5, hm⟩ | ⟨h0_5, hm⟩ := split_ite hm
      · skip
        exact go_end [.res (res_laws_szImage x0_0), .bit false, .res (res_laws_szIntS x0_2), .bit false, .res (res_laws_szNoteS x0_4), .bit true] 1000 (And.intro (ok_laws_szImage p0.image p1 x0_0 h0_0) (And.intro h0_1 (And.intro (ok_laws_szIntS p0.palette x0_0 x0_2 h0_2) (And.intro h0_3 (And.intro (ok_laws_szNoteS p0.notes x0_2 x0_4 h0_4) (And.intro h0_5 True.intro)))))) (congrArg res_laws_szStill (Option.some.inj hm)) (by kernel_rfl)
      · skip
        exact go_end [.res (res_laws_szImage x0_0), .bit false, .res (res_laws_szIntS x0_2), .bit false, .res (res_laws_szNoteS x0_4), .bit false] 1000 (And.intro (ok_laws_szImage p0.image p1 x0_0 h0_0) (And.intro h0_1 (And.intro (ok_laws_szIntS p0.palette x0_0 x0_2 h0_2) (And.intro h0_3 (And.intro (ok_laws_szNoteS p0.notes x0_2 x0_4 h0_4) (And.intro h0_5 True.intro)))))) (congrArg res_laws_szStill (Option.some.inj hm)) (by kernel_rfl)

theorem ok_laws_szStill (p0 : S_Still) (p1 : Int) (r : Int) (hm : m_laws_szStill p0 p1 = some r) : Runs ext tbl 25 (as_laws_szStill p0 p1) (res_laws_szStill r) :=
  runs_of (vf := vf_laws_szStill) (by kernel_rfl) rfl (st := (enter vf_laws_szStill (as_laws_szStill p0 p1)).getD default) (by kernel_rfl) (go_on [] 1000 True.intro (ok_laws_szStill_0 p0 p1 r hm) (by kernel_rfl))
def O_laws_toIntS_9 (Q : VX → St → Prop) (e : ((List Int))) : Prop := EvU ext tbl (.c c_laws_toIntS_19) K_laws_toIntS_19 (s_laws_toIntS_19 e) Q
theorem ok_laws_toIntS_19 (l19_0 : (List Int)) (r : (List Int)) (hm : m_laws_toIntS_19 l19_0 = some r) : EvU ext tbl (.c c_laws_toIntS_19) K_laws_toIntS_19 (s_laws_toIntS_19 l19_0) (Post vf_laws_toIntS (res_laws_toIntS r)) := by
  exact go_end [.rows (List.map (rI .i64) l19_0)] 1000 (And.intro (all_le0 (rI .i64) l19_0 rfl) (And.intro (all_t (rI .i64) l19_0 rfl) True.intro)) (congrArg res_laws_toIntS (Option.some.inj hm)) (by kernel_rfl)

theorem ok_laws_toIntS_9 (p0 : (List Int)) (i9_0 : Int) (l9_1 : (List Int)) (y : (Int × (List Int)) ⊕ (((List Int)))) (hm : m_laws_toIntS_9 p0 i9_0 l9_1 = some y) (Q : VX → St → Prop)
    (hin : ∀ s, y = .inl s → EvU ext tbl (.c c_laws_toIntS_9) K_laws_toIntS_9 (s_laws_toIntS_9 p0 s.1 s.2) Q) (hout : ∀ e, y = .inr e → O_laws_toIntS_9 Q e) : EvU ext tbl (.c c_laws_toIntS_9) K_laws_toIntS_9 (s_laws_toIntS_9 p0 i9_0 l9_1) Q := by
  obtain ⟨h9_0, hm⟩ | ⟨h9_0, hm⟩ := split_ite hm
  · skip
    obtain ⟨x9_1, h9_1, hm⟩ := bind_some hm
    obtain ⟨x9_2, h9_2, hm⟩ := bind_some hm
    refine go_on (u' := .c c_laws_toIntS_9) (K' := K_laws_toIntS_9) (st' := s_laws_toIntS_9 p0 (w64 (i9_0 + 1)) (l9_1.set (0 + Int.toNat i9_0) x9_1)) [.num p0.length, .bit true, .row ((rI .i64) x9_1), .rows (List.map (rI .i64) (l9_1.set (0 + Int.toNat i9_0) x9_1)), .num ((l9_1.set (0 + Int.toNat i9_0) x9_1).length)] 1000 (And.intro (len_map (rI .i64) (show p0.length = p0.length from rfl)) (And.intro h9_0 (And.intro (rd_nn h9_1) (And.intro (at_row (rI .i64) (rd_get h9_1)) (And.intro (rd_in rfl h9_2) (And.intro (put_ob (rI .i64) x9_1 0 (.lit (.int .i64 x9_1)) (rd_get0 h9_2) (by kernel_rfl) (by kernel_rfl)) (And.intro (lens l9_1.length ((l9_1.set (0 + Int.toNat i9_0) x9_1).length) (set_len rfl)) True.intro))))))) ?_ (by kernel_rfl)
    exact hin ((w64 (i9_0 + 1)), (l9_1.set (0 + Int.toNat i9_0) x9_1)) (Option.some.inj hm).symm
  · skip
    refine go_on (u' := .c c_laws_toIntS_19) (K' := K_laws_toIntS_19) (st' := s_laws_toIntS_19 l9_1) [.num p0.length, .bit false, .num l9_1.length] 1000 (And.intro (len_map (rI .i64) (show p0.length = p0.length from rfl)) (And.intro h9_0 (And.intro (lens l9_1.length l9_1.length rfl) True.intro))) ?_ (by kernel_rfl)
    exact hout l9_1 (Option.some.inj hm).symm

theorem ok_laws_toIntS_0 (p0 : (List Int)) (r : (List Int)) (hm : m_laws_toIntS_0 p0 = some r) : EvU ext tbl (.c c_laws_toIntS_0) K_laws_toIntS_0 (s_laws_toIntS_0 p0) (Post vf_laws_toIntS (res_laws_toIntS r)) := by
  obtain ⟨x0_0, h0_0, hm⟩ := bind_some hm
  refine go_on (u' := .c c_laws_toIntS_9) (K' := K_laws_toIntS_9) (st' := s_laws_toIntS_9 p0 0 (List.replicate (Int.toNat (p0.length : Int)) (0 : Int))) [.num p0.length, .rows (List.map (rI .i64) (List.replicate (Int.toNat (p0.length : Int)) (0 : Int))), .num (Int.toNat (p0.length : Int)), .num ((List.replicate (Int.toNat (p0.length : Int)) (0 : Int)).length)] 1000 (And.intro (len_map (rI .i64) (show p0.length = p0.length from rfl)) (And.intro (ck_p h0_0) (And.intro (rep_ob (rI .i64) (Int.toNat (p0.length : Int)) (0 : Int) [.lit (.int .i64 0)] (by kernel_rfl)) (And.intro (len_map (rI .i64) (show (Int.toNat (p0.length : Int)) = (List.replicate (Int.toNat (p0.length : Int)) (0 : Int)).length from (rep_len (Int.toNat (p0.length : Int)) (0 : Int)))) (And.intro (lens (Int.toNat (p0.length : Int)) ((List.replicate (Int.toNat (p0.length : Int)) (0 : Int)).length) (rep_len (Int.toNat (p0.length : Int)) (0 : Int))) True.intro))))) ?_ (by kernel_rfl)
  obtain ⟨e, he, hm⟩ := bind_some hm
  refine loop_rule (u := .c c_laws_toIntS_9) (K := K_laws_toIntS_9) (Q := (Post vf_laws_toIntS (res_laws_toIntS r))) (b := lp_laws_toIntS_9 p0) (We := O_laws_toIntS_9 (Post vf_laws_toIntS (res_laws_toIntS r))) (stJ := fun s => s_laws_toIntS_9 p0 s.1 s.2) (s := (0, (List.replicate (Int.toNat (p0.length : Int)) (0 : Int)))) (fun s y hb hin hout => ok_laws_toIntS_9 p0 s.1 s.2 y hb (Post vf_laws_toIntS (res_laws_toIntS r)) hin hout) he ?_
  show EvU ext tbl (.c c_laws_toIntS_19) K_laws_toIntS_19 (s_laws_toIntS_19 e) _
  exact ok_laws_toIntS_19 e r hm

theorem ok_laws_toIntS (p0 : (List Int)) (r : (List Int)) (hm : m_laws_toIntS p0 = some r) : Runs ext tbl 60 (as_laws_toIntS p0) (res_laws_toIntS r) :=
  runs_of (vf := vf_laws_toIntS) (by kernel_rfl) rfl (st := (enter vf_laws_toIntS (as_laws_toIntS p0)).getD default) (by kernel_rfl) (go_on [] 1000 True.intro (ok_laws_toIntS_0 p0 r hm) (by kernel_rfl))
theorem ok_laws_toImage_0 (p0 : S_Image) (r : S_Image) (hm : m_laws_toImage_0 p0 = some r) : EvU ext tbl (.c c_laws_toImage_0) K_laws_toImage_0 (s_laws_toImage_0 p0) (Post vf_laws_toImage (res_laws_toImage r)) := by
  obtain ⟨x0_0, h0_0, hm⟩ := bind_some hm
  exact go_end [.res (res_laws_toIntS x0_0), .num x0_0.length, .rows (List.map (rI .i64) x0_0)] 1000 (And.intro (ok_laws_toIntS p0.samples x0_0 h0_0) (And.intro (len_map (rI .i64) (show x0_0.length = x0_0.length from rfl)) (And.intro (all_le0 (rI .i64) x0_0 rfl) (And.intro (all_t (rI .i64) x0_0 rfl) True.intro)))) (congrArg res_laws_toImage (Option.some.inj hm)) (by kernel_rfl)

theorem ok_laws_toImage (p0 : S_Image) (r : S_Image) (hm : m_laws_toImage p0 = some r) : Runs ext tbl 101 (as_laws_toImage p0) (res_laws_toImage r) :=
  runs_of (vf := vf_laws_toImage) (by kernel_rfl) rfl (st := (enter vf_laws_toImage (as_laws_toImage p0)).getD default) (by kernel_rfl) (go_on [] 1000 True.intro (ok_laws_toImage_0 p0 r hm) (by kernel_rfl))
theorem ok_laws_toNote_0 (p0 : S_Note) (r : S_Note) (hm : m_laws_toNote_0 p0 = some r) : EvU ext tbl (.c c_laws_toNote_0) K_laws_toNote_0 (s_laws_toNote_0 p0) (Post vf_laws_toNote (res_laws_toNote r)) := by
  exact go_end [] 1000 True.intro (congrArg res_laws_toNote (Option.some.inj hm)) (by kernel_rfl)

theorem ok_laws_toNote (p0 : S_Note) (r : S_Note) (hm : m_laws_toNote p0 = some r) : Runs ext tbl 167 (as_laws_toNote p0) (res_laws_toNote r) :=
  runs_of (vf := vf_laws_toNote) (by kernel_rfl) rfl (st := (enter vf_laws_toNote (as_laws_toNote p0)).getD default) (by kernel_rfl) (go_on [] 1000 True.intro (ok_laws_toNote_0 p0 r hm) (by kernel_rfl))
def O_laws_toNoteS_9 (Q : VX → St → Prop) (e : ((List S_Note))) : Prop := EvU ext tbl (.c c_laws_toNoteS_19) K_laws_toNoteS_19 (s_laws_toNoteS_19 e) Q
theorem ok_laws_toNoteS_19 (l19_0 : (List S_Note)) (r : (List S_Note)) (hm : m_laws_toNoteS_19 l19_0 = some r) : EvU ext tbl (.c c_laws_toNoteS_19) K_laws_toNoteS_19 (s_laws_toNoteS_19 l19_0) (Post vf_laws_toNoteS (res_laws_toNoteS r)) := by
  exact go_end [.rows (List.map rS_Note l19_0)] 1000 (And.intro (all_le0 rS_Note l19_0 rfl) (And.intro (all_t rS_Note l19_0 rfl) True.intro)) (congrArg res_laws_toNoteS (Option.some.inj hm)) (by kernel_rfl)

theorem ok_laws_toNoteS_9 (p0 : (List S_Note)) (i9_0 : Int) (l9_1 : (List S_Note)) (y : (Int × (List S_Note)) ⊕ (((List S_Note)))) (hm : m_laws_toNoteS_9 p0 i9_0 l9_1 = some y) (Q : VX → St → Prop)
    (hin : ∀ s, y = .inl s → EvU ext tbl (.c c_laws_toNoteS_9) K_laws_toNoteS_9 (s_laws_toNoteS_9 p0 s.1 s.2) Q) (hout : ∀ e, y = .inr e → O_laws_toNoteS_9 Q e) : EvU ext tbl (.c c_laws_toNoteS_9) K_laws_toNoteS_9 (s_laws_toNoteS_9 p0 i9_0 l9_1) Q := by
  obtain ⟨h9_0, hm⟩ | ⟨h9_0, hm⟩ := split_ite hm
  · skip
    obtain ⟨x9_1, h9_1, hm⟩ := bind_some hm
    obtain ⟨x9_2, h9_2, hm⟩ := bind_some hm
    obtain ⟨x9_3, h9_3, hm⟩ := bind_some hm
    refine go_on (u' := .c c_laws_toNoteS_9) (K' := K_laws_toNoteS_9) (st' := s_laws_toNoteS_9 p0 (w64 (i9_0 + 1)) (l9_1.set (0 + Int.toNat i9_0) x9_2)) [.num p0.length, .bit true, .row (rS_Note x9_1), .res (res_laws_toNote x9_2), .rows (List.map rS_Note (l9_1.set (0 + Int.toNat i9_0) (S_Note.mk x9_2.key x9_3.value))), .rows (List.map rS_Note (l9_1.set (0 + Int.toNat i9_0) x9_2)), .num ((l9_1.set (0 + Int.toNat i9_0) x9_2).length)] 1000 (And.intro (len_map rS_Note (show p0.length = p0.length from rfl)) (And.intro h9_0 (And.intro (rd_nn h9_1) (And.intro (at_row rS_Note (rd_get h9_1)) (And.intro (ok_laws_toNote x9_1 x9_2 h9_2) (And.intro (rd_in rfl h9_3) (And.intro (put_ob rS_Note (S_Note.mk x9_2.key x9_3.value) 0 (.lit (.string x9_2.key)) (rd_get0 h9_3) (by kernel_rfl) (by kernel_rfl)) (And.intro (put_ob2 rS_Note x9_2 1 (.lit (.string x9_2.value)) (set_at (S_Note.mk x9_2.key x9_3.value) (rd_get0 h9_3)) (by kernel_rfl) (by kernel_rfl)) (And.intro (lens l9_1.length ((l9_1.set (0 + Int.toNat i9_0) x9_2).length) (set_len rfl)) True.intro))))))))) ?_ (by kernel_rfl)
    exact hin ((w64 (i9_0 + 1)), (l9_1.set (0 + Int.toNat i9_0) x9_2)) (Option.some.inj hm).symm
  · skip
    refine go_on (u' := .c c_laws_toNoteS_19) (K' := K_laws_toNoteS_19) (st' := s_laws_toNoteS_19 l9_1) [.num p0.length, .bit false, .num l9_1.length] 1000 (And.intro (len_map rS_Note (show p0.length = p0.length from rfl)) (And.intro h9_0 (And.intro (lens l9_1.length l9_1.length rfl) True.intro))) ?_ (by kernel_rfl)
    exact hout l9_1 (Option.some.inj hm).symm

theorem ok_laws_toNoteS_0 (p0 : (List S_Note)) (r : (List S_Note)) (hm : m_laws_toNoteS_0 p0 = some r) : EvU ext tbl (.c c_laws_toNoteS_0) K_laws_toNoteS_0 (s_laws_toNoteS_0 p0) (Post vf_laws_toNoteS (res_laws_toNoteS r)) := by
  obtain ⟨x0_0, h0_0, hm⟩ := bind_some hm
  refine go_on (u' := .c c_laws_toNoteS_9) (K' := K_laws_toNoteS_9) (st' := s_laws_toNoteS_9 p0 0 (List.replicate (Int.toNat (p0.length : Int)) ((S_Note.mk (ByteArray.mk #[]) (ByteArray.mk #[])) : S_Note))) [.num p0.length, .rows (List.map rS_Note (List.replicate (Int.toNat (p0.length : Int)) ((S_Note.mk (ByteArray.mk #[]) (ByteArray.mk #[])) : S_Note))), .num (Int.toNat (p0.length : Int)), .num ((List.replicate (Int.toNat (p0.length : Int)) ((S_Note.mk (ByteArray.mk #[]) (ByteArray.mk #[])) : S_Note)).length)] 1000 (And.intro (len_map rS_Note (show p0.length = p0.length from rfl)) (And.intro (ck_p h0_0) (And.intro (rep_ob rS_Note (Int.toNat (p0.length : Int)) ((S_Note.mk (ByteArray.mk #[]) (ByteArray.mk #[])) : S_Note) [.lit (.string (ByteArray.mk #[])), .lit (.string (ByteArray.mk #[]))] (by kernel_rfl)) (And.intro (len_map rS_Note (show (Int.toNat (p0.length : Int)) = (List.replicate (Int.toNat (p0.length : Int)) ((S_Note.mk (ByteArray.mk #[]) (ByteArray.mk #[])) : S_Note)).length from (rep_len (Int.toNat (p0.length : Int)) ((S_Note.mk (ByteArray.mk #[]) (ByteArray.mk #[])) : S_Note)))) (And.intro (lens (Int.toNat (p0.length : Int)) ((List.replicate (Int.toNat (p0.length : Int)) ((S_Note.mk (ByteArray.mk #[]) (ByteArray.mk #[])) : S_Note)).length) (rep_len (Int.toNat (p0.length : Int)) ((S_Note.mk (ByteArray.mk #[]) (ByteArray.mk #[])) : S_Note))) True.intro))))) ?_ (by kernel_rfl)
  obtain ⟨e, he, hm⟩ := bind_some hm
  refine loop_rule (u := .c c_laws_toNoteS_9) (K := K_laws_toNoteS_9) (Q := (Post vf_laws_toNoteS (res_laws_toNoteS r))) (b := lp_laws_toNoteS_9 p0) (We := O_laws_toNoteS_9 (Post vf_laws_toNoteS (res_laws_toNoteS r))) (stJ := fun s => s_laws_toNoteS_9 p0 s.1 s.2) (s := (0, (List.replicate (Int.toNat (p0.length : Int)) ((S_Note.mk (ByteArray.mk #[]) (ByteArray.mk #[])) : S_Note)))) (fun s y hb hin hout => ok_laws_toNoteS_9 p0 s.1 s.2 y hb (Post vf_laws_toNoteS (res_laws_toNoteS r)) hin hout) he ?_
  show EvU ext tbl (.c c_laws_toNoteS_19) K_laws_toNoteS_19 (s_laws_toNoteS_19 e) _
  exact ok_laws_toNoteS_19 e r hm

theorem ok_laws_toNoteS (p0 : (List S_Note)) (r : (List S_Note)) (hm : m_laws_toNoteS p0 = some r) : Runs ext tbl 102 (as_laws_toNoteS p0) (res_laws_toNoteS r) :=
  runs_of (vf := vf_laws_toNoteS) (by kernel_rfl) rfl (st := (enter vf_laws_toNoteS (as_laws_toNoteS p0)).getD default) (by kernel_rfl) (go_on [] 1000 True.intro (ok_laws_toNoteS_0 p0 r hm) (by kernel_rfl))
theorem ok_laws_toStill_0 (p0 : S_Still) (r : S_Still) (hm : m_laws_toStill_0 p0 = some r) : EvU ext tbl (.c c_laws_toStill_0) K_laws_toStill_0 (s_laws_toStill_0 p0) (Post vf_laws_toStill (res_laws_toStill r)) := by
  obtain ⟨x0_0, h0_0, hm⟩ := bind_some hm
  obtain ⟨x0_1, h0_1, hm⟩ := bind_some hm
  obtain ⟨x0_2, h0_2, hm⟩ := bind_some hm
  exact go_end [.res (res_laws_toImage x0_0), .num x0_0.samples.length, .res (res_laws_toIntS x0_1), .num x0_1.length, .res (res_laws_toNoteS x0_2), .num x0_2.length, .rows (List.map (rI .i64) x0_0.samples), .rows (List.map (rI .i64) x0_1), .rows (List.map rS_Note x0_2)] 1000 (And.intro (ok_laws_toImage p0.image x0_0 h0_0) (And.intro (len_map (rI .i64) (show x0_0.samples.length = x0_0.samples.length from rfl)) (And.intro (ok_laws_toIntS p0.palette x0_1 h0_1) (And.intro (len_map (rI .i64) (show x0_1.length = x0_1.length from rfl)) (And.intro (ok_laws_toNoteS p0.notes x0_2 h0_2) (And.intro (len_map rS_Note (show x0_2.length = x0_2.length from rfl)) (And.intro (all_le0 (rI .i64) x0_0.samples rfl) (And.intro (all_t (rI .i64) x0_0.samples rfl) (And.intro (all_le0 (rI .i64) x0_1 rfl) (And.intro (all_t (rI .i64) x0_1 rfl) (And.intro (all_le0 rS_Note x0_2 rfl) (And.intro (all_t rS_Note x0_2 rfl) True.intro)))))))))))) (congrArg res_laws_toStill (Option.some.inj hm)) (by kernel_rfl)

theorem ok_laws_toStill (p0 : S_Still) (r : S_Still) (hm : m_laws_toStill p0 = some r) : Runs ext tbl 27 (as_laws_toStill p0) (res_laws_toStill r) :=
  runs_of (vf := vf_laws_toStill) (by kernel_rfl) rfl (st := (enter vf_laws_toStill (as_laws_toStill p0)).getD default) (by kernel_rfl) (go_on [] 1000 True.intro (ok_laws_toStill_0 p0 r hm) (by kernel_rfl))
theorem ok_spec_l4Sides_0 (p0 : Int) (p1 : Int) (r : Bool) (hm : m_spec_l4Sides_0 p0 p1 = some r) : EvU ext tbl (.c c_spec_l4Sides_0) K_spec_l4Sides_0 (s_spec_l4Sides_0 p0 p1) (Post vf_spec_l4Sides (res_spec_l4Sides r)) := by
  obtain ⟨h0_0, hm⟩ | ⟨h0_0, hm⟩ := split_ite hm
  · skip
    obtain ⟨h0_1, hm⟩ | ⟨h0_1, hm⟩ := split_ite hm
    · skip
      obtain ⟨h0_2, hm⟩ | ⟨h0_2, hm⟩ := split_ite hm
      · skip
        exact go_end [.bit true, .bit true, .bit true, .bit true, .bit true, .bit true, .bit true, .bit true, .bit true] 1000 (And.intro h0_0 (And.intro h0_0 (And.intro h0_0 (And.intro h0_1 (And.intro h0_1 (And.intro h0_1 (And.intro h0_2 (And.intro h0_2 (And.intro h0_2 True.intro))))))))) (congrArg res_spec_l4Sides (Option.some.inj hm)) (by kernel_rfl)
      · skip
        exact go_end [.bit true, .bit true, .bit true, .bit true, .bit true, .bit true, .bit false, .bit false, .bit false] 1000 (And.intro h0_0 (And.intro h0_0 (And.intro h0_0 (And.intro h0_1 (And.intro h0_1 (And.intro h0_1 (And.intro h0_2 (And.intro h0_2 (And.intro h0_2 True.intro))))))))) (congrArg res_spec_l4Sides (Option.some.inj hm)) (by kernel_rfl)
    · skip
      exact go_end [.bit true, .bit true, .bit true, .bit false, .bit false, .bit false, .bit false, .bit false, .bit false] 1000 (And.intro h0_0 (And.intro h0_0 (And.intro h0_0 (And.intro h0_1 (And.intro h0_1 (And.intro h0_1 (And.intro (Eq.refl false) (And.intro (Eq.refl false) (And.intro (Eq.refl false) True.intro))))))))) (congrArg res_spec_l4Sides (Option.some.inj hm)) (by kernel_rfl)
  · skip
    exact go_end [.bit false, .bit false, .bit false, .bit false, .bit false, .bit false, .bit false, .bit false, .bit false] 1000 (And.intro h0_0 (And.intro h0_0 (And.intro h0_0 (And.intro (Eq.refl false) (And.intro (Eq.refl false) (And.intro (Eq.refl false) (And.intro (Eq.refl false) (And.intro (Eq.refl false) (And.intro (Eq.refl false) True.intro))))))))) (congrArg res_spec_l4Sides (Option.some.inj hm)) (by kernel_rfl)

theorem ok_spec_l4Sides (p0 : Int) (p1 : Int) (r : Bool) (hm : m_spec_l4Sides p0 p1 = some r) : Runs ext tbl 163 (as_spec_l4Sides p0 p1) (res_spec_l4Sides r) :=
  runs_of (vf := vf_spec_l4Sides) (by kernel_rfl) rfl (st := (enter vf_spec_l4Sides (as_spec_l4Sides p0 p1)).getD default) (by kernel_rfl) (go_on [] 1000 True.intro (ok_spec_l4Sides_0 p0 p1 r hm) (by kernel_rfl))
theorem ok_spec_l4Depth_0 (p0 : Int) (r : Bool) (hm : m_spec_l4Depth_0 p0 = some r) : EvU ext tbl (.c c_spec_l4Depth_0) K_spec_l4Depth_0 (s_spec_l4Depth_0 p0) (Post vf_spec_l4Depth (res_spec_l4Depth r)) := by
  obtain ⟨h0_0, hm⟩ | ⟨h0_0, hm⟩ := split_ite hm
  · skip
    exact go_end [.bit true, .bit true, .bit true, .bit true, .bit true, .bit true, .bit true, .bit true, .bit true, .bit true, .bit true, .bit true] 1000 (And.intro h0_0 (And.intro h0_0 (And.intro h0_0 (And.intro (Eq.refl true) (And.intro (Eq.refl true) (And.intro (Eq.refl true) (And.intro (Eq.refl true) (And.intro (Eq.refl true) (And.intro (Eq.refl true) (And.intro (Eq.refl true) (And.intro (Eq.refl true) (And.intro (Eq.refl true) True.intro)))))))))))) (congrArg res_spec_l4Depth (Option.some.inj hm)) (by kernel_rfl)
  · skip
    obtain ⟨h0_1, hm⟩ | ⟨h0_1, hm⟩ := split_ite hm
    · skip
      exact go_end [.bit false, .bit false, .bit false, .bit true, .bit true, .bit true, .bit true, .bit true, .bit true, .bit true, .bit true, .bit true] 1000 (And.intro h0_0 (And.intro h0_0 (And.intro h0_0 (And.intro h0_1 (And.intro h0_1 (And.intro h0_1 (And.intro (Eq.refl true) (And.intro (Eq.refl true) (And.intro (Eq.refl true) (And.intro (Eq.refl true) (And.intro (Eq.refl true) (And.intro (Eq.refl true) True.intro)))))))))))) (congrArg res_spec_l4Depth (Option.some.inj hm)) (by kernel_rfl)
    · skip
      obtain ⟨h0_2, hm⟩ | ⟨h0_2, hm⟩ := split_ite hm
      · skip
        exact go_end [.bit false, .bit false, .bit false, .bit false, .bit false, .bit false, .bit true, .bit true, .bit true, .bit true, .bit true, .bit true] 1000 (And.intro h0_0 (And.intro h0_0 (And.intro h0_0 (And.intro h0_1 (And.intro h0_1 (And.intro h0_1 (And.intro h0_2 (And.intro h0_2 (And.intro h0_2 (And.intro (Eq.refl true) (And.intro (Eq.refl true) (And.intro (Eq.refl true) True.intro)))))))))))) (congrArg res_spec_l4Depth (Option.some.inj hm)) (by kernel_rfl)
      · skip
        obtain ⟨h0_3, hm⟩ | ⟨h0_3, hm⟩ := split_ite hm
        · skip
          exact go_end [.bit false, .bit false, .bit false, .bit false, .bit false, .bit false, .bit false, .bit false, .bit false, .bit true, .bit true, .bit true] 1000 (And.intro h0_0 (And.intro h0_0 (And.intro h0_0 (And.intro h0_1 (And.intro h0_1 (And.intro h0_1 (And.intro h0_2 (And.intro h0_2 (And.intro h0_2 (And.intro h0_3 (And.intro h0_3 (And.intro h0_3 True.intro)))))))))))) (congrArg res_spec_l4Depth (Option.some.inj hm)) (by kernel_rfl)
        · skip
          exact go_end [.bit false, .bit false, .bit false, .bit false, .bit false, .bit false, .bit false, .bit false, .bit false, .bit false, .bit false, .bit false] 1000 (And.intro h0_0 (And.intro h0_0 (And.intro h0_0 (And.intro h0_1 (And.intro h0_1 (And.intro h0_1 (And.intro h0_2 (And.intro h0_2 (And.intro h0_2 (And.intro h0_3 (And.intro h0_3 (And.intro h0_3 True.intro)))))))))))) (congrArg res_spec_l4Depth (Option.some.inj hm)) (by kernel_rfl)

theorem ok_spec_l4Depth (p0 : Int) (r : Bool) (hm : m_spec_l4Depth p0 = some r) : Runs ext tbl 164 (as_spec_l4Depth p0) (res_spec_l4Depth r) :=
  runs_of (vf := vf_spec_l4Depth) (by kernel_rfl) rfl (st := (enter vf_spec_l4Depth (as_spec_l4Depth p0)).getD default) (by kernel_rfl) (go_on [] 1000 True.intro (ok_spec_l4Depth_0 p0 r hm) (by kernel_rfl))
def O_spec_GoodImage_23 (Q : VX → St → Prop) (e : (Bool) ⊕ ((Unit))) : Prop := match e with | .inl e => Q = Post vf_spec_GoodImage (res_spec_GoodImage e) | .inr e => EvU ext tbl (.c c_spec_GoodImage_41) K_spec_GoodImage_41 (s_spec_GoodImage_41) Q
theorem ok_spec_GoodImage_41 (r : Bool) (hm : m_spec_GoodImage_41 = some r) : EvU ext tbl (.c c_spec_GoodImage_41) K_spec_GoodImage_41 (s_spec_GoodImage_41) (Post vf_spec_GoodImage (res_spec_GoodImage r)) := by
  exact go_end [] 1000 True.intro (congrArg res_spec_GoodImage (Option.some.inj hm)) (by kernel_rfl)

theorem ok_spec_GoodImage_23 (p0 : S_Image) (i23_0 : Int) (y : (Int) ⊕ ((Bool) ⊕ ((Unit)))) (hm : m_spec_GoodImage_23 p0 i23_0 = some y) (Q : VX → St → Prop)
    (hin : ∀ s, y = .inl s → EvU ext tbl (.c c_spec_GoodImage_23) K_spec_GoodImage_23 (s_spec_GoodImage_23 p0 s) Q) (hout : ∀ e, y = .inr e → O_spec_GoodImage_23 Q e) : EvU ext tbl (.c c_spec_GoodImage_23) K_spec_GoodImage_23 (s_spec_GoodImage_23 p0 i23_0) Q := by
  obtain ⟨h23_0, hm⟩ | ⟨h23_0, hm⟩ := split_ite hm
  · skip
    obtain ⟨x23_1, h23_1, hm⟩ := bind_some hm
    obtain ⟨h23_2, hm⟩ | ⟨h23_2, hm⟩ := split_ite hm
    · skip
      have hQ : Q = Post vf_spec_GoodImage (res_spec_GoodImage false) := hout (.inl false) (Option.some.inj hm).symm
      subst hQ
      exact go_end [.bit true, .row ((rI .i64) x23_1), .bit true, .bit true, .bit true, .bit true, .bit true, .bit true, .bit true, .bit true] 1000 (And.intro h23_0 (And.intro (rd_nn h23_1) (And.intro (at_row (rI .i64) (rd_get h23_1)) (And.intro h23_2 (And.intro h23_2 (And.intro h23_2 (And.intro h23_2 (And.intro h23_2 (And.intro h23_2 (And.intro h23_2 (And.intro (Eq.refl true) True.intro))))))))))) (rfl : res_spec_GoodImage false = res_spec_GoodImage false) (by kernel_rfl)
    · skip
      obtain ⟨x23_3, h23_3, hm⟩ := bind_some hm
      obtain ⟨h23_4, hm⟩ | ⟨h23_4, hm⟩ := split_ite hm
      · skip
        have hQ : Q = Post vf_spec_GoodImage (res_spec_GoodImage false) := hout (.inl false) (Option.some.inj hm).symm
        subst hQ
        exact go_end [.bit true, .row ((rI .i64) x23_1), .bit false, .bit false, .bit false, .bit false, .bit false, .bit false, .bit false, .bit true] 1000 (And.intro h23_0 (And.intro (rd_nn h23_1) (And.intro (at_row (rI .i64) (rd_get h23_1)) (And.intro h23_2 (And.intro h23_2 (And.intro h23_2 (And.intro h23_2 (And.intro h23_2 (And.intro (ck_p h23_3) (And.intro h23_2 (And.intro h23_2 (And.intro h23_4 True.intro)))))))))))) (rfl : res_spec_GoodImage false = res_spec_GoodImage false) (by kernel_rfl)
      · skip
        refine go_on (u' := .c c_spec_GoodImage_23) (K' := K_spec_GoodImage_23) (st' := s_spec_GoodImage_23 p0 (w64 (i23_0 + 1))) [.bit true, .row ((rI .i64) x23_1), .bit false, .bit false, .bit false, .bit false, .bit false, .bit false, .bit false, .bit false] 1000 (And.intro h23_0 (And.intro (rd_nn h23_1) (And.intro (at_row (rI .i64) (rd_get h23_1)) (And.intro h23_2 (And.intro h23_2 (And.intro h23_2 (And.intro h23_2 (And.intro h23_2 (And.intro (ck_p h23_3) (And.intro h23_2 (And.intro h23_2 (And.intro h23_4 True.intro)))))))))))) ?_ (by kernel_rfl)
        exact hin (w64 (i23_0 + 1)) (Option.some.inj hm).symm
  · skip
    refine go_on (u' := .c c_spec_GoodImage_41) (K' := K_spec_GoodImage_41) (st' := s_spec_GoodImage_41) [.bit false] 1000 (And.intro h23_0 True.intro) ?_ (by kernel_rfl)
    exact hout (.inr ()) (Option.some.inj hm).symm

theorem ok_spec_GoodImage_18 (p0 : S_Image) (r : Bool) (hm : m_spec_GoodImage_18 p0 = some r) : EvU ext tbl (.c c_spec_GoodImage_18) K_spec_GoodImage_18 (s_spec_GoodImage_18 p0) (Post vf_spec_GoodImage (res_spec_GoodImage r)) := by
  refine go_on (u' := .c c_spec_GoodImage_23) (K' := K_spec_GoodImage_23) (st' := s_spec_GoodImage_23 p0 0) [.num p0.samples.length] 1000 (And.intro (len_map (rI .i64) (show p0.samples.length = p0.samples.length from rfl)) True.intro) ?_ (by kernel_rfl)
  obtain ⟨e, he, hm⟩ := bind_some hm
  refine loop_rule (u := .c c_spec_GoodImage_23) (K := K_spec_GoodImage_23) (Q := (Post vf_spec_GoodImage (res_spec_GoodImage r))) (b := lp_spec_GoodImage_23 p0) (We := O_spec_GoodImage_23 (Post vf_spec_GoodImage (res_spec_GoodImage r))) (stJ := fun s => s_spec_GoodImage_23 p0 s) (s := 0) (fun s y hb hin hout => ok_spec_GoodImage_23 p0 s y hb (Post vf_spec_GoodImage (res_spec_GoodImage r)) hin hout) he ?_
  rcases e with e | e
  · skip
    exact congrArg (fun r => Post vf_spec_GoodImage (res_spec_GoodImage r)) (Option.some.inj hm).symm
  · skip
    show EvU ext tbl (.c c_spec_GoodImage_41) K_spec_GoodImage_41 (s_spec_GoodImage_41) _
    exact ok_spec_GoodImage_41 r hm

theorem ok_spec_GoodImage_0 (p0 : S_Image) (r : Bool) (hm : m_spec_GoodImage_0 p0 = some r) : EvU ext tbl (.c c_spec_GoodImage_0) K_spec_GoodImage_0 (s_spec_GoodImage_0 p0) (Post vf_spec_GoodImage (res_spec_GoodImage r)) := by
  obtain ⟨x0_0, h0_0, hm⟩ := bind_some hm
  obtain ⟨h0_1, hm⟩ | ⟨h0_1, hm⟩ := split_ite hm
  · skip
    obtain ⟨h0_2, hm⟩ | ⟨h0_2, hm⟩ := split_ite hm
    · skip
      exact go_end [.res (res_spec_l4Sides x0_0), .bit false, .bit false, .bit false, .bit false, .bit false, .bit false, .bit false, .bit true, .bit true, .bit true, .bit true, .bit true, .bit true, .bit true, .bit true, .bit true, .bit true, .bit true, .bit true, .bit true, .bit true] 1000 (And.intro (ok_spec_l4Sides p0.width p0.height x0_0 h0_0) (And.intro (not_f h0_1) (And.intro (not_f h0_1) (And.intro (not_f h0_1) (And.intro (not_f h0_1) (And.intro (not_f h0_1) (And.intro (not_f h0_1) (And.intro (not_f h0_1) (And.intro h0_2 (And.intro h0_2 (And.intro h0_2 (And.intro h0_2 (And.intro (Eq.refl true) (And.intro (Eq.refl true) (And.intro (Eq.refl true) (And.intro (Eq.refl true) (And.intro (Eq.refl true) (And.intro (Eq.refl true) (And.intro (Eq.refl true) (And.intro (Eq.refl true) (And.intro (Eq.refl true) (And.intro (Eq.refl true) True.intro)))))))))))))))))))))) (congrArg res_spec_GoodImage (Option.some.inj hm)) (by kernel_rfl)
    · skip
      obtain ⟨h0_3, hm⟩ | ⟨h0_3, hm⟩ := split_ite hm
      · skip
        exact go_end [.res (res_spec_l4Sides x0_0), .bit false, .bit false, .bit false, .bit false, .bit false, .bit false, .bit false, .bit false, .bit false, .bit false, .bit false, .bit true, .bit true, .bit true, .bit true, .bit true, .bit true, .bit true, .bit true, .bit true, .bit true] 1000 (And.intro (ok_spec_l4Sides p0.width p0.height x0_0 h0_0) (And.intro (not_f h0_1) (And.intro (not_f h0_1) (And.intro (not_f h0_1) (And.intro (not_f h0_1) (And.intro (not_f h0_1) (And.intro (not_f h0_1) (And.intro (not_f h0_1) (And.intro h0_2 (And.intro h0_2 (And.intro h0_2 (And.intro h0_2 (And.intro h0_3 (And.intro h0_3 (And.intro h0_3 (And.intro h0_3 (And.intro (Eq.refl true) (And.intro (Eq.refl true) (And.intro (Eq.refl true) (And.intro (Eq.refl true) (And.intro (Eq.refl true) (And.intro (Eq.refl true) True.intro)))))))))))))))))))))) (congrArg res_spec_GoodImage (Option.some.inj hm)) (by kernel_rfl)
      · skip
        obtain ⟨h0_4, hm⟩ | ⟨h0_4, hm⟩ := split_ite hm
        · skip
          exact go_end [.res (res_spec_l4Sides x0_0), .bit false, .bit false, .bit false, .bit false, .bit false, .bit false, .bit false, .bit false, .bit false, .bit false, .bit false, .bit false, .bit false, .bit false, .bit false, .bit true, .bit true, .bit true, .bit true, .bit true, .bit true] 1000 (And.intro (ok_spec_l4Sides p0.width p0.height x0_0 h0_0) (And.intro (not_f h0_1) (And.intro (not_f h0_1) (And.intro (not_f h0_1) (And.intro (not_f h0_1) (And.intro (not_f h0_1) (And.intro (not_f h0_1) (And.intro (not_f h0_1) (And.intro h0_2 (And.intro h0_2 (And.intro h0_2 (And.intro h0_2 (And.intro h0_3 (And.intro h0_3 (And.intro h0_3 (And.intro h0_3 (And.intro h0_4 (And.intro h0_4 (And.intro h0_4 (And.intro h0_4 (And.intro h0_4 (And.intro (Eq.refl true) True.intro)))))))))))))))))))))) (congrArg res_spec_GoodImage (Option.some.inj hm)) (by kernel_rfl)
        · skip
          obtain ⟨x0_5, h0_5, hm⟩ := bind_some hm
          obtain ⟨h0_6, hm⟩ | ⟨h0_6, hm⟩ := split_ite hm
          · skip
            obtain ⟨h0_7, hm⟩ | ⟨h0_7, hm⟩ := split_ite hm
            · skip
              obtain ⟨h0_8, hm⟩ | ⟨h0_8, hm⟩ := split_ite hm
              · skip
                exact go_end [.res (res_spec_l4Sides x0_0), .bit false, .bit false, .bit false, .bit false, .bit false, .bit false, .bit false, .bit false, .bit false, .bit false, .bit false, .bit false, .bit false, .bit false, .bit false, .bit false, .bit false, .bit false, .res (res_spec_l4Depth x0_5), .bit false, .bit false, .bit false, .bit true, .bit true, .bit true, .bit true, .bit true, .bit true, .bit true, .bit true, .bit true, .bit true, .bit true, .bit true, .bit true, .bit true, .bit true, .bit true, .bit true, .bit true] 1000 (And.intro (ok_spec_l4Sides p0.width p0.height x0_0 h0_0) (And.intro (not_f h0_1) (And.intro (not_f h0_1) (And.intro (not_f h0_1) (And.intro (not_f h0_1) (And.intro (not_f h0_1) (And.intro (not_f h0_1) (And.intro (not_f h0_1) (And.intro h0_2 (And.intro h0_2 (And.intro h0_2 (And.intro h0_2 (And.intro h0_3 (And.intro h0_3 (And.intro h0_3 (And.intro h0_3 (And.intro h0_4 (And.intro h0_4 (And.intro h0_4 (And.intro (ok_spec_l4Depth p0.depth x0_5 h0_5) (And.intro h0_4 (And.intro h0_4 (And.intro (not_f h0_6) (And.intro h0_7 (And.intro h0_7 (And.intro h0_7 (And.intro h0_7 (And.intro h0_8 (And.intro h0_8 (And.intro h0_8 (And.intro h0_8 (And.intro h0_8 (And.intro h0_8 (And.intro h0_8 (And.intro h0_8 (And.intro h0_8 (And.intro h0_8 (And.intro h0_8 (And.intro h0_8 (And.intro h0_8 (And.intro (Eq.refl true) True.intro))))))))))))))))))))))))))))))))))))))))) (congrArg res_spec_GoodImage (Option.some.inj hm)) (by kernel_rfl)
              · skip
                obtain ⟨h0_9, hm⟩ | ⟨h0_9, hm⟩ := split_ite hm
                · skip
                  exact go_end [.res (res_spec_l4Sides x0_0), .bit false, .bit false, .bit false, .bit false, .bit false, .bit false, .bit false, .bit false, .bit false, .bit false, .bit false, .bit false, .bit false, .bit false, .bit false, .bit false, .bit false, .bit false, .res (res_spec_l4Depth x0_5), .bit false, .bit false, .bit false, .bit true, .bit true, .bit true, .bit true, .bit false, .bit false, .bit false, .num p0.samples.length, .bit false, .bit false, .bit false, .bit false, .bit false, .bit false, .bit false, .bit false, .bit false, .bit false, .bit true] 1000 (And.intro (ok_spec_l4Sides p0.width p0.height x0_0 h0_0) (And.intro (not_f h0_1) (And.intro (not_f h0_1) (And.intro (not_f h0_1) (And.intro (not_f h0_1) (And.intro (not_f h0_1) (And.intro (not_f h0_1) (And.intro (not_f h0_1) (And.intro h0_2 (And.intro h0_2 (And.intro h0_2 (And.intro h0_2 (And.intro h0_3 (And.intro h0_3 (And.intro h0_3 (And.intro h0_3 (And.intro h0_4 (And.intro h0_4 (And.intro h0_4 (And.intro (ok_spec_l4Depth p0.depth x0_5 h0_5) (And.intro h0_4 (And.intro h0_4 (And.intro (not_f h0_6) (And.intro h0_7 (And.intro h0_7 (And.intro h0_7 (And.intro h0_7 (And.intro h0_8 (And.intro h0_8 (And.intro h0_8 (And.intro (len_map (rI .i64) (show p0.samples.length = p0.samples.length from rfl)) (And.intro h0_8 (And.intro h0_8 (And.intro h0_8 (And.intro h0_8 (And.intro h0_8 (And.intro h0_8 (And.intro h0_8 (And.intro h0_8 (And.intro h0_8 (And.intro h0_8 (And.intro h0_9 True.intro)))))))))))))))))))))))))))))))))))))))))) (congrArg res_spec_GoodImage (Option.some.inj hm)) (by kernel_rfl)
                · skip
                  refine go_on (u' := .c c_spec_GoodImage_18) (K' := K_spec_GoodImage_18) (st' := s_spec_GoodImage_18 p0) [.res (res_spec_l4Sides x0_0), .bit false, .bit false, .bit false, .bit false, .bit false, .bit false, .bit false, .bit false, .bit false, .bit false, .bit false, .bit false, .bit false, .bit false, .bit false, .bit false, .bit false, .bit false, .res (res_spec_l4Depth x0_5), .bit false, .bit false, .bit false, .bit true, .bit true, .bit true, .bit true, .bit false, .bit false, .bit false, .num p0.samples.length, .bit false, .bit false, .bit false, .bit false, .bit false, .bit false, .bit false, .bit false, .bit false, .bit false, .bit false] 1000 (And.intro (ok_spec_l4Sides p0.width p0.height x0_0 h0_0) (And.intro (not_f h0_1) (And.intro (not_f h0_1) (And.intro (not_f h0_1) (And.intro (not_f h0_1) (And.intro (not_f h0_1) (And.intro (not_f h0_1) (And.intro (not_f h0_1) (And.intro h0_2 (And.intro h0_2 (And.intro h0_2 (And.intro h0_2 (And.intro h0_3 (And.intro h0_3 (And.intro h0_3 (And.intro h0_3 (And.intro h0_4 (And.intro h0_4 (And.intro h0_4 (And.intro (ok_spec_l4Depth p0.depth x0_5 h0_5) (And.intro h0_4 (And.intro h0_4 (And.intro (not_f h0_6) (And.intro h0_7 (And.intro h0_7 (And.intro h0_7 (And.intro h0_7 (And.intro h0_8 (And.intro h0_8 (And.intro h0_8 (And.intro (len_map (rI .i64) (show p0.samples.length = p0.samples.length from rfl)) (And.intro h0_8 (And.intro h0_8 (And.intro h0_8 (And.intro h0_8 (And.intro h0_8 (And.intro h0_8 (And.intro h0_8 (And.intro h0_8 (And.intro h0_8 (And.intro h0_8 (And.intro h0_9 True.intro)))))))))))))))))))))))))))))))))))))))))) ?_ (by kernel_rfl)
                  exact ok_spec_GoodImage_18 p0 r hm
            · skip
              obtain ⟨h0_8, hm⟩ | ⟨h0_8, hm⟩ := split_ite hm
              · skip
                exact go_end [.res (res_spec_l4Sides x0_0), .bit false, .bit false, .bit false, .bit false, .bit false, .bit false, .bit false, .bit false, .bit false, .bit false, .bit false, .bit false, .bit false, .bit false, .bit false, .bit false, .bit false, .bit false, .res (res_spec_l4Depth x0_5), .bit false, .bit false, .bit false, .bit false, .bit false, .bit false, .bit false, .bit false, .bit false, .bit false, .num p0.samples.length, .bit false, .bit false, .bit false, .bit false, .bit false, .bit false, .bit false, .bit false, .bit false, .bit false, .bit true] 1000 (And.intro (ok_spec_l4Sides p0.width p0.height x0_0 h0_0) (And.intro (not_f h0_1) (And.intro (not_f h0_1) (And.intro (not_f h0_1) (And.intro (not_f h0_1) (And.intro (not_f h0_1) (And.intro (not_f h0_1) (And.intro (not_f h0_1) (And.intro h0_2 (And.intro h0_2 (And.intro h0_2 (And.intro h0_2 (And.intro h0_3 (And.intro h0_3 (And.intro h0_3 (And.intro h0_3 (And.intro h0_4 (And.intro h0_4 (And.intro h0_4 (And.intro (ok_spec_l4Depth p0.depth x0_5 h0_5) (And.intro h0_4 (And.intro h0_4 (And.intro (not_f h0_6) (And.intro h0_7 (And.intro h0_7 (And.intro h0_7 (And.intro h0_7 (And.intro (Eq.refl false) (And.intro (Eq.refl false) (And.intro (Eq.refl false) (And.intro (len_map (rI .i64) (show p0.samples.length = p0.samples.length from rfl)) (And.intro (Eq.refl false) (And.intro (Eq.refl false) (And.intro (Eq.refl false) (And.intro (Eq.refl false) (And.intro (Eq.refl false) (And.intro (Eq.refl false) (And.intro (Eq.refl false) (And.intro (Eq.refl false) (And.intro (Eq.refl false) (And.intro (Eq.refl false) (And.intro h0_8 True.intro)))))))))))))))))))))))))))))))))))))))))) (congrArg res_spec_GoodImage (Option.some.inj hm)) (by kernel_rfl)
              · skip
                refine go_on (u' := .c c_spec_GoodImage_18) (K' := K_spec_GoodImage_18) (st' := s_spec_GoodImage_18 p0) [.res (res_spec_l4Sides x0_0), .bit false, .bit false, .bit false, .bit false, .bit false, .bit false, .bit false, .bit false, .bit false, .bit false, .bit false, .bit false, .bit false, .bit false, .bit false, .bit false, .bit false, .bit false, .res (res_spec_l4Depth x0_5), .bit false, .bit false, .bit false, .bit false, .bit false, .bit false, .bit false, .bit false, .bit false, .bit false, .num p0.samples.length, .bit false, .bit false, .bit false, .bit false, .bit false, .bit false, .bit false, .bit false, .bit false, .bit false, .bit false] 1000 (And.intro (ok_spec_l4Sides p0.width p0.height x0_0 h0_0) (And.intro (not_f h0_1) (And.intro (not_f h0_1) (And.intro (not_f h0_1) (And.intro (not_f h0_1) (And.intro (not_f h0_1) (And.intro (not_f h0_1) (And.intro (not_f h0_1) (And.intro h0_2 (And.intro h0_2 (And.intro h0_2 (And.intro h0_2 (And.intro h0_3 (And.intro h0_3 (And.intro h0_3 (And.intro h0_3 (And.intro h0_4 (And.intro h0_4 (And.intro h0_4 (And.intro (ok_spec_l4Depth p0.depth x0_5 h0_5) (And.intro h0_4 (And.intro h0_4 (And.intro (not_f h0_6) (And.intro h0_7 (And.intro h0_7 (And.intro h0_7 (And.intro h0_7 (And.intro (Eq.refl false) (And.intro (Eq.refl false) (And.intro (Eq.refl false) (And.intro (len_map (rI .i64) (show p0.samples.length = p0.samples.length from rfl)) (And.intro (Eq.refl false) (And.intro (Eq.refl false) (And.intro (Eq.refl false) (And.intro (Eq.refl false) (And.intro (Eq.refl false) (And.intro (Eq.refl false) (And.intro (Eq.refl false) (And.intro (Eq.refl false) (And.intro (Eq.refl false) (And.intro (Eq.refl false) (And.intro h0_8 True.intro)))))))))))))))))))))))))))))))))))))))))) ?_ (by kernel_rfl)
                exact ok_spec_GoodImage_18 p0 r hm
          · skip
            exact go_end [.res (res_spec_l4Sides x0_0), .bit false, .bit false, .bit false, .bit false, .bit false, .bit false, .bit false, .bit false, .bit false, .bit false, .bit false, .bit false, .bit false, .bit false, .bit false, .bit false, .bit false, .bit false, .res (res_spec_l4Depth x0_5), .bit false, .bit false, .bit true] 1000 (And.intro (ok_spec_l4Sides p0.width p0.height x0_0 h0_0) (And.intro (not_f h0_1) (And.intro (not_f h0_1) (And.intro (not_f h0_1) (And.intro (not_f h0_1) (And.intro (not_f h0_1) (And.intro (not_f h0_1) (And.intro (not_f h0_1) (And.intro h0_2 (And.intro h0_2 (And.intro h0_2 (And.intro h0_2 (And.intro h0_3 (And.intro h0_3 (And.intro h0_3 (And.intro h0_3 (And.intro h0_4 (And.intro h0_4 (And.intro h0_4 (And.intro (ok_spec_l4Depth p0.depth x0_5 h0_5) (And.intro h0_4 (And.intro h0_4 (And.intro (not_t h0_6) True.intro))))))))))))))))))))))) (congrArg res_spec_GoodImage (Option.some.inj hm)) (by kernel_rfl)
  · skip
    exact go_end [.res (res_spec_l4Sides x0_0), .bit true, .bit true, .bit true, .bit true, .bit true, .bit true, .bit true, .bit true, .bit true, .bit true, .bit true, .bit true, .bit true, .bit true, .bit true, .bit true, .bit true, .bit true, .bit true, .bit true, .bit true] 1000 (And.intro (ok_spec_l4Sides p0.width p0.height x0_0 h0_0) (And.intro (not_t h0_1) (And.intro (not_t h0_1) (And.intro (not_t h0_1) (And.intro (not_t h0_1) (And.intro (not_t h0_1) (And.intro (not_t h0_1) (And.intro (not_t h0_1) (And.intro (Eq.refl true) (And.intro (Eq.refl true) (And.intro (Eq.refl true) (And.intro (Eq.refl true) (And.intro (Eq.refl true) (And.intro (Eq.refl true) (And.intro (Eq.refl true) (And.intro (Eq.refl true) (And.intro (Eq.refl true) (And.intro (Eq.refl true) (And.intro (Eq.refl true) (And.intro (Eq.refl true) (And.intro (Eq.refl true) (And.intro (Eq.refl true) True.intro)))))))))))))))))))))) (congrArg res_spec_GoodImage (Option.some.inj hm)) (by kernel_rfl)

theorem ok_spec_GoodImage (p0 : S_Image) (r : Bool) (hm : m_spec_GoodImage p0 = some r) : Runs ext tbl 97 (as_spec_GoodImage p0) (res_spec_GoodImage r) :=
  runs_of (vf := vf_spec_GoodImage) (by kernel_rfl) rfl (st := (enter vf_spec_GoodImage (as_spec_GoodImage p0)).getD default) (by kernel_rfl) (go_on [] 1000 True.intro (ok_spec_GoodImage_0 p0 r hm) (by kernel_rfl))
def O_spec_l5Colours_7 (p0 : (List Int)) (Q : VX → St → Prop) (e : (Bool) ⊕ ((Unit))) : Prop := match e with | .inl e => Q = Post vf_spec_l5Colours (res_spec_l5Colours e) | .inr e => EvU ext tbl (.c c_spec_l5Colours_25) K_spec_l5Colours_25 (s_spec_l5Colours_25 p0) Q
theorem ok_spec_l5Colours_25 (p0 : (List Int)) (r : Bool) (hm : m_spec_l5Colours_25 p0 = some r) : EvU ext tbl (.c c_spec_l5Colours_25) K_spec_l5Colours_25 (s_spec_l5Colours_25 p0) (Post vf_spec_l5Colours (res_spec_l5Colours r)) := by
  exact go_end [.num p0.length] 1000 (And.intro (len_map (rI .i64) (show p0.length = p0.length from rfl)) True.intro) (congrArg res_spec_l5Colours (Option.some.inj hm)) (by kernel_rfl)

theorem ok_spec_l5Colours_7 (p0 : (List Int)) (i7_0 : Int) (y : (Int) ⊕ ((Bool) ⊕ ((Unit)))) (hm : m_spec_l5Colours_7 p0 i7_0 = some y) (Q : VX → St → Prop)
    (hin : ∀ s, y = .inl s → EvU ext tbl (.c c_spec_l5Colours_7) K_spec_l5Colours_7 (s_spec_l5Colours_7 p0 s) Q) (hout : ∀ e, y = .inr e → O_spec_l5Colours_7 p0 Q e) : EvU ext tbl (.c c_spec_l5Colours_7) K_spec_l5Colours_7 (s_spec_l5Colours_7 p0 i7_0) Q := by
  obtain ⟨h7_0, hm⟩ | ⟨h7_0, hm⟩ := split_ite hm
  · skip
    obtain ⟨x7_1, h7_1, hm⟩ := bind_some hm
    obtain ⟨h7_2, hm⟩ | ⟨h7_2, hm⟩ := split_ite hm
    · skip
      have hQ : Q = Post vf_spec_l5Colours (res_spec_l5Colours false) := hout (.inl false) (Option.some.inj hm).symm
      subst hQ
      exact go_end [.bit true, .row ((rI .i64) x7_1), .bit true, .bit true, .bit true, .bit true] 1000 (And.intro h7_0 (And.intro (rd_nn h7_1) (And.intro (at_row (rI .i64) (rd_get h7_1)) (And.intro h7_2 (And.intro h7_2 (And.intro h7_2 (And.intro (Eq.refl true) True.intro))))))) (rfl : res_spec_l5Colours false = res_spec_l5Colours false) (by kernel_rfl)
    · skip
      obtain ⟨h7_3, hm⟩ | ⟨h7_3, hm⟩ := split_ite hm
      · skip
        have hQ : Q = Post vf_spec_l5Colours (res_spec_l5Colours false) := hout (.inl false) (Option.some.inj hm).symm
        subst hQ
        exact go_end [.bit true, .row ((rI .i64) x7_1), .bit false, .bit false, .bit false, .bit true] 1000 (And.intro h7_0 (And.intro (rd_nn h7_1) (And.intro (at_row (rI .i64) (rd_get h7_1)) (And.intro h7_2 (And.intro h7_2 (And.intro h7_2 (And.intro h7_3 True.intro))))))) (rfl : res_spec_l5Colours false = res_spec_l5Colours false) (by kernel_rfl)
      · skip
        refine go_on (u' := .c c_spec_l5Colours_7) (K' := K_spec_l5Colours_7) (st' := s_spec_l5Colours_7 p0 (w64 (i7_0 + 1))) [.bit true, .row ((rI .i64) x7_1), .bit false, .bit false, .bit false, .bit false] 1000 (And.intro h7_0 (And.intro (rd_nn h7_1) (And.intro (at_row (rI .i64) (rd_get h7_1)) (And.intro h7_2 (And.intro h7_2 (And.intro h7_2 (And.intro h7_3 True.intro))))))) ?_ (by kernel_rfl)
        exact hin (w64 (i7_0 + 1)) (Option.some.inj hm).symm
  · skip
    refine go_on (u' := .c c_spec_l5Colours_25) (K' := K_spec_l5Colours_25) (st' := s_spec_l5Colours_25 p0) [.bit false] 1000 (And.intro h7_0 True.intro) ?_ (by kernel_rfl)
    exact hout (.inr ()) (Option.some.inj hm).symm

theorem ok_spec_l5Colours_0 (p0 : (List Int)) (r : Bool) (hm : m_spec_l5Colours_0 p0 = some r) : EvU ext tbl (.c c_spec_l5Colours_0) K_spec_l5Colours_0 (s_spec_l5Colours_0 p0) (Post vf_spec_l5Colours (res_spec_l5Colours r)) := by
  refine go_on (u' := .c c_spec_l5Colours_7) (K' := K_spec_l5Colours_7) (st' := s_spec_l5Colours_7 p0 0) [.num p0.length] 1000 (And.intro (len_map (rI .i64) (show p0.length = p0.length from rfl)) True.intro) ?_ (by kernel_rfl)
  obtain ⟨e, he, hm⟩ := bind_some hm
  refine loop_rule (u := .c c_spec_l5Colours_7) (K := K_spec_l5Colours_7) (Q := (Post vf_spec_l5Colours (res_spec_l5Colours r))) (b := lp_spec_l5Colours_7 p0) (We := O_spec_l5Colours_7 p0 (Post vf_spec_l5Colours (res_spec_l5Colours r))) (stJ := fun s => s_spec_l5Colours_7 p0 s) (s := 0) (fun s y hb hin hout => ok_spec_l5Colours_7 p0 s y hb (Post vf_spec_l5Colours (res_spec_l5Colours r)) hin hout) he ?_
  rcases e with e | e
  · skip
    exact congrArg (fun r => Post vf_spec_l5Colours (res_spec_l5Colours r)) (Option.some.inj hm).symm
  · skip
    show EvU ext tbl (.c c_spec_l5Colours_25) K_spec_l5Colours_25 (s_spec_l5Colours_25 p0) _
    exact ok_spec_l5Colours_25 p0 r hm

theorem ok_spec_l5Colours (p0 : (List Int)) (r : Bool) (hm : m_spec_l5Colours p0 = some r) : Runs ext tbl 98 (as_spec_l5Colours p0) (res_spec_l5Colours r) :=
  runs_of (vf := vf_spec_l5Colours) (by kernel_rfl) rfl (st := (enter vf_spec_l5Colours (as_spec_l5Colours p0)).getD default) (by kernel_rfl) (go_on [] 1000 True.intro (ok_spec_l5Colours_0 p0 r hm) (by kernel_rfl))
def O_spec_l5Note_36 (Q : VX → St → Prop) (e : (Bool) ⊕ ((Unit))) : Prop := match e with | .inl e => Q = Post vf_spec_l5Note (res_spec_l5Note e) | .inr e => EvU ext tbl (.c c_spec_l5Note_52) K_spec_l5Note_52 (s_spec_l5Note_52) Q
def O_spec_l5Note_15 (p0 : S_Note) (Q : VX → St → Prop) (e : (Bool) ⊕ ((Unit))) : Prop := match e with | .inl e => Q = Post vf_spec_l5Note (res_spec_l5Note e) | .inr e => EvU ext tbl (.c c_spec_l5Note_31) K_spec_l5Note_31 (s_spec_l5Note_31 p0) Q
theorem ok_spec_l5Note_52 (r : Bool) (hm : m_spec_l5Note_52 = some r) : EvU ext tbl (.c c_spec_l5Note_52) K_spec_l5Note_52 (s_spec_l5Note_52) (Post vf_spec_l5Note (res_spec_l5Note r)) := by
  exact go_end [] 1000 True.intro (congrArg res_spec_l5Note (Option.some.inj hm)) (by kernel_rfl)

theorem ok_spec_l5Note_36 (p0 : S_Note) (i36_0 : Int) (y : (Int) ⊕ ((Bool) ⊕ ((Unit)))) (hm : m_spec_l5Note_36 p0 i36_0 = some y) (Q : VX → St → Prop)
    (hin : ∀ s, y = .inl s → EvU ext tbl (.c c_spec_l5Note_36) K_spec_l5Note_36 (s_spec_l5Note_36 p0 s) Q) (hout : ∀ e, y = .inr e → O_spec_l5Note_36 Q e) : EvU ext tbl (.c c_spec_l5Note_36) K_spec_l5Note_36 (s_spec_l5Note_36 p0 i36_0) Q := by
  obtain ⟨h36_0, hm⟩ | ⟨h36_0, hm⟩ := split_ite hm
  · skip
    obtain ⟨x36_1, h36_1, hm⟩ := bind_some hm
    obtain ⟨h36_2, hm⟩ | ⟨h36_2, hm⟩ := split_ite hm
    · skip
      have hQ : Q = Post vf_spec_l5Note (res_spec_l5Note false) := hout (.inl false) (Option.some.inj hm).symm
      subst hQ
      exact go_end [.bit true, .int x36_1, .bit true] 1000 (And.intro h36_0 (And.intro (sat_nn h36_1) (And.intro (sat_at h36_1) (And.intro h36_2 True.intro)))) (rfl : res_spec_l5Note false = res_spec_l5Note false) (by kernel_rfl)
    · skip
      refine go_on (u' := .c c_spec_l5Note_36) (K' := K_spec_l5Note_36) (st' := s_spec_l5Note_36 p0 (w64 (i36_0 + 1))) [.bit true, .int x36_1, .bit false] 1000 (And.intro h36_0 (And.intro (sat_nn h36_1) (And.intro (sat_at h36_1) (And.intro h36_2 True.intro)))) ?_ (by kernel_rfl)
      exact hin (w64 (i36_0 + 1)) (Option.some.inj hm).symm
  · skip
    refine go_on (u' := .c c_spec_l5Note_52) (K' := K_spec_l5Note_52) (st' := s_spec_l5Note_52) [.bit false] 1000 (And.intro h36_0 True.intro) ?_ (by kernel_rfl)
    exact hout (.inr ()) (Option.some.inj hm).symm

theorem ok_spec_l5Note_31 (p0 : S_Note) (r : Bool) (hm : m_spec_l5Note_31 p0 = some r) : EvU ext tbl (.c c_spec_l5Note_31) K_spec_l5Note_31 (s_spec_l5Note_31 p0) (Post vf_spec_l5Note (res_spec_l5Note r)) := by
  refine go_on (u' := .c c_spec_l5Note_36) (K' := K_spec_l5Note_36) (st' := s_spec_l5Note_36 p0 0) [] 1000 True.intro ?_ (by kernel_rfl)
  obtain ⟨e, he, hm⟩ := bind_some hm
  refine loop_rule (u := .c c_spec_l5Note_36) (K := K_spec_l5Note_36) (Q := (Post vf_spec_l5Note (res_spec_l5Note r))) (b := lp_spec_l5Note_36 p0) (We := O_spec_l5Note_36 (Post vf_spec_l5Note (res_spec_l5Note r))) (stJ := fun s => s_spec_l5Note_36 p0 s) (s := 0) (fun s y hb hin hout => ok_spec_l5Note_36 p0 s y hb (Post vf_spec_l5Note (res_spec_l5Note r)) hin hout) he ?_
  rcases e with e | e
  · skip
    exact congrArg (fun r => Post vf_spec_l5Note (res_spec_l5Note r)) (Option.some.inj hm).symm
  · skip
    show EvU ext tbl (.c c_spec_l5Note_52) K_spec_l5Note_52 (s_spec_l5Note_52) _
    exact ok_spec_l5Note_52 r hm

theorem ok_spec_l5Note_15 (p0 : S_Note) (i15_0 : Int) (y : (Int) ⊕ ((Bool) ⊕ ((Unit)))) (hm : m_spec_l5Note_15 p0 i15_0 = some y) (Q : VX → St → Prop)
    (hin : ∀ s, y = .inl s → EvU ext tbl (.c c_spec_l5Note_15) K_spec_l5Note_15 (s_spec_l5Note_15 p0 s) Q) (hout : ∀ e, y = .inr e → O_spec_l5Note_15 p0 Q e) : EvU ext tbl (.c c_spec_l5Note_15) K_spec_l5Note_15 (s_spec_l5Note_15 p0 i15_0) Q := by
  obtain ⟨h15_0, hm⟩ | ⟨h15_0, hm⟩ := split_ite hm
  · skip
    obtain ⟨x15_1, h15_1, hm⟩ := bind_some hm
    obtain ⟨h15_2, hm⟩ | ⟨h15_2, hm⟩ := split_ite hm
    · skip
      have hQ : Q = Post vf_spec_l5Note (res_spec_l5Note false) := hout (.inl false) (Option.some.inj hm).symm
      subst hQ
      exact go_end [.bit true, .int x15_1, .bit true, .bit true, .bit true, .bit true, .bit true, .bit true, .bit true] 1000 (And.intro h15_0 (And.intro (sat_nn h15_1) (And.intro (sat_at h15_1) (And.intro h15_2 (And.intro h15_2 (And.intro h15_2 (And.intro h15_2 (And.intro h15_2 (And.intro h15_2 (And.intro (Eq.refl true) True.intro)))))))))) (rfl : res_spec_l5Note false = res_spec_l5Note false) (by kernel_rfl)
    · skip
      obtain ⟨h15_3, hm⟩ | ⟨h15_3, hm⟩ := split_ite hm
      · skip
        have hQ : Q = Post vf_spec_l5Note (res_spec_l5Note false) := hout (.inl false) (Option.some.inj hm).symm
        subst hQ
        exact go_end [.bit true, .int x15_1, .bit false, .bit false, .bit false, .bit false, .int x15_1, .bit false, .bit false, .bit true] 1000 (And.intro h15_0 (And.intro (sat_nn h15_1) (And.intro (sat_at h15_1) (And.intro h15_2 (And.intro h15_2 (And.intro h15_2 (And.intro h15_2 (And.intro (sat_nn h15_1) (And.intro (sat_at h15_1) (And.intro h15_2 (And.intro h15_2 (And.intro h15_3 True.intro)))))))))))) (rfl : res_spec_l5Note false = res_spec_l5Note false) (by kernel_rfl)
      · skip
        refine go_on (u' := .c c_spec_l5Note_15) (K' := K_spec_l5Note_15) (st' := s_spec_l5Note_15 p0 (w64 (i15_0 + 1))) [.bit true, .int x15_1, .bit false, .bit false, .bit false, .bit false, .int x15_1, .bit false, .bit false, .bit false] 1000 (And.intro h15_0 (And.intro (sat_nn h15_1) (And.intro (sat_at h15_1) (And.intro h15_2 (And.intro h15_2 (And.intro h15_2 (And.intro h15_2 (And.intro (sat_nn h15_1) (And.intro (sat_at h15_1) (And.intro h15_2 (And.intro h15_2 (And.intro h15_3 True.intro)))))))))))) ?_ (by kernel_rfl)
        exact hin (w64 (i15_0 + 1)) (Option.some.inj hm).symm
  · skip
    refine go_on (u' := .c c_spec_l5Note_31) (K' := K_spec_l5Note_31) (st' := s_spec_l5Note_31 p0) [.bit false] 1000 (And.intro h15_0 True.intro) ?_ (by kernel_rfl)
    exact hout (.inr ()) (Option.some.inj hm).symm

theorem ok_spec_l5Note_0 (p0 : S_Note) (r : Bool) (hm : m_spec_l5Note_0 p0 = some r) : EvU ext tbl (.c c_spec_l5Note_0) K_spec_l5Note_0 (s_spec_l5Note_0 p0) (Post vf_spec_l5Note (res_spec_l5Note r)) := by
  obtain ⟨h0_0, hm⟩ | ⟨h0_0, hm⟩ := split_ite hm
  · skip
    exact go_end [.bit true, .bit true, .bit true, .bit true, .bit true, .bit true, .bit true, .bit true, .bit true, .bit true, .bit true] 1000 (And.intro h0_0 (And.intro h0_0 (And.intro h0_0 (And.intro h0_0 (And.intro h0_0 (And.intro (Eq.refl true) (And.intro (Eq.refl true) (And.intro (Eq.refl true) (And.intro (Eq.refl true) (And.intro (Eq.refl true) (And.intro (Eq.refl true) True.intro))))))))))) (congrArg res_spec_l5Note (Option.some.inj hm)) (by kernel_rfl)
  · skip
    obtain ⟨h0_1, hm⟩ | ⟨h0_1, hm⟩ := split_ite hm
    · skip
      exact go_end [.bit false, .bit false, .bit false, .bit false, .bit false, .bit true, .bit true, .bit true, .bit true, .bit true, .bit true] 1000 (And.intro h0_0 (And.intro h0_0 (And.intro h0_0 (And.intro h0_0 (And.intro h0_0 (And.intro h0_1 (And.intro h0_1 (And.intro h0_1 (And.intro h0_1 (And.intro h0_1 (And.intro (Eq.refl true) True.intro))))))))))) (congrArg res_spec_l5Note (Option.some.inj hm)) (by kernel_rfl)
    · skip
      obtain ⟨h0_2, hm⟩ | ⟨h0_2, hm⟩ := split_ite hm
      · skip
        exact go_end [.bit false, .bit false, .bit false, .bit false, .bit false, .bit false, .bit false, .bit false, .bit false, .bit false, .bit true] 1000 (And.intro h0_0 (And.intro h0_0 (And.intro h0_0 (And.intro h0_0 (And.intro h0_0 (And.intro h0_1 (And.intro h0_1 (And.intro h0_1 (And.intro h0_1 (And.intro h0_1 (And.intro h0_2 True.intro))))))))))) (congrArg res_spec_l5Note (Option.some.inj hm)) (by kernel_rfl)
      · skip
        refine go_on (u' := .c c_spec_l5Note_15) (K' := K_spec_l5Note_15) (st' := s_spec_l5Note_15 p0 0) [.bit false, .bit false, .bit false, .bit false, .bit false, .bit false, .bit false, .bit false, .bit false, .bit false, .bit false] 1000 (And.intro h0_0 (And.intro h0_0 (And.intro h0_0 (And.intro h0_0 (And.intro h0_0 (And.intro h0_1 (And.intro h0_1 (And.intro h0_1 (And.intro h0_1 (And.intro h0_1 (And.intro h0_2 True.intro))))))))))) ?_ (by kernel_rfl)
        obtain ⟨e, he, hm⟩ := bind_some hm
        refine loop_rule (u := .c c_spec_l5Note_15) (K := K_spec_l5Note_15) (Q := (Post vf_spec_l5Note (res_spec_l5Note r))) (b := lp_spec_l5Note_15 p0) (We := O_spec_l5Note_15 p0 (Post vf_spec_l5Note (res_spec_l5Note r))) (stJ := fun s => s_spec_l5Note_15 p0 s) (s := 0) (fun s y hb hin hout => ok_spec_l5Note_15 p0 s y hb (Post vf_spec_l5Note (res_spec_l5Note r)) hin hout) he ?_
        rcases e with e | e
        · skip
          exact congrArg (fun r => Post vf_spec_l5Note (res_spec_l5Note r)) (Option.some.inj hm).symm
        · skip
          show EvU ext tbl (.c c_spec_l5Note_31) K_spec_l5Note_31 (s_spec_l5Note_31 p0) _
          exact ok_spec_l5Note_31 p0 r hm

theorem ok_spec_l5Note (p0 : S_Note) (r : Bool) (hm : m_spec_l5Note p0 = some r) : Runs ext tbl 99 (as_spec_l5Note p0) (res_spec_l5Note r) :=
  runs_of (vf := vf_spec_l5Note) (by kernel_rfl) rfl (st := (enter vf_spec_l5Note (as_spec_l5Note p0)).getD default) (by kernel_rfl) (go_on [] 1000 True.intro (ok_spec_l5Note_0 p0 r hm) (by kernel_rfl))
theorem ok_spec_l4Count_0 (p0 : Int) (p1 : Int) (p2 : Int) (r : Int) (hm : m_spec_l4Count_0 p0 p1 p2 = some r) : EvU ext tbl (.c c_spec_l4Count_0) K_spec_l4Count_0 (s_spec_l4Count_0 p0 p1 p2) (Post vf_spec_l4Count (res_spec_l4Count r)) := by
  obtain ⟨h0_0, hm⟩ | ⟨h0_0, hm⟩ := split_ite hm
  · skip
    exact go_end [.bit true] 1000 (And.intro h0_0 True.intro) (congrArg res_spec_l4Count (Option.some.inj hm)) (by kernel_rfl)
  · skip
    obtain ⟨x0_1, h0_1, hm⟩ := bind_some hm
    exact go_end [.bit false] 1000 (And.intro h0_0 (And.intro (ck_p h0_1) True.intro)) (congrArg res_spec_l4Count (Option.some.inj hm)) (by kernel_rfl)

theorem ok_spec_l4Count (p0 : Int) (p1 : Int) (p2 : Int) (r : Int) (hm : m_spec_l4Count p0 p1 p2 = some r) : Runs ext tbl 236 (as_spec_l4Count p0 p1 p2) (res_spec_l4Count r) :=
  runs_of (vf := vf_spec_l4Count) (by kernel_rfl) rfl (st := (enter vf_spec_l4Count (as_spec_l4Count p0 p1 p2)).getD default) (by kernel_rfl) (go_on [] 1000 True.intro (ok_spec_l4Count_0 p0 p1 p2 r hm) (by kernel_rfl))
def O_spec_l4Passes_11 (Q : VX → St → Prop) (e : ((List S_Pass))) : Prop := EvU ext tbl (.c c_spec_l4Passes_31) K_spec_l4Passes_31 (s_spec_l4Passes_31 e) Q
theorem ok_spec_l4Passes_27 (p0 : Int) (p1 : Int) (i11_0 : Int) (x11_1 : Int) (x11_2 : Int) (x11_3 : Int) (x11_4 : Int) (x11_5 : Int) (x11_6 : Int) (l11_1 : (List Int)) (l11_2 : (List S_Pass)) (b27_0 : Bool) (y : (Int × (List Int) × (List S_Pass)) ⊕ (((List S_Pass)))) (hm : m_spec_l4Passes_27 p0 p1 i11_0 x11_1 x11_2 x11_3 x11_4 x11_5 x11_6 l11_1 l11_2 b27_0 = some y) (Q : VX → St → Prop)
    (hin : ∀ s, y = .inl s → EvU ext tbl (.c c_spec_l4Passes_11) K_spec_l4Passes_11 (s_spec_l4Passes_11 p0 p1 s.1 s.2.1 s.2.2) Q) (hout : ∀ e, y = .inr e → O_spec_l4Passes_11 Q e) : EvU ext tbl (.c c_spec_l4Passes_27) K_spec_l4Passes_27 (s_spec_l4Passes_27 p0 p1 i11_0 x11_1 x11_2 x11_3 x11_4 x11_5 x11_6 l11_1 l11_2 b27_0) Q := by
  obtain ⟨h27_0, hm⟩ | ⟨h27_0, hm⟩ := split_ite hm
  · skip
    obtain ⟨x27_1, h27_1, hm⟩ := bind_some hm
    refine go_on (u' := .c c_spec_l4Passes_11) (K' := K_spec_l4Passes_11) (st' := s_spec_l4Passes_11 p0 p1 (w64 (i11_0 + 4)) l11_1 (l11_2 ++ ([(S_Pass.mk x11_1 x11_2 x11_3 x11_4 x11_5 x11_6)] : List S_Pass))) [.bit true, .rows (List.map rS_Pass ([(S_Pass.mk x11_1 x11_2 x11_3 x11_4 x11_5 x11_6)] : List S_Pass)), .num 1, .rows (List.map rS_Pass (l11_2 ++ ([(S_Pass.mk x11_1 x11_2 x11_3 x11_4 x11_5 x11_6)] : List S_Pass))), .num ((l11_2 ++ ([(S_Pass.mk x11_1 x11_2 x11_3 x11_4 x11_5 x11_6)] : List S_Pass)).length), .num l11_1.length, .num ((l11_2 ++ ([(S_Pass.mk x11_1 x11_2 x11_3 x11_4 x11_5 x11_6)] : List S_Pass)).length)] 1000 (And.intro h27_0 (And.intro (Eq.refl (List.map rS_Pass ([(S_Pass.mk x11_1 x11_2 x11_3 x11_4 x11_5 x11_6)] : List S_Pass))) (And.intro (len_map rS_Pass (show 1 = ([(S_Pass.mk x11_1 x11_2 x11_3 x11_4 x11_5 x11_6)] : List S_Pass).length from rfl)) (And.intro (all_le rS_Pass ([(S_Pass.mk x11_1 x11_2 x11_3 x11_4 x11_5 x11_6)] : List S_Pass) rfl) (And.intro (app_ck rS_Pass l11_2 ([(S_Pass.mk x11_1 x11_2 x11_3 x11_4 x11_5 x11_6)] : List S_Pass) rfl rfl h27_1) (And.intro (app_tell rS_Pass l11_2 ([(S_Pass.mk x11_1 x11_2 x11_3 x11_4 x11_5 x11_6)] : List S_Pass) rfl rfl) (And.intro (len_map rS_Pass (show (l11_2 ++ ([(S_Pass.mk x11_1 x11_2 x11_3 x11_4 x11_5 x11_6)] : List S_Pass)).length = (l11_2 ++ ([(S_Pass.mk x11_1 x11_2 x11_3 x11_4 x11_5 x11_6)] : List S_Pass)).length from rfl)) (And.intro (lens l11_1.length l11_1.length rfl) (And.intro (lens ((l11_2 ++ ([(S_Pass.mk x11_1 x11_2 x11_3 x11_4 x11_5 x11_6)] : List S_Pass)).length) ((l11_2 ++ ([(S_Pass.mk x11_1 x11_2 x11_3 x11_4 x11_5 x11_6)] : List S_Pass)).length) rfl) True.intro))))))))) ?_ (by kernel_rfl)
    exact hin ((w64 (i11_0 + 4)), l11_1, (l11_2 ++ ([(S_Pass.mk x11_1 x11_2 x11_3 x11_4 x11_5 x11_6)] : List S_Pass))) (Option.some.inj hm).symm
  · skip
    refine go_on (u' := .c c_spec_l4Passes_11) (K' := K_spec_l4Passes_11) (st' := s_spec_l4Passes_11 p0 p1 (w64 (i11_0 + 4)) l11_1 l11_2) [.bit false, .num l11_1.length, .num l11_2.length] 1000 (And.intro h27_0 (And.intro (lens l11_1.length l11_1.length rfl) (And.intro (lens l11_2.length l11_2.length rfl) True.intro))) ?_ (by kernel_rfl)
    exact hin ((w64 (i11_0 + 4)), l11_1, l11_2) (Option.some.inj hm).symm

theorem ok_spec_l4Passes_31 (l31_0 : (List S_Pass)) (r : (List S_Pass)) (hm : m_spec_l4Passes_31 l31_0 = some r) : EvU ext tbl (.c c_spec_l4Passes_31) K_spec_l4Passes_31 (s_spec_l4Passes_31 l31_0) (Post vf_spec_l4Passes (res_spec_l4Passes r)) := by
  exact go_end [.rows (List.map rS_Pass l31_0)] 1000 (And.intro (all_le0 rS_Pass l31_0 rfl) (And.intro (all_t rS_Pass l31_0 rfl) True.intro)) (congrArg res_spec_l4Passes (Option.some.inj hm)) (by kernel_rfl)

theorem ok_spec_l4Passes_11 (p0 : Int) (p1 : Int) (i11_0 : Int) (l11_1 : (List Int)) (l11_2 : (List S_Pass)) (y : (Int × (List Int) × (List S_Pass)) ⊕ (((List S_Pass)))) (hm : m_spec_l4Passes_11 p0 p1 i11_0 l11_1 l11_2 = some y) (Q : VX → St → Prop)
    (hin : ∀ s, y = .inl s → EvU ext tbl (.c c_spec_l4Passes_11) K_spec_l4Passes_11 (s_spec_l4Passes_11 p0 p1 s.1 s.2.1 s.2.2) Q) (hout : ∀ e, y = .inr e → O_spec_l4Passes_11 Q e) : EvU ext tbl (.c c_spec_l4Passes_11) K_spec_l4Passes_11 (s_spec_l4Passes_11 p0 p1 i11_0 l11_1 l11_2) Q := by
  obtain ⟨h11_0, hm⟩ | ⟨h11_0, hm⟩ := split_ite hm
  · skip
    obtain ⟨x11_1, h11_1, hm⟩ := bind_some hm
    obtain ⟨x11_2, h11_2, hm⟩ := bind_some hm
    obtain ⟨x11_3, h11_3, hm⟩ := bind_some hm
    obtain ⟨x11_4, h11_4, hm⟩ := bind_some hm
    obtain ⟨x11_5, h11_5, hm⟩ := bind_some hm
    obtain ⟨x11_6, h11_6, hm⟩ := bind_some hm
    obtain ⟨h11_7, hm⟩ | ⟨h11_7, hm⟩ := split_ite hm
    · skip
      refine go_on (u' := .c c_spec_l4Passes_27) (K' := K_spec_l4Passes_27) (st' := s_spec_l4Passes_27 p0 p1 i11_0 x11_1 x11_2 x11_3 x11_4 x11_5 x11_6 l11_1 l11_2 (decide (x11_6 > 0))) [.bit true, .row ((rI .i64) x11_1), .row ((rI .i64) x11_2), .row ((rI .i64) x11_3), .row ((rI .i64) x11_4), .res (res_spec_l4Count x11_5), .res (res_spec_l4Count x11_6), .bit true, .bit true, .bit true, .bit true, .num l11_1.length, .num l11_2.length] 1000 (And.intro h11_0 (And.intro (rd_in rfl h11_1) (And.intro (at_row (rI .i64) (rd_get0 h11_1)) (And.intro (rd_in rfl h11_2) (And.intro (at_row (rI .i64) (rd_get0 h11_2)) (And.intro (rd_in rfl h11_3) (And.intro (at_row (rI .i64) (rd_get0 h11_3)) (And.intro (rd_in rfl h11_4) (And.intro (at_row (rI .i64) (rd_get0 h11_4)) (And.intro (ok_spec_l4Count p0 x11_1 x11_3 x11_5 h11_5) (And.intro (ok_spec_l4Count p1 x11_2 x11_4 x11_6 h11_6) (And.intro h11_7 (And.intro h11_7 (And.intro h11_7 (And.intro h11_7 (And.intro (lens l11_1.length l11_1.length rfl) (And.intro (lens l11_2.length l11_2.length rfl) True.intro))))))))))))))))) ?_ (by kernel_rfl)
      exact ok_spec_l4Passes_27 p0 p1 i11_0 x11_1 x11_2 x11_3 x11_4 x11_5 x11_6 l11_1 l11_2 (decide (x11_6 > 0)) y hm Q hin hout
    · skip
      refine go_on (u' := .c c_spec_l4Passes_27) (K' := K_spec_l4Passes_27) (st' := s_spec_l4Passes_27 p0 p1 i11_0 x11_1 x11_2 x11_3 x11_4 x11_5 x11_6 l11_1 l11_2 false) [.bit true, .row ((rI .i64) x11_1), .row ((rI .i64) x11_2), .row ((rI .i64) x11_3), .row ((rI .i64) x11_4), .res (res_spec_l4Count x11_5), .res (res_spec_l4Count x11_6), .bit false, .bit false, .bit false, .bit false, .num l11_1.length, .num l11_2.length] 1000 (And.intro h11_0 (And.intro (rd_in rfl h11_1) (And.intro (at_row (rI .i64) (rd_get0 h11_1)) (And.intro (rd_in rfl h11_2) (And.intro (at_row (rI .i64) (rd_get0 h11_2)) (And.intro (rd_in rfl h11_3) (And.intro (at_row (rI .i64) (rd_get0 h11_3)) (And.intro (rd_in rfl h11_4) (And.intro (at_row (rI .i64) (rd_get0 h11_4)) (And.intro (ok_spec_l4Count p0 x11_1 x11_3 x11_5 h11_5) (And.intro (ok_spec_l4Count p1 x11_2 x11_4 x11_6 h11_6) (And.intro h11_7 (And.intro h11_7 (And.intro h11_7 (And.intro h11_7 (And.intro (lens l11_1.length l11_1.length rfl) (And.intro (lens l11_2.length l11_2.length rfl) True.intro))))))))))))))))) ?_ (by kernel_rfl)
      exact ok_spec_l4Passes_27 p0 p1 i11_0 x11_1 x11_2 x11_3 x11_4 x11_5 x11_6 l11_1 l11_2 false y hm Q hin hout
  · skip
    refine go_on (u' := .c c_spec_l4Passes_31) (K' := K_spec_l4Passes_31) (st' := s_spec_l4Passes_31 l11_2) [.bit false, .num l11_2.length] 1000 (And.intro h11_0 (And.intro (lens l11_2.length l11_2.length rfl) True.intro)) ?_ (by kernel_rfl)
    exact hout l11_2 (Option.some.inj hm).symm

theorem ok_spec_l4Passes_0 (p0 : Int) (p1 : Int) (r : (List S_Pass)) (hm : m_spec_l4Passes_0 p0 p1 = some r) : EvU ext tbl (.c c_spec_l4Passes_0) K_spec_l4Passes_0 (s_spec_l4Passes_0 p0 p1) (Post vf_spec_l4Passes (res_spec_l4Passes r)) := by
  refine go_on (u' := .c c_spec_l4Passes_11) (K' := K_spec_l4Passes_11) (st' := s_spec_l4Passes_11 p0 p1 0 ([0, 0, 8, 8, 4, 0, 8, 8, 0, 4, 4, 8, 2, 0, 4, 4, 0, 2, 2, 4, 1, 0, 2, 2, 0, 1, 1, 2] : List Int) ([] : List S_Pass)) [.rows (List.map (rI .i64) ([0, 0, 8, 8, 4, 0, 8, 8, 0, 4, 4, 8, 2, 0, 4, 4, 0, 2, 2, 4, 1, 0, 2, 2, 0, 1, 1, 2] : List Int)), .num 28, .num (([0, 0, 8, 8, 4, 0, 8, 8, 0, 4, 4, 8, 2, 0, 4, 4, 0, 2, 2, 4, 1, 0, 2, 2, 0, 1, 1, 2] : List Int).length), .num (([] : List S_Pass).length)] 1000 (And.intro (Eq.refl (List.map (rI .i64) ([0, 0, 8, 8, 4, 0, 8, 8, 0, 4, 4, 8, 2, 0, 4, 4, 0, 2, 2, 4, 1, 0, 2, 2, 0, 1, 1, 2] : List Int))) (And.intro (len_map (rI .i64) (show 28 = ([0, 0, 8, 8, 4, 0, 8, 8, 0, 4, 4, 8, 2, 0, 4, 4, 0, 2, 2, 4, 1, 0, 2, 2, 0, 1, 1, 2] : List Int).length from rfl)) (And.intro (lens 28 (([0, 0, 8, 8, 4, 0, 8, 8, 0, 4, 4, 8, 2, 0, 4, 4, 0, 2, 2, 4, 1, 0, 2, 2, 0, 1, 1, 2] : List Int).length) rfl) (And.intro (lens 0 (([] : List S_Pass).length) rfl) True.intro)))) ?_ (by kernel_rfl)
  obtain ⟨e, he, hm⟩ := bind_some hm
  refine loop_rule (u := .c c_spec_l4Passes_11) (K := K_spec_l4Passes_11) (Q := (Post vf_spec_l4Passes (res_spec_l4Passes r))) (b := lp_spec_l4Passes_11 p0 p1) (We := O_spec_l4Passes_11 (Post vf_spec_l4Passes (res_spec_l4Passes r))) (stJ := fun s => s_spec_l4Passes_11 p0 p1 s.1 s.2.1 s.2.2) (s := (0, ([0, 0, 8, 8, 4, 0, 8, 8, 0, 4, 4, 8, 2, 0, 4, 4, 0, 2, 2, 4, 1, 0, 2, 2, 0, 1, 1, 2] : List Int), ([] : List S_Pass))) (fun s y hb hin hout => ok_spec_l4Passes_11 p0 p1 s.1 s.2.1 s.2.2 y hb (Post vf_spec_l4Passes (res_spec_l4Passes r)) hin hout) he ?_
  show EvU ext tbl (.c c_spec_l4Passes_31) K_spec_l4Passes_31 (s_spec_l4Passes_31 e) _
  exact ok_spec_l4Passes_31 e r hm

theorem ok_spec_l4Passes (p0 : Int) (p1 : Int) (r : (List S_Pass)) (hm : m_spec_l4Passes p0 p1 = some r) : Runs ext tbl 213 (as_spec_l4Passes p0 p1) (res_spec_l4Passes r) :=
  runs_of (vf := vf_spec_l4Passes) (by kernel_rfl) rfl (st := (enter vf_spec_l4Passes (as_spec_l4Passes p0 p1)).getD default) (by kernel_rfl) (go_on [] 1000 True.intro (ok_spec_l4Passes_0 p0 p1 r hm) (by kernel_rfl))
def O_spec_l5Sizes_17 (Q : VX → St → Prop) (e : ((List S_Image))) : Prop := EvU ext tbl (.c c_spec_l5Sizes_29) K_spec_l5Sizes_29 (s_spec_l5Sizes_29 e) Q
theorem ok_spec_l5Sizes_29 (l29_0 : (List S_Image)) (r : (List S_Image)) (hm : m_spec_l5Sizes_29 l29_0 = some r) : EvU ext tbl (.c c_spec_l5Sizes_29) K_spec_l5Sizes_29 (s_spec_l5Sizes_29 l29_0) (Post vf_spec_l5Sizes (res_spec_l5Sizes r)) := by
  exact go_end [.rows (List.map rS_Image l29_0)] 1000 (And.intro (all_le0 rS_Image l29_0 rfl) (And.intro (all_t rS_Image l29_0 rfl) True.intro)) (congrArg res_spec_l5Sizes (Option.some.inj hm)) (by kernel_rfl)

theorem ok_spec_l5Sizes_17 (x0_1 : (List S_Pass)) (p0 : S_Image) (i17_0 : Int) (l17_1 : (List S_Image)) (y : (Int × (List S_Image)) ⊕ (((List S_Image)))) (hm : m_spec_l5Sizes_17 x0_1 p0 i17_0 l17_1 = some y) (Q : VX → St → Prop)
    (hin : ∀ s, y = .inl s → EvU ext tbl (.c c_spec_l5Sizes_17) K_spec_l5Sizes_17 (s_spec_l5Sizes_17 x0_1 p0 s.1 s.2) Q) (hout : ∀ e, y = .inr e → O_spec_l5Sizes_17 Q e) : EvU ext tbl (.c c_spec_l5Sizes_17) K_spec_l5Sizes_17 (s_spec_l5Sizes_17 x0_1 p0 i17_0 l17_1) Q := by
  obtain ⟨h17_0, hm⟩ | ⟨h17_0, hm⟩ := split_ite hm
  · skip
    obtain ⟨x17_1, h17_1, hm⟩ := bind_some hm
    obtain ⟨x17_2, h17_2, hm⟩ := bind_some hm
    refine go_on (u' := .c c_spec_l5Sizes_17) (K' := K_spec_l5Sizes_17) (st' := s_spec_l5Sizes_17 x0_1 p0 (w64 (i17_0 + 1)) (l17_1 ++ ([(S_Image.mk x17_1.width x17_1.height p0.planes p0.depth ([] : List Int))] : List S_Image))) [.bit true, .row (rS_Pass x17_1), .rows (List.map (rI .i64) ([] : List Int)), .rows (List.map rS_Image ([(S_Image.mk x17_1.width x17_1.height p0.planes p0.depth ([] : List Int))] : List S_Image)), .num 1, .rows (List.map rS_Image (l17_1 ++ ([(S_Image.mk x17_1.width x17_1.height p0.planes p0.depth ([] : List Int))] : List S_Image))), .num ((l17_1 ++ ([(S_Image.mk x17_1.width x17_1.height p0.planes p0.depth ([] : List Int))] : List S_Image)).length), .num ((l17_1 ++ ([(S_Image.mk x17_1.width x17_1.height p0.planes p0.depth ([] : List Int))] : List S_Image)).length), .num x0_1.length] 1000 (And.intro h17_0 (And.intro (rd_in rfl h17_1) (And.intro (at_row rS_Pass (rd_get0 h17_1)) (And.intro (all_le0 (rI .i64) ([] : List Int) rfl) (And.intro (all_t (rI .i64) ([] : List Int) rfl) (And.intro (Eq.refl (List.map rS_Image ([(S_Image.mk x17_1.width x17_1.height p0.planes p0.depth ([] : List Int))] : List S_Image))) (And.intro (len_map rS_Image (show 1 = ([(S_Image.mk x17_1.width x17_1.height p0.planes p0.depth ([] : List Int))] : List S_Image).length from rfl)) (And.intro (all_eq rS_Image ([(S_Image.mk x17_1.width x17_1.height p0.planes p0.depth ([] : List Int))] : List S_Image) rfl) (And.intro (all_le rS_Image ([(S_Image.mk x17_1.width x17_1.height p0.planes p0.depth ([] : List Int))] : List S_Image) rfl) (And.intro (app_ck_ro rS_Image l17_1 ([(S_Image.mk x17_1.width x17_1.height p0.planes p0.depth ([] : List Int))] : List S_Image) rfl h17_2) (And.intro (app_tell_ro rS_Image l17_1 ([(S_Image.mk x17_1.width x17_1.height p0.planes p0.depth ([] : List Int))] : List S_Image) rfl) (And.intro (len_map rS_Image (show (l17_1 ++ ([(S_Image.mk x17_1.width x17_1.height p0.planes p0.depth ([] : List Int))] : List S_Image)).length = (l17_1 ++ ([(S_Image.mk x17_1.width x17_1.height p0.planes p0.depth ([] : List Int))] : List S_Image)).length from rfl)) (And.intro (lens ((l17_1 ++ ([(S_Image.mk x17_1.width x17_1.height p0.planes p0.depth ([] : List Int))] : List S_Image)).length) ((l17_1 ++ ([(S_Image.mk x17_1.width x17_1.height p0.planes p0.depth ([] : List Int))] : List S_Image)).length) rfl) (And.intro (lens x0_1.length x0_1.length rfl) True.intro)))))))))))))) ?_ (by kernel_rfl)
    exact hin ((w64 (i17_0 + 1)), (l17_1 ++ ([(S_Image.mk x17_1.width x17_1.height p0.planes p0.depth ([] : List Int))] : List S_Image))) (Option.some.inj hm).symm
  · skip
    refine go_on (u' := .c c_spec_l5Sizes_29) (K' := K_spec_l5Sizes_29) (st' := s_spec_l5Sizes_29 l17_1) [.bit false, .num l17_1.length] 1000 (And.intro h17_0 (And.intro (lens l17_1.length l17_1.length rfl) True.intro)) ?_ (by kernel_rfl)
    exact hout l17_1 (Option.some.inj hm).symm

theorem ok_spec_l5Sizes_0 (p0 : S_Image) (p1 : Bool) (r : (List S_Image)) (hm : m_spec_l5Sizes_0 p0 p1 = some r) : EvU ext tbl (.c c_spec_l5Sizes_0) K_spec_l5Sizes_0 (s_spec_l5Sizes_0 p0 p1) (Post vf_spec_l5Sizes (res_spec_l5Sizes r)) := by
  obtain ⟨h0_0, hm⟩ | ⟨h0_0, hm⟩ := split_ite hm
  · skip
    obtain ⟨x0_1, h0_1, hm⟩ := bind_some hm
    refine go_on (u' := .c c_spec_l5Sizes_17) (K' := K_spec_l5Sizes_17) (st' := s_spec_l5Sizes_17 x0_1 p0 0 ([] : List S_Image)) [.bit false, .res (res_spec_l4Passes x0_1), .num x0_1.length, .num (([] : List S_Image).length), .num x0_1.length] 1000 (And.intro (not_f h0_0) (And.intro (ok_spec_l4Passes p0.width p0.height x0_1 h0_1) (And.intro (len_map rS_Pass (show x0_1.length = x0_1.length from rfl)) (And.intro (lens 0 (([] : List S_Image).length) rfl) (And.intro (lens x0_1.length x0_1.length rfl) True.intro))))) ?_ (by kernel_rfl)
    obtain ⟨e, he, hm⟩ := bind_some hm
    refine loop_rule (u := .c c_spec_l5Sizes_17) (K := K_spec_l5Sizes_17) (Q := (Post vf_spec_l5Sizes (res_spec_l5Sizes r))) (b := lp_spec_l5Sizes_17 x0_1 p0) (We := O_spec_l5Sizes_17 (Post vf_spec_l5Sizes (res_spec_l5Sizes r))) (stJ := fun s => s_spec_l5Sizes_17 x0_1 p0 s.1 s.2) (s := (0, ([] : List S_Image))) (fun s y hb hin hout => ok_spec_l5Sizes_17 x0_1 p0 s.1 s.2 y hb (Post vf_spec_l5Sizes (res_spec_l5Sizes r)) hin hout) he ?_
    show EvU ext tbl (.c c_spec_l5Sizes_29) K_spec_l5Sizes_29 (s_spec_l5Sizes_29 e) _
    exact ok_spec_l5Sizes_29 e r hm
  · skip
    exact go_end [.bit true, .rows (List.map (rI .i64) ([] : List Int)), .rows (List.map rS_Image ([(S_Image.mk p0.width p0.height p0.planes p0.depth ([] : List Int))] : List S_Image)), .num 1, .rows (List.map rS_Image ([(S_Image.mk p0.width p0.height p0.planes p0.depth ([] : List Int))] : List S_Image))] 1000 (And.intro (not_t h0_0) (And.intro (all_le0 (rI .i64) ([] : List Int) rfl) (And.intro (all_t (rI .i64) ([] : List Int) rfl) (And.intro (Eq.refl (List.map rS_Image ([(S_Image.mk p0.width p0.height p0.planes p0.depth ([] : List Int))] : List S_Image))) (And.intro (len_map rS_Image (show 1 = ([(S_Image.mk p0.width p0.height p0.planes p0.depth ([] : List Int))] : List S_Image).length from rfl)) (And.intro (all_le0 rS_Image ([(S_Image.mk p0.width p0.height p0.planes p0.depth ([] : List Int))] : List S_Image) rfl) (And.intro (all_t rS_Image ([(S_Image.mk p0.width p0.height p0.planes p0.depth ([] : List Int))] : List S_Image) rfl) True.intro))))))) (congrArg res_spec_l5Sizes (Option.some.inj hm)) (by kernel_rfl)

theorem ok_spec_l5Sizes (p0 : S_Image) (p1 : Bool) (r : (List S_Image)) (hm : m_spec_l5Sizes p0 p1 = some r) : Runs ext tbl 165 (as_spec_l5Sizes p0 p1) (res_spec_l5Sizes r) :=
  runs_of (vf := vf_spec_l5Sizes) (by kernel_rfl) rfl (st := (enter vf_spec_l5Sizes (as_spec_l5Sizes p0 p1)).getD default) (by kernel_rfl) (go_on [] 1000 True.intro (ok_spec_l5Sizes_0 p0 p1 r hm) (by kernel_rfl))
theorem ok_spec_l5RowBytes_0 (p0 : S_Image) (r : Int) (hm : m_spec_l5RowBytes_0 p0 = some r) : EvU ext tbl (.c c_spec_l5RowBytes_0) K_spec_l5RowBytes_0 (s_spec_l5RowBytes_0 p0) (Post vf_spec_l5RowBytes (res_spec_l5RowBytes r)) := by
  exact go_end [] 1000 (And.intro (by decide : (8 : Int) ≠ 0) True.intro) (congrArg res_spec_l5RowBytes (Option.some.inj hm)) (by kernel_rfl)

theorem ok_spec_l5RowBytes (p0 : S_Image) (r : Int) (hm : m_spec_l5RowBytes p0 = some r) : Runs ext tbl 166 (as_spec_l5RowBytes p0) (res_spec_l5RowBytes r) :=
  runs_of (vf := vf_spec_l5RowBytes) (by kernel_rfl) rfl (st := (enter vf_spec_l5RowBytes (as_spec_l5RowBytes p0)).getD default) (by kernel_rfl) (go_on [] 1000 True.intro (ok_spec_l5RowBytes_0 p0 r hm) (by kernel_rfl))
def O_spec_l5Total_9 (Q : VX → St → Prop) (e : (Int)) : Prop := EvU ext tbl (.c c_spec_l5Total_21) K_spec_l5Total_21 (s_spec_l5Total_21 e) Q
theorem ok_spec_l5Total_21 (i21_0 : Int) (r : Int) (hm : m_spec_l5Total_21 i21_0 = some r) : EvU ext tbl (.c c_spec_l5Total_21) K_spec_l5Total_21 (s_spec_l5Total_21 i21_0) (Post vf_spec_l5Total (res_spec_l5Total r)) := by
  exact go_end [] 1000 True.intro (congrArg res_spec_l5Total (Option.some.inj hm)) (by kernel_rfl)

theorem ok_spec_l5Total_9 (x0_0 : (List S_Image)) (i9_0 : Int) (i9_1 : Int) (y : (Int × Int) ⊕ ((Int))) (hm : m_spec_l5Total_9 x0_0 i9_0 i9_1 = some y) (Q : VX → St → Prop)
    (hin : ∀ s, y = .inl s → EvU ext tbl (.c c_spec_l5Total_9) K_spec_l5Total_9 (s_spec_l5Total_9 x0_0 s.1 s.2) Q) (hout : ∀ e, y = .inr e → O_spec_l5Total_9 Q e) : EvU ext tbl (.c c_spec_l5Total_9) K_spec_l5Total_9 (s_spec_l5Total_9 x0_0 i9_0 i9_1) Q := by
  obtain ⟨h9_0, hm⟩ | ⟨h9_0, hm⟩ := split_ite hm
  · skip
    obtain ⟨x9_1, h9_1, hm⟩ := bind_some hm
    obtain ⟨x9_2, h9_2, hm⟩ := bind_some hm
    refine go_on (u' := .c c_spec_l5Total_9) (K' := K_spec_l5Total_9) (st' := s_spec_l5Total_9 x0_0 (w64 (i9_0 + (w64 (x9_1.height * (w64 (1 + x9_2)))))) (w64 (i9_1 + 1))) [.bit true, .row (rS_Image x9_1), .num x9_1.samples.length, .row (rS_Image x9_1), .rows (List.map (rI .i64) x9_1.samples), .res (res_spec_l5RowBytes x9_2), .num x0_0.length] 1000 (And.intro h9_0 (And.intro (rd_in rfl h9_1) (And.intro (at_row rS_Image (rd_get0 h9_1)) (And.intro (len_map (rI .i64) (show x9_1.samples.length = x9_1.samples.length from rfl)) (And.intro (at_row rS_Image (rd_get0 h9_1)) (And.intro (all_le (rI .i64) x9_1.samples rfl) (And.intro (all_dt (rI .i64) x9_1.samples rfl) (And.intro (ok_spec_l5RowBytes x9_1 x9_2 h9_2) (And.intro (lens x0_0.length x0_0.length rfl) True.intro))))))))) ?_ (by kernel_rfl)
    exact hin ((w64 (i9_0 + (w64 (x9_1.height * (w64 (1 + x9_2)))))), (w64 (i9_1 + 1))) (Option.some.inj hm).symm
  · skip
    refine go_on (u' := .c c_spec_l5Total_21) (K' := K_spec_l5Total_21) (st' := s_spec_l5Total_21 i9_0) [.bit false] 1000 (And.intro h9_0 True.intro) ?_ (by kernel_rfl)
    exact hout i9_0 (Option.some.inj hm).symm

theorem ok_spec_l5Total_0 (p0 : S_Image) (p1 : Bool) (r : Int) (hm : m_spec_l5Total_0 p0 p1 = some r) : EvU ext tbl (.c c_spec_l5Total_0) K_spec_l5Total_0 (s_spec_l5Total_0 p0 p1) (Post vf_spec_l5Total (res_spec_l5Total r)) := by
  obtain ⟨x0_0, h0_0, hm⟩ := bind_some hm
  refine go_on (u' := .c c_spec_l5Total_9) (K' := K_spec_l5Total_9) (st' := s_spec_l5Total_9 x0_0 0 0) [.res (res_spec_l5Sizes x0_0), .num x0_0.length, .num x0_0.length] 1000 (And.intro (ok_spec_l5Sizes p0 p1 x0_0 h0_0) (And.intro (len_map rS_Image (show x0_0.length = x0_0.length from rfl)) (And.intro (lens x0_0.length x0_0.length rfl) True.intro))) ?_ (by kernel_rfl)
  obtain ⟨e, he, hm⟩ := bind_some hm
  refine loop_rule (u := .c c_spec_l5Total_9) (K := K_spec_l5Total_9) (Q := (Post vf_spec_l5Total (res_spec_l5Total r))) (b := lp_spec_l5Total_9 x0_0) (We := O_spec_l5Total_9 (Post vf_spec_l5Total (res_spec_l5Total r))) (stJ := fun s => s_spec_l5Total_9 x0_0 s.1 s.2) (s := (0, 0)) (fun s y hb hin hout => ok_spec_l5Total_9 x0_0 s.1 s.2 y hb (Post vf_spec_l5Total (res_spec_l5Total r)) hin hout) he ?_
  show EvU ext tbl (.c c_spec_l5Total_21) K_spec_l5Total_21 (s_spec_l5Total_21 e) _
  exact ok_spec_l5Total_21 e r hm

theorem ok_spec_l5Total (p0 : S_Image) (p1 : Bool) (r : Int) (hm : m_spec_l5Total p0 p1 = some r) : Runs ext tbl 100 (as_spec_l5Total p0 p1) (res_spec_l5Total r) :=
  runs_of (vf := vf_spec_l5Total) (by kernel_rfl) rfl (st := (enter vf_spec_l5Total (as_spec_l5Total p0 p1)).getD default) (by kernel_rfl) (go_on [] 1000 True.intro (ok_spec_l5Total_0 p0 p1 r hm) (by kernel_rfl))
def O_spec_GoodStill_50 (p0 : S_Still) (Q : VX → St → Prop) (e : (Bool) ⊕ ((Unit))) : Prop := match e with | .inl e => Q = Post vf_spec_GoodStill (res_spec_GoodStill e) | .inr e => EvU ext tbl (.c c_spec_GoodStill_68) K_spec_GoodStill_68 (s_spec_GoodStill_68 p0) Q
def O_spec_GoodStill_26 (p0 : S_Still) (Q : VX → St → Prop) (e : (Bool) ⊕ ((Unit))) : Prop := match e with | .inl e => Q = Post vf_spec_GoodStill (res_spec_GoodStill e) | .inr e => EvU ext tbl (.c c_spec_GoodStill_45) K_spec_GoodStill_45 (s_spec_GoodStill_45 p0) Q
theorem ok_spec_GoodStill_68 (p0 : S_Still) (r : Bool) (hm : m_spec_GoodStill_68 p0 = some r) : EvU ext tbl (.c c_spec_GoodStill_68) K_spec_GoodStill_68 (s_spec_GoodStill_68 p0) (Post vf_spec_GoodStill (res_spec_GoodStill r)) := by
  obtain ⟨x68_0, h68_0, hm⟩ := bind_some hm
  exact go_end [.res (res_spec_l5Total x68_0)] 1000 (And.intro (ok_spec_l5Total p0.image p0.woven x68_0 h68_0) True.intro) (congrArg res_spec_GoodStill (Option.some.inj hm)) (by kernel_rfl)

theorem ok_spec_GoodStill_50 (p0 : S_Still) (i50_0 : Int) (y : (Int) ⊕ ((Bool) ⊕ ((Unit)))) (hm : m_spec_GoodStill_50 p0 i50_0 = some y) (Q : VX → St → Prop)
    (hin : ∀ s, y = .inl s → EvU ext tbl (.c c_spec_GoodStill_50) K_spec_GoodStill_50 (s_spec_GoodStill_50 p0 s) Q) (hout : ∀ e, y = .inr e → O_spec_GoodStill_50 p0 Q e) : EvU ext tbl (.c c_spec_GoodStill_50) K_spec_GoodStill_50 (s_spec_GoodStill_50 p0 i50_0) Q := by
  obtain ⟨h50_0, hm⟩ | ⟨h50_0, hm⟩ := split_ite hm
  · skip
    obtain ⟨x50_1, h50_1, hm⟩ := bind_some hm
    obtain ⟨x50_2, h50_2, hm⟩ := bind_some hm
    obtain ⟨h50_3, hm⟩ | ⟨h50_3, hm⟩ := split_ite hm
    · skip
      refine go_on (u' := .c c_spec_GoodStill_50) (K' := K_spec_GoodStill_50) (st' := s_spec_GoodStill_50 p0 (w64 (i50_0 + 1))) [.bit true, .row (rS_Note x50_1), .res (res_spec_l5Note x50_2), .bit false] 1000 (And.intro h50_0 (And.intro (rd_nn h50_1) (And.intro (at_row rS_Note (rd_get h50_1)) (And.intro (ok_spec_l5Note x50_1 x50_2 h50_2) (And.intro (not_f h50_3) True.intro))))) ?_ (by kernel_rfl)
      exact hin (w64 (i50_0 + 1)) (Option.some.inj hm).symm
    · skip
      have hQ : Q = Post vf_spec_GoodStill (res_spec_GoodStill false) := hout (.inl false) (Option.some.inj hm).symm
      subst hQ
      exact go_end [.bit true, .row (rS_Note x50_1), .res (res_spec_l5Note x50_2), .bit true] 1000 (And.intro h50_0 (And.intro (rd_nn h50_1) (And.intro (at_row rS_Note (rd_get h50_1)) (And.intro (ok_spec_l5Note x50_1 x50_2 h50_2) (And.intro (not_t h50_3) True.intro))))) (rfl : res_spec_GoodStill false = res_spec_GoodStill false) (by kernel_rfl)
  · skip
    refine go_on (u' := .c c_spec_GoodStill_68) (K' := K_spec_GoodStill_68) (st' := s_spec_GoodStill_68 p0) [.bit false] 1000 (And.intro h50_0 True.intro) ?_ (by kernel_rfl)
    exact hout (.inr ()) (Option.some.inj hm).symm

theorem ok_spec_GoodStill_45 (p0 : S_Still) (r : Bool) (hm : m_spec_GoodStill_45 p0 = some r) : EvU ext tbl (.c c_spec_GoodStill_45) K_spec_GoodStill_45 (s_spec_GoodStill_45 p0) (Post vf_spec_GoodStill (res_spec_GoodStill r)) := by
  refine go_on (u' := .c c_spec_GoodStill_50) (K' := K_spec_GoodStill_50) (st' := s_spec_GoodStill_50 p0 0) [.num p0.notes.length] 1000 (And.intro (len_map rS_Note (show p0.notes.length = p0.notes.length from rfl)) True.intro) ?_ (by kernel_rfl)
  obtain ⟨e, he, hm⟩ := bind_some hm
  refine loop_rule (u := .c c_spec_GoodStill_50) (K := K_spec_GoodStill_50) (Q := (Post vf_spec_GoodStill (res_spec_GoodStill r))) (b := lp_spec_GoodStill_50 p0) (We := O_spec_GoodStill_50 p0 (Post vf_spec_GoodStill (res_spec_GoodStill r))) (stJ := fun s => s_spec_GoodStill_50 p0 s) (s := 0) (fun s y hb hin hout => ok_spec_GoodStill_50 p0 s y hb (Post vf_spec_GoodStill (res_spec_GoodStill r)) hin hout) he ?_
  rcases e with e | e
  · skip
    exact congrArg (fun r => Post vf_spec_GoodStill (res_spec_GoodStill r)) (Option.some.inj hm).symm
  · skip
    show EvU ext tbl (.c c_spec_GoodStill_68) K_spec_GoodStill_68 (s_spec_GoodStill_68 p0) _
    exact ok_spec_GoodStill_68 p0 r hm

theorem ok_spec_GoodStill_26 (p0 : S_Still) (i26_0 : Int) (y : (Int) ⊕ ((Bool) ⊕ ((Unit)))) (hm : m_spec_GoodStill_26 p0 i26_0 = some y) (Q : VX → St → Prop)
    (hin : ∀ s, y = .inl s → EvU ext tbl (.c c_spec_GoodStill_26) K_spec_GoodStill_26 (s_spec_GoodStill_26 p0 s) Q) (hout : ∀ e, y = .inr e → O_spec_GoodStill_26 p0 Q e) : EvU ext tbl (.c c_spec_GoodStill_26) K_spec_GoodStill_26 (s_spec_GoodStill_26 p0 i26_0) Q := by
  obtain ⟨h26_0, hm⟩ | ⟨h26_0, hm⟩ := split_ite hm
  · skip
    obtain ⟨x26_1, h26_1, hm⟩ := bind_some hm
    obtain ⟨h26_2, hm⟩ | ⟨h26_2, hm⟩ := split_ite hm
    · skip
      have hQ : Q = Post vf_spec_GoodStill (res_spec_GoodStill false) := hout (.inl false) (Option.some.inj hm).symm
      subst hQ
      exact go_end [.bit true, .row ((rI .i64) x26_1), .num p0.palette.length, .bit true] 1000 (And.intro h26_0 (And.intro (rd_nn h26_1) (And.intro (at_row (rI .i64) (rd_get h26_1)) (And.intro (len_map (rI .i64) (show p0.palette.length = p0.palette.length from rfl)) (And.intro h26_2 True.intro))))) (rfl : res_spec_GoodStill false = res_spec_GoodStill false) (by kernel_rfl)
    · skip
      refine go_on (u' := .c c_spec_GoodStill_26) (K' := K_spec_GoodStill_26) (st' := s_spec_GoodStill_26 p0 (w64 (i26_0 + 1))) [.bit true, .row ((rI .i64) x26_1), .num p0.palette.length, .bit false] 1000 (And.intro h26_0 (And.intro (rd_nn h26_1) (And.intro (at_row (rI .i64) (rd_get h26_1)) (And.intro (len_map (rI .i64) (show p0.palette.length = p0.palette.length from rfl)) (And.intro h26_2 True.intro))))) ?_ (by kernel_rfl)
      exact hin (w64 (i26_0 + 1)) (Option.some.inj hm).symm
  · skip
    refine go_on (u' := .c c_spec_GoodStill_45) (K' := K_spec_GoodStill_45) (st' := s_spec_GoodStill_45 p0) [.bit false] 1000 (And.intro h26_0 True.intro) ?_ (by kernel_rfl)
    exact hout (.inr ()) (Option.some.inj hm).symm

theorem ok_spec_GoodStill_0 (p0 : S_Still) (r : Bool) (hm : m_spec_GoodStill_0 p0 = some r) : EvU ext tbl (.c c_spec_GoodStill_0) K_spec_GoodStill_0 (s_spec_GoodStill_0 p0) (Post vf_spec_GoodStill (res_spec_GoodStill r)) := by
  obtain ⟨x0_0, h0_0, hm⟩ := bind_some hm
  obtain ⟨h0_1, hm⟩ | ⟨h0_1, hm⟩ := split_ite hm
  · skip
    obtain ⟨x0_2, h0_2, hm⟩ := bind_some hm
    obtain ⟨h0_3, hm⟩ | ⟨h0_3, hm⟩ := split_ite hm
    · skip
      obtain ⟨h0_4, hm⟩ | ⟨h0_4, hm⟩ := split_ite hm
      · skip
        exact go_end [.res (res_spec_GoodImage x0_0), .bit false, .bit false, .bit false, .res (res_spec_l5Colours x0_2), .bit false, .bit false, .bit false, .bit false, .bit false, .num p0.notes.length, .bit false, .bit false, .bit true] 1000 (And.intro (ok_spec_GoodImage p0.image x0_0 h0_0) (And.intro (not_f h0_1) (And.intro (not_f h0_1) (And.intro (not_f h0_1) (And.intro (ok_spec_l5Colours p0.palette x0_2 h0_2) (And.intro (not_f h0_1) (And.intro (not_f h0_1) (And.intro (not_f h0_3) (And.intro (not_f h0_3) (And.intro (not_f h0_3) (And.intro (len_map rS_Note (show p0.notes.length = p0.notes.length from rfl)) (And.intro (not_f h0_3) (And.intro (not_f h0_3) (And.intro h0_4 True.intro)))))))))))))) (congrArg res_spec_GoodStill (Option.some.inj hm)) (by kernel_rfl)
      · skip
        obtain ⟨h0_5, hm⟩ | ⟨h0_5, hm⟩ := split_ite hm
        · skip
          obtain ⟨h0_6, hm⟩ | ⟨h0_6, hm⟩ := split_ite hm
          · skip
            exact go_end [.res (res_spec_GoodImage x0_0), .bit false, .bit false, .bit false, .res (res_spec_l5Colours x0_2), .bit false, .bit false, .bit false, .bit false, .bit false, .num p0.notes.length, .bit false, .bit false, .bit false, .num p0.palette.length, .bit true, .bit true, .bit true, .bit true, .bit true, .bit true, .bit true] 1000 (And.intro (ok_spec_GoodImage p0.image x0_0 h0_0) (And.intro (not_f h0_1) (And.intro (not_f h0_1) (And.intro (not_f h0_1) (And.intro (ok_spec_l5Colours p0.palette x0_2 h0_2) (And.intro (not_f h0_1) (And.intro (not_f h0_1) (And.intro (not_f h0_3) (And.intro (not_f h0_3) (And.intro (not_f h0_3) (And.intro (len_map rS_Note (show p0.notes.length = p0.notes.length from rfl)) (And.intro (not_f h0_3) (And.intro (not_f h0_3) (And.intro h0_4 (And.intro (len_map (rI .i64) (show p0.palette.length = p0.palette.length from rfl)) (And.intro h0_5 (And.intro h0_6 (And.intro h0_6 (And.intro h0_6 (And.intro h0_6 (And.intro h0_6 (And.intro (Eq.refl true) True.intro)))))))))))))))))))))) (congrArg res_spec_GoodStill (Option.some.inj hm)) (by kernel_rfl)
          · skip
            obtain ⟨h0_7, hm⟩ | ⟨h0_7, hm⟩ := split_ite hm
            · skip
              exact go_end [.res (res_spec_GoodImage x0_0), .bit false, .bit false, .bit false, .res (res_spec_l5Colours x0_2), .bit false, .bit false, .bit false, .bit false, .bit false, .num p0.notes.length, .bit false, .bit false, .bit false, .num p0.palette.length, .bit true, .bit false, .bit false, .bit false, .bit false, .bit false, .bit true] 1000 (And.intro (ok_spec_GoodImage p0.image x0_0 h0_0) (And.intro (not_f h0_1) (And.intro (not_f h0_1) (And.intro (not_f h0_1) (And.intro (ok_spec_l5Colours p0.palette x0_2 h0_2) (And.intro (not_f h0_1) (And.intro (not_f h0_1) (And.intro (not_f h0_3) (And.intro (not_f h0_3) (And.intro (not_f h0_3) (And.intro (len_map rS_Note (show p0.notes.length = p0.notes.length from rfl)) (And.intro (not_f h0_3) (And.intro (not_f h0_3) (And.intro h0_4 (And.intro (len_map (rI .i64) (show p0.palette.length = p0.palette.length from rfl)) (And.intro h0_5 (And.intro h0_6 (And.intro h0_6 (And.intro h0_6 (And.intro h0_6 (And.intro h0_6 (And.intro h0_7 True.intro)))))))))))))))))))))) (congrArg res_spec_GoodStill (Option.some.inj hm)) (by kernel_rfl)
            · skip
              refine go_on (u' := .c c_spec_GoodStill_26) (K' := K_spec_GoodStill_26) (st' := s_spec_GoodStill_26 p0 0) [.res (res_spec_GoodImage x0_0), .bit false, .bit false, .bit false, .res (res_spec_l5Colours x0_2), .bit false, .bit false, .bit false, .bit false, .bit false, .num p0.notes.length, .bit false, .bit false, .bit false, .num p0.palette.length, .bit true, .bit false, .bit false, .bit false, .bit false, .bit false, .bit false, .num p0.image.samples.length] 1000 (And.intro (ok_spec_GoodImage p0.image x0_0 h0_0) (And.intro (not_f h0_1) (And.intro (not_f h0_1) (And.intro (not_f h0_1) (And.intro (ok_spec_l5Colours p0.palette x0_2 h0_2) (And.intro (not_f h0_1) (And.intro (not_f h0_1) (And.intro (not_f h0_3) (And.intro (not_f h0_3) (And.intro (not_f h0_3) (And.intro (len_map rS_Note (show p0.notes.length = p0.notes.length from rfl)) (And.intro (not_f h0_3) (And.intro (not_f h0_3) (And.intro h0_4 (And.intro (len_map (rI .i64) (show p0.palette.length = p0.palette.length from rfl)) (And.intro h0_5 (And.intro h0_6 (And.intro h0_6 (And.intro h0_6 (And.intro h0_6 (And.intro h0_6 (And.intro h0_7 (And.intro (len_map (rI .i64) (show p0.image.samples.length = p0.image.samples.length from rfl)) True.intro))))))))))))))))))))))) ?_ (by kernel_rfl)
              obtain ⟨e, he, hm⟩ := bind_some hm
              refine loop_rule (u := .c c_spec_GoodStill_26) (K := K_spec_GoodStill_26) (Q := (Post vf_spec_GoodStill (res_spec_GoodStill r))) (b := lp_spec_GoodStill_26 p0) (We := O_spec_GoodStill_26 p0 (Post vf_spec_GoodStill (res_spec_GoodStill r))) (stJ := fun s => s_spec_GoodStill_26 p0 s) (s := 0) (fun s y hb hin hout => ok_spec_GoodStill_26 p0 s y hb (Post vf_spec_GoodStill (res_spec_GoodStill r)) hin hout) he ?_
              rcases e with e | e
              · skip
                exact congrArg (fun r => Post vf_spec_GoodStill (res_spec_GoodStill r)) (Option.some.inj hm).symm
              · skip
                show EvU ext tbl (.c c_spec_GoodStill_45) K_spec_GoodStill_45 (s_spec_GoodStill_45 p0) _
                exact ok_spec_GoodStill_45 p0 r hm
        · skip
          refine go_on (u' := .c c_spec_GoodStill_45) (K' := K_spec_GoodStill_45) (st' := s_spec_GoodStill_45 p0) [.res (res_spec_GoodImage x0_0), .bit false, .bit false, .bit false, .res (res_spec_l5Colours x0_2), .bit false, .bit false, .bit false, .bit false, .bit false, .num p0.notes.length, .bit false, .bit false, .bit false, .num p0.palette.length, .bit false] 1000 (And.intro (ok_spec_GoodImage p0.image x0_0 h0_0) (And.intro (not_f h0_1) (And.intro (not_f h0_1) (And.intro (not_f h0_1) (And.intro (ok_spec_l5Colours p0.palette x0_2 h0_2) (And.intro (not_f h0_1) (And.intro (not_f h0_1) (And.intro (not_f h0_3) (And.intro (not_f h0_3) (And.intro (not_f h0_3) (And.intro (len_map rS_Note (show p0.notes.length = p0.notes.length from rfl)) (And.intro (not_f h0_3) (And.intro (not_f h0_3) (And.intro h0_4 (And.intro (len_map (rI .i64) (show p0.palette.length = p0.palette.length from rfl)) (And.intro h0_5 True.intro)))))))))))))))) ?_ (by kernel_rfl)
          exact ok_spec_GoodStill_45 p0 r hm
    · skip
      exact go_end [.res (res_spec_GoodImage x0_0), .bit false, .bit false, .bit false, .res (res_spec_l5Colours x0_2), .bit false, .bit false, .bit true, .bit true, .bit true, .bit true, .bit true, .bit true] 1000 (And.intro (ok_spec_GoodImage p0.image x0_0 h0_0) (And.intro (not_f h0_1) (And.intro (not_f h0_1) (And.intro (not_f h0_1) (And.intro (ok_spec_l5Colours p0.palette x0_2 h0_2) (And.intro (not_f h0_1) (And.intro (not_f h0_1) (And.intro (not_t h0_3) (And.intro (not_t h0_3) (And.intro (not_t h0_3) (And.intro (not_t h0_3) (And.intro (not_t h0_3) (And.intro (Eq.refl true) True.intro))))))))))))) (congrArg res_spec_GoodStill (Option.some.inj hm)) (by kernel_rfl)
  · skip
    exact go_end [.res (res_spec_GoodImage x0_0), .bit true, .bit true, .bit true, .bit true, .bit true, .bit true, .bit true, .bit true, .bit true, .bit true, .bit true] 1000 (And.intro (ok_spec_GoodImage p0.image x0_0 h0_0) (And.intro (not_t h0_1) (And.intro (not_t h0_1) (And.intro (not_t h0_1) (And.intro (not_t h0_1) (And.intro (not_t h0_1) (And.intro (Eq.refl true) (And.intro (Eq.refl true) (And.intro (Eq.refl true) (And.intro (Eq.refl true) (And.intro (Eq.refl true) (And.intro (Eq.refl true) True.intro)))))))))))) (congrArg res_spec_GoodStill (Option.some.inj hm)) (by kernel_rfl)

theorem ok_spec_GoodStill (p0 : S_Still) (r : Bool) (hm : m_spec_GoodStill p0 = some r) : Runs ext tbl 26 (as_spec_GoodStill p0) (res_spec_GoodStill r) :=
  runs_of (vf := vf_spec_GoodStill) (by kernel_rfl) rfl (st := (enter vf_spec_GoodStill (as_spec_GoodStill p0)).getD default) (by kernel_rfl) (go_on [] 1000 True.intro (ok_spec_GoodStill_0 p0 r hm) (by kernel_rfl))
def O_spec_Colours_33 (p0 : S_Still) (Q : VX → St → Prop) (e : ((List Int))) : Prop := EvU ext tbl (.c c_spec_Colours_47) K_spec_Colours_47 (s_spec_Colours_47 p0 e) Q
theorem ok_spec_Colours_47 (p0 : S_Still) (l47_0 : (List Int)) (r : S_Image) (hm : m_spec_Colours_47 p0 l47_0 = some r) : EvU ext tbl (.c c_spec_Colours_47) K_spec_Colours_47 (s_spec_Colours_47 p0 l47_0) (Post vf_spec_Colours (res_spec_Colours r)) := by
  exact go_end [.rows (List.map (rI .i64) l47_0)] 1000 (And.intro (all_le0 (rI .i64) l47_0 rfl) (And.intro (all_t (rI .i64) l47_0 rfl) True.intro)) (congrArg res_spec_Colours (Option.some.inj hm)) (by kernel_rfl)

theorem ok_spec_Colours_33 (p0 : S_Still) (i33_0 : Int) (l33_1 : (List Int)) (y : (Int × (List Int)) ⊕ (((List Int)))) (hm : m_spec_Colours_33 p0 i33_0 l33_1 = some y) (Q : VX → St → Prop)
    (hin : ∀ s, y = .inl s → EvU ext tbl (.c c_spec_Colours_33) K_spec_Colours_33 (s_spec_Colours_33 p0 s.1 s.2) Q) (hout : ∀ e, y = .inr e → O_spec_Colours_33 p0 Q e) : EvU ext tbl (.c c_spec_Colours_33) K_spec_Colours_33 (s_spec_Colours_33 p0 i33_0 l33_1) Q := by
  obtain ⟨h33_0, hm⟩ | ⟨h33_0, hm⟩ := split_ite hm
  · skip
    obtain ⟨x33_1, h33_1, hm⟩ := bind_some hm
    obtain ⟨x33_2, h33_2, hm⟩ := bind_some hm
    obtain ⟨x33_3, h33_3, hm⟩ := bind_some hm
    refine go_on (u' := .c c_spec_Colours_33) (K' := K_spec_Colours_33) (st' := s_spec_Colours_33 p0 (w64 (i33_0 + 1)) (l33_1 ++ ([(shrI .i64 x33_2 16), (andI .i64 (shrI .i64 x33_2 8) 255), (andI .i64 x33_2 255)] : List Int))) [.bit true, .row ((rI .i64) x33_1), .row ((rI .i64) x33_2), .rows (List.map (rI .i64) ([(shrI .i64 x33_2 16), (andI .i64 (shrI .i64 x33_2 8) 255), (andI .i64 x33_2 255)] : List Int)), .num 3, .rows (List.map (rI .i64) (l33_1 ++ ([(shrI .i64 x33_2 16), (andI .i64 (shrI .i64 x33_2 8) 255), (andI .i64 x33_2 255)] : List Int))), .num ((l33_1 ++ ([(shrI .i64 x33_2 16), (andI .i64 (shrI .i64 x33_2 8) 255), (andI .i64 x33_2 255)] : List Int)).length), .num (([] : List Int).length), .num ((l33_1 ++ ([(shrI .i64 x33_2 16), (andI .i64 (shrI .i64 x33_2 8) 255), (andI .i64 x33_2 255)] : List Int)).length)] 1000 (And.intro h33_0 (And.intro (rd_nn h33_1) (And.intro (at_row (rI .i64) (rd_get h33_1)) (And.intro (rd_nn h33_2) (And.intro (at_row (rI .i64) (rd_get h33_2)) (And.intro (by decide : (0 : Int) ≤ 16) (And.intro (by decide : (0 : Int) ≤ 8) (And.intro (Eq.refl (List.map (rI .i64) ([(shrI .i64 x33_2 16), (andI .i64 (shrI .i64 x33_2 8) 255), (andI .i64 x33_2 255)] : List Int))) (And.intro (len_map (rI .i64) (show 3 = ([(shrI .i64 x33_2 16), (andI .i64 (shrI .i64 x33_2 8) 255), (andI .i64 x33_2 255)] : List Int).length from rfl)) (And.intro (all_le (rI .i64) ([(shrI .i64 x33_2 16), (andI .i64 (shrI .i64 x33_2 8) 255), (andI .i64 x33_2 255)] : List Int) rfl) (And.intro (app_ck (rI .i64) l33_1 ([(shrI .i64 x33_2 16), (andI .i64 (shrI .i64 x33_2 8) 255), (andI .i64 x33_2 255)] : List Int) rfl rfl h33_3) (And.intro (app_tell (rI .i64) l33_1 ([(shrI .i64 x33_2 16), (andI .i64 (shrI .i64 x33_2 8) 255), (andI .i64 x33_2 255)] : List Int) rfl rfl) (And.intro (len_map (rI .i64) (show (l33_1 ++ ([(shrI .i64 x33_2 16), (andI .i64 (shrI .i64 x33_2 8) 255), (andI .i64 x33_2 255)] : List Int)).length = (l33_1 ++ ([(shrI .i64 x33_2 16), (andI .i64 (shrI .i64 x33_2 8) 255), (andI .i64 x33_2 255)] : List Int)).length from rfl)) (And.intro (lens (([] : List Int).length) (([] : List Int).length) rfl) (And.intro (lens ((l33_1 ++ ([(shrI .i64 x33_2 16), (andI .i64 (shrI .i64 x33_2 8) 255), (andI .i64 x33_2 255)] : List Int)).length) ((l33_1 ++ ([(shrI .i64 x33_2 16), (andI .i64 (shrI .i64 x33_2 8) 255), (andI .i64 x33_2 255)] : List Int)).length) rfl) True.intro))))))))))))))) ?_ (by kernel_rfl)
    exact hin ((w64 (i33_0 + 1)), (l33_1 ++ ([(shrI .i64 x33_2 16), (andI .i64 (shrI .i64 x33_2 8) 255), (andI .i64 x33_2 255)] : List Int))) (Option.some.inj hm).symm
  · skip
    refine go_on (u' := .c c_spec_Colours_47) (K' := K_spec_Colours_47) (st' := s_spec_Colours_47 p0 l33_1) [.bit false, .num (([] : List Int).length), .num l33_1.length] 1000 (And.intro h33_0 (And.intro (lens (([] : List Int).length) (([] : List Int).length) rfl) (And.intro (lens l33_1.length l33_1.length rfl) True.intro))) ?_ (by kernel_rfl)
    exact hout l33_1 (Option.some.inj hm).symm

theorem ok_spec_Colours_0 (p0 : S_Still) (r : S_Image) (hm : m_spec_Colours_0 p0 = some r) : EvU ext tbl (.c c_spec_Colours_0) K_spec_Colours_0 (s_spec_Colours_0 p0) (Post vf_spec_Colours (res_spec_Colours r)) := by
  obtain ⟨x0_0, h0_0, hm⟩ := bind_some hm
  obtain ⟨h0_1, hm⟩ | ⟨h0_1, hm⟩ := split_ite hm
  · skip
    obtain ⟨h0_2, hm⟩ | ⟨h0_2, hm⟩ := split_ite hm
    · skip
      obtain ⟨x0_3, h0_3, hm⟩ := bind_some hm
      exact go_end [.res (res_spec_GoodStill x0_0), .bit false, .num p0.palette.length, .bit true, .rows (List.map (rI .i64) (([] : List Int) ++ p0.image.samples)), .num ((([] : List Int) ++ p0.image.samples).length), .rows (List.map (rI .i64) (([] : List Int) ++ p0.image.samples))] 1000 (And.intro (ok_spec_GoodStill p0 x0_0 h0_0) (And.intro (not_f h0_1) (And.intro (len_map (rI .i64) (show p0.palette.length = p0.palette.length from rfl)) (And.intro h0_2 (And.intro (app_ck_ro (rI .i64) ([] : List Int) p0.image.samples rfl h0_3) (And.intro (app_tell_ro (rI .i64) ([] : List Int) p0.image.samples rfl) (And.intro (len_map (rI .i64) (show (([] : List Int) ++ p0.image.samples).length = (([] : List Int) ++ p0.image.samples).length from rfl)) (And.intro (all_le0 (rI .i64) (([] : List Int) ++ p0.image.samples) rfl) (And.intro (all_t (rI .i64) (([] : List Int) ++ p0.image.samples) rfl) True.intro))))))))) (congrArg res_spec_Colours (Option.some.inj hm)) (by kernel_rfl)
    · skip
      refine go_on (u' := .c c_spec_Colours_33) (K' := K_spec_Colours_33) (st' := s_spec_Colours_33 p0 0 ([] : List Int)) [.res (res_spec_GoodStill x0_0), .bit false, .num p0.palette.length, .bit false, .num p0.image.samples.length, .num (([] : List Int).length), .num (([] : List Int).length)] 1000 (And.intro (ok_spec_GoodStill p0 x0_0 h0_0) (And.intro (not_f h0_1) (And.intro (len_map (rI .i64) (show p0.palette.length = p0.palette.length from rfl)) (And.intro h0_2 (And.intro (len_map (rI .i64) (show p0.image.samples.length = p0.image.samples.length from rfl)) (And.intro (lens 0 (([] : List Int).length) rfl) (And.intro (lens 0 (([] : List Int).length) rfl) True.intro))))))) ?_ (by kernel_rfl)
      obtain ⟨e, he, hm⟩ := bind_some hm
      refine loop_rule (u := .c c_spec_Colours_33) (K := K_spec_Colours_33) (Q := (Post vf_spec_Colours (res_spec_Colours r))) (b := lp_spec_Colours_33 p0) (We := O_spec_Colours_33 p0 (Post vf_spec_Colours (res_spec_Colours r))) (stJ := fun s => s_spec_Colours_33 p0 s.1 s.2) (s := (0, ([] : List Int))) (fun s y hb hin hout => ok_spec_Colours_33 p0 s.1 s.2 y hb (Post vf_spec_Colours (res_spec_Colours r)) hin hout) he ?_
      show EvU ext tbl (.c c_spec_Colours_47) K_spec_Colours_47 (s_spec_Colours_47 p0 e) _
      exact ok_spec_Colours_47 p0 e r hm
  · skip
    exact go_end [.res (res_spec_GoodStill x0_0), .bit true, .rows (List.map (rI .i64) ([] : List Int))] 1000 (And.intro (ok_spec_GoodStill p0 x0_0 h0_0) (And.intro (not_t h0_1) (And.intro (all_le0 (rI .i64) ([] : List Int) rfl) (And.intro (all_t (rI .i64) ([] : List Int) rfl) True.intro)))) (congrArg res_spec_Colours (Option.some.inj hm)) (by kernel_rfl)

theorem ok_spec_Colours (p0 : S_Still) (r : S_Image) (hm : m_spec_Colours p0 = some r) : Runs ext tbl 65 (as_spec_Colours p0) (res_spec_Colours r) :=
  runs_of (vf := vf_spec_Colours) (by kernel_rfl) rfl (st := (enter vf_spec_Colours (as_spec_Colours p0)).getD default) (by kernel_rfl) (go_on [] 1000 True.intro (ok_spec_Colours_0 p0 r hm) (by kernel_rfl))
theorem ok_impl_goodSide_0 (p0 : Int) (r : Bool) (hm : m_impl_goodSide_0 p0 = some r) : EvU ext tbl (.c c_impl_goodSide_0) K_impl_goodSide_0 (s_impl_goodSide_0 p0) (Post vf_impl_goodSide (res_impl_goodSide r)) := by
  obtain ⟨h0_0, hm⟩ | ⟨h0_0, hm⟩ := split_ite hm
  · skip
    exact go_end [.bit true, .bit true, .bit true] 1000 (And.intro h0_0 (And.intro h0_0 (And.intro h0_0 True.intro))) (congrArg res_impl_goodSide (Option.some.inj hm)) (by kernel_rfl)
  · skip
    exact go_end [.bit false, .bit false, .bit false] 1000 (And.intro h0_0 (And.intro h0_0 (And.intro h0_0 True.intro))) (congrArg res_impl_goodSide (Option.some.inj hm)) (by kernel_rfl)

theorem ok_impl_goodSide (p0 : Int) (r : Bool) (hm : m_impl_goodSide p0 = some r) : Runs ext tbl 218 (as_impl_goodSide p0) (res_impl_goodSide r) :=
  runs_of (vf := vf_impl_goodSide) (by kernel_rfl) rfl (st := (enter vf_impl_goodSide (as_impl_goodSide p0)).getD default) (by kernel_rfl) (go_on [] 1000 True.intro (ok_impl_goodSide_0 p0 r hm) (by kernel_rfl))
theorem ok_impl_goodSides_0 (p0 : Int) (p1 : Int) (r : Bool) (hm : m_impl_goodSides_0 p0 p1 = some r) : EvU ext tbl (.c c_impl_goodSides_0) K_impl_goodSides_0 (s_impl_goodSides_0 p0 p1) (Post vf_impl_goodSides (res_impl_goodSides r)) := by
  obtain ⟨x0_0, h0_0, hm⟩ := bind_some hm
  obtain ⟨h0_1, hm⟩ | ⟨h0_1, hm⟩ := split_ite hm
  · skip
    obtain ⟨x0_2, h0_2, hm⟩ := bind_some hm
    obtain ⟨h0_3, hm⟩ | ⟨h0_3, hm⟩ := split_ite hm
    · skip
      exact go_end [.res (res_impl_goodSide x0_0), .bit true, .bit true, .res (res_impl_goodSide x0_2), .bit true, .bit true, .bit true, .bit true, .bit true, .bit true] 1000 (And.intro (ok_impl_goodSide p0 x0_0 h0_0) (And.intro h0_1 (And.intro h0_1 (And.intro (ok_impl_goodSide p1 x0_2 h0_2) (And.intro h0_1 (And.intro h0_3 (And.intro h0_3 (And.intro h0_3 (And.intro h0_3 (And.intro h0_3 True.intro)))))))))) (congrArg res_impl_goodSides (Option.some.inj hm)) (by kernel_rfl)
    · skip
      exact go_end [.res (res_impl_goodSide x0_0), .bit true, .bit true, .res (res_impl_goodSide x0_2), .bit true, .bit false, .bit false, .bit false, .bit false, .bit false] 1000 (And.intro (ok_impl_goodSide p0 x0_0 h0_0) (And.intro h0_1 (And.intro h0_1 (And.intro (ok_impl_goodSide p1 x0_2 h0_2) (And.intro h0_1 (And.intro h0_3 (And.intro h0_3 (And.intro h0_3 (And.intro h0_3 (And.intro h0_3 True.intro)))))))))) (congrArg res_impl_goodSides (Option.some.inj hm)) (by kernel_rfl)
  · skip
    exact go_end [.res (res_impl_goodSide x0_0), .bit false, .bit false, .bit false, .bit false, .bit false, .bit false, .bit false, .bit false] 1000 (And.intro (ok_impl_goodSide p0 x0_0 h0_0) (And.intro h0_1 (And.intro h0_1 (And.intro h0_1 (And.intro (Eq.refl false) (And.intro (Eq.refl false) (And.intro (Eq.refl false) (And.intro (Eq.refl false) (And.intro (Eq.refl false) True.intro))))))))) (congrArg res_impl_goodSides (Option.some.inj hm)) (by kernel_rfl)

theorem ok_impl_goodSides (p0 : Int) (p1 : Int) (r : Bool) (hm : m_impl_goodSides p0 p1 = some r) : Runs ext tbl 185 (as_impl_goodSides p0 p1) (res_impl_goodSides r) :=
  runs_of (vf := vf_impl_goodSides) (by kernel_rfl) rfl (st := (enter vf_impl_goodSides (as_impl_goodSides p0 p1)).getD default) (by kernel_rfl) (go_on [] 1000 True.intro (ok_impl_goodSides_0 p0 p1 r hm) (by kernel_rfl))
theorem ok_impl_goodDepth_0 (p0 : Int) (r : Bool) (hm : m_impl_goodDepth_0 p0 = some r) : EvU ext tbl (.c c_impl_goodDepth_0) K_impl_goodDepth_0 (s_impl_goodDepth_0 p0) (Post vf_impl_goodDepth (res_impl_goodDepth r)) := by
  obtain ⟨h0_0, hm⟩ | ⟨h0_0, hm⟩ := split_ite hm
  · skip
    exact go_end [.bit true, .bit true, .bit true, .bit true, .bit true, .bit true, .bit true, .bit true, .bit true, .bit true, .bit true, .bit true] 1000 (And.intro h0_0 (And.intro h0_0 (And.intro h0_0 (And.intro (Eq.refl true) (And.intro (Eq.refl true) (And.intro (Eq.refl true) (And.intro (Eq.refl true) (And.intro (Eq.refl true) (And.intro (Eq.refl true) (And.intro (Eq.refl true) (And.intro (Eq.refl true) (And.intro (Eq.refl true) True.intro)))))))))))) (congrArg res_impl_goodDepth (Option.some.inj hm)) (by kernel_rfl)
  · skip
    obtain ⟨h0_1, hm⟩ | ⟨h0_1, hm⟩ := split_ite hm
    · skip
      exact go_end [.bit false, .bit false, .bit false, .bit true, .bit true, .bit true, .bit true, .bit true, .bit true, .bit true, .bit true, .bit true] 1000 (And.intro h0_0 (And.intro h0_0 (And.intro h0_0 (And.intro h0_1 (And.intro h0_1 (And.intro h0_1 (And.intro (Eq.refl true) (And.intro (Eq.refl true) (And.intro (Eq.refl true) (And.intro (Eq.refl true) (And.intro (Eq.refl true) (And.intro (Eq.refl true) True.intro)))))))))))) (congrArg res_impl_goodDepth (Option.some.inj hm)) (by kernel_rfl)
    · skip
      obtain ⟨h0_2, hm⟩ | ⟨h0_2, hm⟩ := split_ite hm
      · skip
        exact go_end [.bit false, .bit false, .bit false, .bit false, .bit false, .bit false, .bit true, .bit true, .bit true, .bit true, .bit true, .bit true] 1000 (And.intro h0_0 (And.intro h0_0 (And.intro h0_0 (And.intro h0_1 (And.intro h0_1 (And.intro h0_1 (And.intro h0_2 (And.intro h0_2 (And.intro h0_2 (And.intro (Eq.refl true) (And.intro (Eq.refl true) (And.intro (Eq.refl true) True.intro)))))))))))) (congrArg res_impl_goodDepth (Option.some.inj hm)) (by kernel_rfl)
      · skip
        obtain ⟨h0_3, hm⟩ | ⟨h0_3, hm⟩ := split_ite hm
        · skip
          exact go_end [.bit false, .bit false, .bit false, .bit false, .bit false, .bit false, .bit false, .bit false, .bit false, .bit true, .bit true, .bit true] 1000 (And.intro h0_0 (And.intro h0_0 (And.intro h0_0 (And.intro h0_1 (And.intro h0_1 (And.intro h0_1 (And.intro h0_2 (And.intro h0_2 (And.intro h0_2 (And.intro h0_3 (And.intro h0_3 (And.intro h0_3 True.intro)))))))))))) (congrArg res_impl_goodDepth (Option.some.inj hm)) (by kernel_rfl)
        · skip
          exact go_end [.bit false, .bit false, .bit false, .bit false, .bit false, .bit false, .bit false, .bit false, .bit false, .bit false, .bit false, .bit false] 1000 (And.intro h0_0 (And.intro h0_0 (And.intro h0_0 (And.intro h0_1 (And.intro h0_1 (And.intro h0_1 (And.intro h0_2 (And.intro h0_2 (And.intro h0_2 (And.intro h0_3 (And.intro h0_3 (And.intro h0_3 True.intro)))))))))))) (congrArg res_impl_goodDepth (Option.some.inj hm)) (by kernel_rfl)

theorem ok_impl_goodDepth (p0 : Int) (r : Bool) (hm : m_impl_goodDepth p0 = some r) : Runs ext tbl 214 (as_impl_goodDepth p0) (res_impl_goodDepth r) :=
  runs_of (vf := vf_impl_goodDepth) (by kernel_rfl) rfl (st := (enter vf_impl_goodDepth (as_impl_goodDepth p0)).getD default) (by kernel_rfl) (go_on [] 1000 True.intro (ok_impl_goodDepth_0 p0 r hm) (by kernel_rfl))
theorem ok_impl_goodShape_0 (p0 : Int) (p1 : Int) (p2 : Int) (p3 : Int) (r : Bool) (hm : m_impl_goodShape_0 p0 p1 p2 p3 = some r) : EvU ext tbl (.c c_impl_goodShape_0) K_impl_goodShape_0 (s_impl_goodShape_0 p0 p1 p2 p3) (Post vf_impl_goodShape (res_impl_goodShape r)) := by
  obtain ⟨x0_0, h0_0, hm⟩ := bind_some hm
  obtain ⟨h0_1, hm⟩ | ⟨h0_1, hm⟩ := split_ite hm
  · skip
    obtain ⟨h0_2, hm⟩ | ⟨h0_2, hm⟩ := split_ite hm
    · skip
      obtain ⟨h0_3, hm⟩ | ⟨h0_3, hm⟩ := split_ite hm
      · skip
        obtain ⟨x0_4, h0_4, hm⟩ := bind_some hm
        obtain ⟨h0_5, hm⟩ | ⟨h0_5, hm⟩ := split_ite hm
        · skip
          obtain ⟨h0_6, hm⟩ | ⟨h0_6, hm⟩ := split_ite hm
          · skip
            exact go_end [.res (res_impl_goodSides x0_0), .bit true, .bit true, .bit true, .bit true, .bit true, .bit true, .bit true, .bit true, .res (res_impl_goodDepth x0_4), .bit true, .bit true, .bit true, .bit true, .bit true, .bit true, .bit true, .bit true, .bit true] 1000 (And.intro (ok_impl_goodSides p0 p1 x0_0 h0_0) (And.intro h0_1 (And.intro h0_1 (And.intro h0_1 (And.intro h0_2 (And.intro h0_2 (And.intro h0_2 (And.intro h0_3 (And.intro h0_3 (And.intro (ok_impl_goodDepth p3 x0_4 h0_4) (And.intro h0_3 (And.intro h0_5 (And.intro h0_5 (And.intro h0_5 (And.intro h0_6 (And.intro h0_6 (And.intro h0_5 (And.intro h0_6 (And.intro h0_5 True.intro))))))))))))))))))) (congrArg res_impl_goodShape (Option.some.inj hm)) (by kernel_rfl)
          · skip
            exact go_end [.res (res_impl_goodSides x0_0), .bit true, .bit true, .bit true, .bit true, .bit true, .bit true, .bit true, .bit true, .res (res_impl_goodDepth x0_4), .bit true, .bit true, .bit true, .bit true, .bit false, .bit false, .bit true, .bit false, .bit true] 1000 (And.intro (ok_impl_goodSides p0 p1 x0_0 h0_0) (And.intro h0_1 (And.intro h0_1 (And.intro h0_1 (And.intro h0_2 (And.intro h0_2 (And.intro h0_2 (And.intro h0_3 (And.intro h0_3 (And.intro (ok_impl_goodDepth p3 x0_4 h0_4) (And.intro h0_3 (And.intro h0_5 (And.intro h0_5 (And.intro h0_5 (And.intro h0_6 (And.intro h0_6 (And.intro h0_5 (And.intro h0_6 (And.intro h0_5 True.intro))))))))))))))))))) (congrArg res_impl_goodShape (Option.some.inj hm)) (by kernel_rfl)
        · skip
          exact go_end [.res (res_impl_goodSides x0_0), .bit true, .bit true, .bit true, .bit true, .bit true, .bit true, .bit true, .bit true, .res (res_impl_goodDepth x0_4), .bit true, .bit false, .bit false, .bit false, .bit false, .bit false] 1000 (And.intro (ok_impl_goodSides p0 p1 x0_0 h0_0) (And.intro h0_1 (And.intro h0_1 (And.intro h0_1 (And.intro h0_2 (And.intro h0_2 (And.intro h0_2 (And.intro h0_3 (And.intro h0_3 (And.intro (ok_impl_goodDepth p3 x0_4 h0_4) (And.intro h0_3 (And.intro h0_5 (And.intro h0_5 (And.intro h0_5 (And.intro h0_5 (And.intro h0_5 True.intro)))))))))))))))) (congrArg res_impl_goodShape (Option.some.inj hm)) (by kernel_rfl)
      · skip
        exact go_end [.res (res_impl_goodSides x0_0), .bit true, .bit true, .bit true, .bit true, .bit true, .bit true, .bit false, .bit false, .bit false, .bit false, .bit false, .bit false, .bit false, .bit false] 1000 (And.intro (ok_impl_goodSides p0 p1 x0_0 h0_0) (And.intro h0_1 (And.intro h0_1 (And.intro h0_1 (And.intro h0_2 (And.intro h0_2 (And.intro h0_2 (And.intro h0_3 (And.intro h0_3 (And.intro h0_3 (And.intro (Eq.refl false) (And.intro (Eq.refl false) (And.intro (Eq.refl false) (And.intro (Eq.refl false) (And.intro (Eq.refl false) True.intro))))))))))))))) (congrArg res_impl_goodShape (Option.some.inj hm)) (by kernel_rfl)
    · skip
      exact go_end [.res (res_impl_goodSides x0_0), .bit true, .bit true, .bit true, .bit false, .bit false, .bit false, .bit false, .bit false, .bit false, .bit false, .bit false, .bit false, .bit false, .bit false] 1000 (And.intro (ok_impl_goodSides p0 p1 x0_0 h0_0) (And.intro h0_1 (And.intro h0_1 (And.intro h0_1 (And.intro h0_2 (And.intro h0_2 (And.intro h0_2 (And.intro (Eq.refl false) (And.intro (Eq.refl false) (And.intro (Eq.refl false) (And.intro (Eq.refl false) (And.intro (Eq.refl false) (And.intro (Eq.refl false) (And.intro (Eq.refl false) (And.intro (Eq.refl false) True.intro))))))))))))))) (congrArg res_impl_goodShape (Option.some.inj hm)) (by kernel_rfl)
  · skip
    exact go_end [.res (res_impl_goodSides x0_0), .bit false, .bit false, .bit false, .bit false, .bit false, .bit false, .bit false, .bit false, .bit false, .bit false, .bit false, .bit false, .bit false, .bit false] 1000 (And.intro (ok_impl_goodSides p0 p1 x0_0 h0_0) (And.intro h0_1 (And.intro h0_1 (And.intro h0_1 (And.intro (Eq.refl false) (And.intro (Eq.refl false) (And.intro (Eq.refl false) (And.intro (Eq.refl false) (And.intro (Eq.refl false) (And.intro (Eq.refl false) (And.intro (Eq.refl false) (And.intro (Eq.refl false) (And.intro (Eq.refl false) (And.intro (Eq.refl false) (And.intro (Eq.refl false) True.intro))))))))))))))) (congrArg res_impl_goodShape (Option.some.inj hm)) (by kernel_rfl)

theorem ok_impl_goodShape (p0 : Int) (p1 : Int) (p2 : Int) (p3 : Int) (r : Bool) (hm : m_impl_goodShape p0 p1 p2 p3 = some r) : Runs ext tbl 168 (as_impl_goodShape p0 p1 p2 p3) (res_impl_goodShape r) :=
  runs_of (vf := vf_impl_goodShape) (by kernel_rfl) rfl (st := (enter vf_impl_goodShape (as_impl_goodShape p0 p1 p2 p3)).getD default) (by kernel_rfl) (go_on [] 1000 True.intro (ok_impl_goodShape_0 p0 p1 p2 p3 r hm) (by kernel_rfl))
def O_impl_inRange_7 (Q : VX → St → Prop) (e : (Bool) ⊕ ((Unit))) : Prop := match e with | .inl e => Q = Post vf_impl_inRange (res_impl_inRange e) | .inr e => EvU ext tbl (.c c_impl_inRange_25) K_impl_inRange_25 (s_impl_inRange_25) Q
theorem ok_impl_inRange_25 (r : Bool) (hm : m_impl_inRange_25 = some r) : EvU ext tbl (.c c_impl_inRange_25) K_impl_inRange_25 (s_impl_inRange_25) (Post vf_impl_inRange (res_impl_inRange r)) := by
  exact go_end [] 1000 True.intro (congrArg res_impl_inRange (Option.some.inj hm)) (by kernel_rfl)

theorem ok_impl_inRange_7 (p1 : Int) (p0 : (List Int)) (i7_0 : Int) (y : (Int) ⊕ ((Bool) ⊕ ((Unit)))) (hm : m_impl_inRange_7 p1 p0 i7_0 = some y) (Q : VX → St → Prop)
    (hin : ∀ s, y = .inl s → EvU ext tbl (.c c_impl_inRange_7) K_impl_inRange_7 (s_impl_inRange_7 p1 p0 s) Q) (hout : ∀ e, y = .inr e → O_impl_inRange_7 Q e) : EvU ext tbl (.c c_impl_inRange_7) K_impl_inRange_7 (s_impl_inRange_7 p1 p0 i7_0) Q := by
  obtain ⟨h7_0, hm⟩ | ⟨h7_0, hm⟩ := split_ite hm
  · skip
    obtain ⟨x7_1, h7_1, hm⟩ := bind_some hm
    obtain ⟨h7_2, hm⟩ | ⟨h7_2, hm⟩ := split_ite hm
    · skip
      have hQ : Q = Post vf_impl_inRange (res_impl_inRange false) := hout (.inl false) (Option.some.inj hm).symm
      subst hQ
      exact go_end [.bit true, .row ((rI .i64) x7_1), .bit true, .bit true, .bit true, .bit true, .bit true] 1000 (And.intro h7_0 (And.intro (rd_nn h7_1) (And.intro (at_row (rI .i64) (rd_get h7_1)) (And.intro h7_2 (And.intro h7_2 (And.intro h7_2 (And.intro h7_2 (And.intro (Eq.refl true) True.intro)))))))) (rfl : res_impl_inRange false = res_impl_inRange false) (by kernel_rfl)
    · skip
      obtain ⟨h7_3, hm⟩ | ⟨h7_3, hm⟩ := split_ite hm
      · skip
        have hQ : Q = Post vf_impl_inRange (res_impl_inRange false) := hout (.inl false) (Option.some.inj hm).symm
        subst hQ
        exact go_end [.bit true, .row ((rI .i64) x7_1), .bit false, .bit false, .bit false, .bit false, .bit true] 1000 (And.intro h7_0 (And.intro (rd_nn h7_1) (And.intro (at_row (rI .i64) (rd_get h7_1)) (And.intro h7_2 (And.intro h7_2 (And.intro h7_2 (And.intro h7_2 (And.intro h7_3 True.intro)))))))) (rfl : res_impl_inRange false = res_impl_inRange false) (by kernel_rfl)
      · skip
        refine go_on (u' := .c c_impl_inRange_7) (K' := K_impl_inRange_7) (st' := s_impl_inRange_7 p1 p0 (w64 (i7_0 + 1))) [.bit true, .row ((rI .i64) x7_1), .bit false, .bit false, .bit false, .bit false, .bit false] 1000 (And.intro h7_0 (And.intro (rd_nn h7_1) (And.intro (at_row (rI .i64) (rd_get h7_1)) (And.intro h7_2 (And.intro h7_2 (And.intro h7_2 (And.intro h7_2 (And.intro h7_3 True.intro)))))))) ?_ (by kernel_rfl)
        exact hin (w64 (i7_0 + 1)) (Option.some.inj hm).symm
  · skip
    refine go_on (u' := .c c_impl_inRange_25) (K' := K_impl_inRange_25) (st' := s_impl_inRange_25) [.bit false] 1000 (And.intro h7_0 True.intro) ?_ (by kernel_rfl)
    exact hout (.inr ()) (Option.some.inj hm).symm

theorem ok_impl_inRange_0 (p0 : (List Int)) (p1 : Int) (r : Bool) (hm : m_impl_inRange_0 p0 p1 = some r) : EvU ext tbl (.c c_impl_inRange_0) K_impl_inRange_0 (s_impl_inRange_0 p0 p1) (Post vf_impl_inRange (res_impl_inRange r)) := by
  refine go_on (u' := .c c_impl_inRange_7) (K' := K_impl_inRange_7) (st' := s_impl_inRange_7 p1 p0 0) [.num p0.length] 1000 (And.intro (len_map (rI .i64) (show p0.length = p0.length from rfl)) True.intro) ?_ (by kernel_rfl)
  obtain ⟨e, he, hm⟩ := bind_some hm
  refine loop_rule (u := .c c_impl_inRange_7) (K := K_impl_inRange_7) (Q := (Post vf_impl_inRange (res_impl_inRange r))) (b := lp_impl_inRange_7 p1 p0) (We := O_impl_inRange_7 (Post vf_impl_inRange (res_impl_inRange r))) (stJ := fun s => s_impl_inRange_7 p1 p0 s) (s := 0) (fun s y hb hin hout => ok_impl_inRange_7 p1 p0 s y hb (Post vf_impl_inRange (res_impl_inRange r)) hin hout) he ?_
  rcases e with e | e
  · skip
    exact congrArg (fun r => Post vf_impl_inRange (res_impl_inRange r)) (Option.some.inj hm).symm
  · skip
    show EvU ext tbl (.c c_impl_inRange_25) K_impl_inRange_25 (s_impl_inRange_25) _
    exact ok_impl_inRange_25 r hm

theorem ok_impl_inRange (p0 : (List Int)) (p1 : Int) (r : Bool) (hm : m_impl_inRange p0 p1 = some r) : Runs ext tbl 104 (as_impl_inRange p0 p1) (res_impl_inRange r) :=
  runs_of (vf := vf_impl_inRange) (by kernel_rfl) rfl (st := (enter vf_impl_inRange (as_impl_inRange p0 p1)).getD default) (by kernel_rfl) (go_on [] 1000 True.intro (ok_impl_inRange_0 p0 p1 r hm) (by kernel_rfl))
theorem ok_impl_GoodImage_0 (p0 : S_Image) (r : Bool) (hm : m_impl_GoodImage_0 p0 = some r) : EvU ext tbl (.c c_impl_GoodImage_0) K_impl_GoodImage_0 (s_impl_GoodImage_0 p0) (Post vf_impl_GoodImage (res_impl_GoodImage r)) := by
  obtain ⟨x0_0, h0_0, hm⟩ := bind_some hm
  obtain ⟨h0_1, hm⟩ | ⟨h0_1, hm⟩ := split_ite hm
  · skip
    obtain ⟨h0_2, hm⟩ | ⟨h0_2, hm⟩ := split_ite hm
    · skip
      obtain ⟨x0_3, h0_3, hm⟩ := bind_some hm
      obtain ⟨x0_4, h0_4, hm⟩ := bind_some hm
      exact go_end [.res (res_impl_goodShape x0_0), .bit true, .bit true, .bit true, .num p0.samples.length, .bit true, .bit true, .bit true, .bit true, .bit true, .bit true, .bit true, .bit true, .bit true, .bit true, .bit true, .bit true, .bit true, .bit true, .bit true, .bit true, .bit true, .res (res_impl_inRange x0_4), .bit true] 1000 (And.intro (ok_impl_goodShape p0.width p0.height p0.planes p0.depth x0_0 h0_0) (And.intro h0_1 (And.intro h0_1 (And.intro h0_1 (And.intro (len_map (rI .i64) (show p0.samples.length = p0.samples.length from rfl)) (And.intro h0_1 (And.intro h0_1 (And.intro h0_1 (And.intro h0_1 (And.intro h0_1 (And.intro h0_1 (And.intro h0_1 (And.intro h0_1 (And.intro h0_1 (And.intro h0_1 (And.intro h0_2 (And.intro h0_2 (And.intro h0_2 (And.intro h0_2 (And.intro h0_2 (And.intro (ck_p h0_3) (And.intro h0_2 (And.intro h0_2 (And.intro (ok_impl_inRange p0.samples (w64 ((shlI .i64 1 p0.depth) - 1)) x0_4 h0_4) (And.intro h0_2 True.intro))))))))))))))))))))))))) (congrArg res_impl_GoodImage (Option.some.inj hm)) (by kernel_rfl)
    · skip
      exact go_end [.res (res_impl_goodShape x0_0), .bit true, .bit true, .bit true, .num p0.samples.length, .bit true, .bit true, .bit true, .bit true, .bit true, .bit true, .bit true, .bit true, .bit true, .bit true, .bit false, .bit false, .bit false, .bit false, .bit false, .bit false, .bit false, .bit false] 1000 (And.intro (ok_impl_goodShape p0.width p0.height p0.planes p0.depth x0_0 h0_0) (And.intro h0_1 (And.intro h0_1 (And.intro h0_1 (And.intro (len_map (rI .i64) (show p0.samples.length = p0.samples.length from rfl)) (And.intro h0_1 (And.intro h0_1 (And.intro h0_1 (And.intro h0_1 (And.intro h0_1 (And.intro h0_1 (And.intro h0_1 (And.intro h0_1 (And.intro h0_1 (And.intro h0_1 (And.intro h0_2 (And.intro h0_2 (And.intro h0_2 (And.intro h0_2 (And.intro h0_2 (And.intro h0_2 (And.intro h0_2 (And.intro h0_2 True.intro))))))))))))))))))))))) (congrArg res_impl_GoodImage (Option.some.inj hm)) (by kernel_rfl)
  · skip
    exact go_end [.res (res_impl_goodShape x0_0), .bit false, .bit false, .bit false, .bit false, .bit false, .bit false, .bit false, .bit false, .bit false, .bit false, .bit false, .bit false, .bit false, .bit false, .bit false, .bit false, .bit false, .bit false, .bit false, .bit false, .bit false] 1000 (And.intro (ok_impl_goodShape p0.width p0.height p0.planes p0.depth x0_0 h0_0) (And.intro h0_1 (And.intro h0_1 (And.intro h0_1 (And.intro h0_1 (And.intro h0_1 (And.intro h0_1 (And.intro h0_1 (And.intro h0_1 (And.intro h0_1 (And.intro h0_1 (And.intro h0_1 (And.intro h0_1 (And.intro h0_1 (And.intro (Eq.refl false) (And.intro (Eq.refl false) (And.intro (Eq.refl false) (And.intro (Eq.refl false) (And.intro (Eq.refl false) (And.intro (Eq.refl false) (And.intro (Eq.refl false) (And.intro (Eq.refl false) True.intro)))))))))))))))))))))) (congrArg res_impl_GoodImage (Option.some.inj hm)) (by kernel_rfl)

theorem ok_impl_GoodImage (p0 : S_Image) (r : Bool) (hm : m_impl_GoodImage p0 = some r) : Runs ext tbl 103 (as_impl_GoodImage p0) (res_impl_GoodImage r) :=
  runs_of (vf := vf_impl_GoodImage) (by kernel_rfl) rfl (st := (enter vf_impl_GoodImage (as_impl_GoodImage p0)).getD default) (by kernel_rfl) (go_on [] 1000 True.intro (ok_impl_GoodImage_0 p0 r hm) (by kernel_rfl))
theorem ok_strings_IndexByte (p0 : ByteArray) (p1 : Int) (r : Int) (hm : m_strings_IndexByte p0 p1 = some r) : Runs ext tbl 169 (as_strings_IndexByte p0 p1) (res_strings_IndexByte r) := by
  refine ⟨1, ?_⟩
  have h : vrun ext tbl 1 169 (as_strings_IndexByte p0 p1) = (m_strings_IndexByte p0 p1).map res_strings_IndexByte := by kernel_rfl
  rw [h, hm]
  rfl
def O_impl_goodNote_15 (Q : VX → St → Prop) (e : (Bool) ⊕ ((Unit))) : Prop := match e with | .inl e => Q = Post vf_impl_goodNote (res_impl_goodNote e) | .inr e => EvU ext tbl (.c c_impl_goodNote_33) K_impl_goodNote_33 (s_impl_goodNote_33) Q
theorem ok_impl_goodNote_33 (r : Bool) (hm : m_impl_goodNote_33 = some r) : EvU ext tbl (.c c_impl_goodNote_33) K_impl_goodNote_33 (s_impl_goodNote_33) (Post vf_impl_goodNote (res_impl_goodNote r)) := by
  exact go_end [] 1000 True.intro (congrArg res_impl_goodNote (Option.some.inj hm)) (by kernel_rfl)

theorem ok_impl_goodNote_15 (p0 : S_Note) (i15_0 : Int) (y : (Int) ⊕ ((Bool) ⊕ ((Unit)))) (hm : m_impl_goodNote_15 p0 i15_0 = some y) (Q : VX → St → Prop)
    (hin : ∀ s, y = .inl s → EvU ext tbl (.c c_impl_goodNote_15) K_impl_goodNote_15 (s_impl_goodNote_15 p0 s) Q) (hout : ∀ e, y = .inr e → O_impl_goodNote_15 Q e) : EvU ext tbl (.c c_impl_goodNote_15) K_impl_goodNote_15 (s_impl_goodNote_15 p0 i15_0) Q := by
  obtain ⟨h15_0, hm⟩ | ⟨h15_0, hm⟩ := split_ite hm
  · skip
    obtain ⟨x15_1, h15_1, hm⟩ := bind_some hm
    obtain ⟨h15_2, hm⟩ | ⟨h15_2, hm⟩ := split_ite hm
    · skip
      have hQ : Q = Post vf_impl_goodNote (res_impl_goodNote false) := hout (.inl false) (Option.some.inj hm).symm
      subst hQ
      exact go_end [.bit true, .int x15_1, .bit true, .bit true, .bit true, .bit true, .bit true, .bit true, .bit true] 1000 (And.intro h15_0 (And.intro (sat_nn h15_1) (And.intro (sat_at h15_1) (And.intro h15_2 (And.intro h15_2 (And.intro h15_2 (And.intro h15_2 (And.intro h15_2 (And.intro h15_2 (And.intro (Eq.refl true) True.intro)))))))))) (rfl : res_impl_goodNote false = res_impl_goodNote false) (by kernel_rfl)
    · skip
      obtain ⟨h15_3, hm⟩ | ⟨h15_3, hm⟩ := split_ite hm
      · skip
        have hQ : Q = Post vf_impl_goodNote (res_impl_goodNote false) := hout (.inl false) (Option.some.inj hm).symm
        subst hQ
        exact go_end [.bit true, .int x15_1, .bit false, .bit false, .bit false, .bit false, .int x15_1, .bit false, .bit false, .bit true] 1000 (And.intro h15_0 (And.intro (sat_nn h15_1) (And.intro (sat_at h15_1) (And.intro h15_2 (And.intro h15_2 (And.intro h15_2 (And.intro h15_2 (And.intro (sat_nn h15_1) (And.intro (sat_at h15_1) (And.intro h15_2 (And.intro h15_2 (And.intro h15_3 True.intro)))))))))))) (rfl : res_impl_goodNote false = res_impl_goodNote false) (by kernel_rfl)
      · skip
        refine go_on (u' := .c c_impl_goodNote_15) (K' := K_impl_goodNote_15) (st' := s_impl_goodNote_15 p0 (w64 (i15_0 + 1))) [.bit true, .int x15_1, .bit false, .bit false, .bit false, .bit false, .int x15_1, .bit false, .bit false, .bit false] 1000 (And.intro h15_0 (And.intro (sat_nn h15_1) (And.intro (sat_at h15_1) (And.intro h15_2 (And.intro h15_2 (And.intro h15_2 (And.intro h15_2 (And.intro (sat_nn h15_1) (And.intro (sat_at h15_1) (And.intro h15_2 (And.intro h15_2 (And.intro h15_3 True.intro)))))))))))) ?_ (by kernel_rfl)
        exact hin (w64 (i15_0 + 1)) (Option.some.inj hm).symm
  · skip
    refine go_on (u' := .c c_impl_goodNote_33) (K' := K_impl_goodNote_33) (st' := s_impl_goodNote_33) [.bit false] 1000 (And.intro h15_0 True.intro) ?_ (by kernel_rfl)
    exact hout (.inr ()) (Option.some.inj hm).symm

theorem ok_impl_goodNote_0 (p0 : S_Note) (r : Bool) (hm : m_impl_goodNote_0 p0 = some r) : EvU ext tbl (.c c_impl_goodNote_0) K_impl_goodNote_0 (s_impl_goodNote_0 p0) (Post vf_impl_goodNote (res_impl_goodNote r)) := by
  obtain ⟨h0_0, hm⟩ | ⟨h0_0, hm⟩ := split_ite hm
  · skip
    exact go_end [.bit true, .bit true, .bit true, .bit true, .bit true, .bit true, .bit true, .bit true, .bit true, .bit true, .bit true, .bit true, .bit true, .bit true, .bit true, .bit true] 1000 (And.intro h0_0 (And.intro h0_0 (And.intro h0_0 (And.intro h0_0 (And.intro h0_0 (And.intro (Eq.refl true) (And.intro (Eq.refl true) (And.intro (Eq.refl true) (And.intro (Eq.refl true) (And.intro (Eq.refl true) (And.intro (Eq.refl true) (And.intro (Eq.refl true) (And.intro (Eq.refl true) (And.intro (Eq.refl true) (And.intro (Eq.refl true) (And.intro (Eq.refl true) True.intro)))))))))))))))) (congrArg res_impl_goodNote (Option.some.inj hm)) (by kernel_rfl)
  · skip
    obtain ⟨h0_1, hm⟩ | ⟨h0_1, hm⟩ := split_ite hm
    · skip
      exact go_end [.bit false, .bit false, .bit false, .bit false, .bit false, .bit true, .bit true, .bit true, .bit true, .bit true, .bit true, .bit true, .bit true, .bit true, .bit true, .bit true] 1000 (And.intro h0_0 (And.intro h0_0 (And.intro h0_0 (And.intro h0_0 (And.intro h0_0 (And.intro h0_1 (And.intro h0_1 (And.intro h0_1 (And.intro h0_1 (And.intro h0_1 (And.intro (Eq.refl true) (And.intro (Eq.refl true) (And.intro (Eq.refl true) (And.intro (Eq.refl true) (And.intro (Eq.refl true) (And.intro (Eq.refl true) True.intro)))))))))))))))) (congrArg res_impl_goodNote (Option.some.inj hm)) (by kernel_rfl)
    · skip
      obtain ⟨h0_2, hm⟩ | ⟨h0_2, hm⟩ := split_ite hm
      · skip
        exact go_end [.bit false, .bit false, .bit false, .bit false, .bit false, .bit false, .bit false, .bit false, .bit false, .bit false, .bit true, .bit true, .bit true, .bit true, .bit true, .bit true] 1000 (And.intro h0_0 (And.intro h0_0 (And.intro h0_0 (And.intro h0_0 (And.intro h0_0 (And.intro h0_1 (And.intro h0_1 (And.intro h0_1 (And.intro h0_1 (And.intro h0_1 (And.intro h0_2 (And.intro h0_2 (And.intro h0_2 (And.intro h0_2 (And.intro h0_2 (And.intro (Eq.refl true) True.intro)))))))))))))))) (congrArg res_impl_goodNote (Option.some.inj hm)) (by kernel_rfl)
      · skip
        obtain ⟨x0_3, h0_3, hm⟩ := bind_some hm
        obtain ⟨h0_4, hm⟩ | ⟨h0_4, hm⟩ := split_ite hm
        · skip
          exact go_end [.bit false, .bit false, .bit false, .bit false, .bit false, .bit false, .bit false, .bit false, .bit false, .bit false, .bit false, .bit false, .bit false, .res (res_strings_IndexByte x0_3), .bit false, .bit false, .bit true] 1000 (And.intro h0_0 (And.intro h0_0 (And.intro h0_0 (And.intro h0_0 (And.intro h0_0 (And.intro h0_1 (And.intro h0_1 (And.intro h0_1 (And.intro h0_1 (And.intro h0_1 (And.intro h0_2 (And.intro h0_2 (And.intro h0_2 (And.intro (ok_strings_IndexByte p0.value 0 x0_3 h0_3) (And.intro h0_2 (And.intro h0_2 (And.intro h0_4 True.intro))))))))))))))))) (congrArg res_impl_goodNote (Option.some.inj hm)) (by kernel_rfl)
        · skip
          refine go_on (u' := .c c_impl_goodNote_15) (K' := K_impl_goodNote_15) (st' := s_impl_goodNote_15 p0 0) [.bit false, .bit false, .bit false, .bit false, .bit false, .bit false, .bit false, .bit false, .bit false, .bit false, .bit false, .bit false, .bit false, .res (res_strings_IndexByte x0_3), .bit false, .bit false, .bit false] 1000 (And.intro h0_0 (And.intro h0_0 (And.intro h0_0 (And.intro h0_0 (And.intro h0_0 (And.intro h0_1 (And.intro h0_1 (And.intro h0_1 (And.intro h0_1 (And.intro h0_1 (And.intro h0_2 (And.intro h0_2 (And.intro h0_2 (And.intro (ok_strings_IndexByte p0.value 0 x0_3 h0_3) (And.intro h0_2 (And.intro h0_2 (And.intro h0_4 True.intro))))))))))))))))) ?_ (by kernel_rfl)
          obtain ⟨e, he, hm⟩ := bind_some hm
          refine loop_rule (u := .c c_impl_goodNote_15) (K := K_impl_goodNote_15) (Q := (Post vf_impl_goodNote (res_impl_goodNote r))) (b := lp_impl_goodNote_15 p0) (We := O_impl_goodNote_15 (Post vf_impl_goodNote (res_impl_goodNote r))) (stJ := fun s => s_impl_goodNote_15 p0 s) (s := 0) (fun s y hb hin hout => ok_impl_goodNote_15 p0 s y hb (Post vf_impl_goodNote (res_impl_goodNote r)) hin hout) he ?_
          rcases e with e | e
          · skip
            exact congrArg (fun r => Post vf_impl_goodNote (res_impl_goodNote r)) (Option.some.inj hm).symm
          · skip
            show EvU ext tbl (.c c_impl_goodNote_33) K_impl_goodNote_33 (s_impl_goodNote_33) _
            exact ok_impl_goodNote_33 r hm

theorem ok_impl_goodNote (p0 : S_Note) (r : Bool) (hm : m_impl_goodNote p0 = some r) : Runs ext tbl 105 (as_impl_goodNote p0) (res_impl_goodNote r) :=
  runs_of (vf := vf_impl_goodNote) (by kernel_rfl) rfl (st := (enter vf_impl_goodNote (as_impl_goodNote p0)).getD default) (by kernel_rfl) (go_on [] 1000 True.intro (ok_impl_goodNote_0 p0 r hm) (by kernel_rfl))
def O_impl_Passes_17 (Q : VX → St → Prop) (e : ((List S_Pass))) : Prop := EvU ext tbl (.c c_impl_Passes_37) K_impl_Passes_37 (s_impl_Passes_37 e) Q
theorem ok_impl_Passes_33 (p0 : Int) (p1 : Int) (i17_0 : Int) (x17_1 : S_Pass) (l17_1 : (List S_Pass)) (l17_2 : (List S_Pass)) (b33_0 : Bool) (i33_1 : Int) (i33_2 : Int) (y : (Int × (List S_Pass) × (List S_Pass)) ⊕ (((List S_Pass)))) (hm : m_impl_Passes_33 p0 p1 i17_0 x17_1 l17_1 l17_2 b33_0 i33_1 i33_2 = some y) (Q : VX → St → Prop)
    (hin : ∀ s, y = .inl s → EvU ext tbl (.c c_impl_Passes_17) K_impl_Passes_17 (s_impl_Passes_17 p0 p1 s.1 s.2.1 s.2.2) Q) (hout : ∀ e, y = .inr e → O_impl_Passes_17 Q e) : EvU ext tbl (.c c_impl_Passes_33) K_impl_Passes_33 (s_impl_Passes_33 p0 p1 i17_0 x17_1 l17_1 l17_2 b33_0 i33_1 i33_2) Q := by
  obtain ⟨h33_0, hm⟩ | ⟨h33_0, hm⟩ := split_ite hm
  · skip
    obtain ⟨x33_1, h33_1, hm⟩ := bind_some hm
    refine go_on (u' := .c c_impl_Passes_17) (K' := K_impl_Passes_17) (st' := s_impl_Passes_17 p0 p1 (w64 (i17_0 + 1)) (l17_1 ++ ([(S_Pass.mk x17_1.x x17_1.y x17_1.stepX x17_1.stepY i33_1 i33_2)] : List S_Pass)) l17_2) [.bit true, .rows (List.map rS_Pass ([(S_Pass.mk x17_1.x x17_1.y x17_1.stepX x17_1.stepY i33_1 i33_2)] : List S_Pass)), .num 1, .rows (List.map rS_Pass (l17_1 ++ ([(S_Pass.mk x17_1.x x17_1.y x17_1.stepX x17_1.stepY i33_1 i33_2)] : List S_Pass))), .num ((l17_1 ++ ([(S_Pass.mk x17_1.x x17_1.y x17_1.stepX x17_1.stepY i33_1 i33_2)] : List S_Pass)).length), .num ((l17_1 ++ ([(S_Pass.mk x17_1.x x17_1.y x17_1.stepX x17_1.stepY i33_1 i33_2)] : List S_Pass)).length), .num l17_2.length] 1000 (And.intro h33_0 (And.intro (Eq.refl (List.map rS_Pass ([(S_Pass.mk x17_1.x x17_1.y x17_1.stepX x17_1.stepY i33_1 i33_2)] : List S_Pass))) (And.intro (len_map rS_Pass (show 1 = ([(S_Pass.mk x17_1.x x17_1.y x17_1.stepX x17_1.stepY i33_1 i33_2)] : List S_Pass).length from rfl)) (And.intro (all_le rS_Pass ([(S_Pass.mk x17_1.x x17_1.y x17_1.stepX x17_1.stepY i33_1 i33_2)] : List S_Pass) rfl) (And.intro (app_ck rS_Pass l17_1 ([(S_Pass.mk x17_1.x x17_1.y x17_1.stepX x17_1.stepY i33_1 i33_2)] : List S_Pass) rfl rfl h33_1) (And.intro (app_tell rS_Pass l17_1 ([(S_Pass.mk x17_1.x x17_1.y x17_1.stepX x17_1.stepY i33_1 i33_2)] : List S_Pass) rfl rfl) (And.intro (len_map rS_Pass (show (l17_1 ++ ([(S_Pass.mk x17_1.x x17_1.y x17_1.stepX x17_1.stepY i33_1 i33_2)] : List S_Pass)).length = (l17_1 ++ ([(S_Pass.mk x17_1.x x17_1.y x17_1.stepX x17_1.stepY i33_1 i33_2)] : List S_Pass)).length from rfl)) (And.intro (lens ((l17_1 ++ ([(S_Pass.mk x17_1.x x17_1.y x17_1.stepX x17_1.stepY i33_1 i33_2)] : List S_Pass)).length) ((l17_1 ++ ([(S_Pass.mk x17_1.x x17_1.y x17_1.stepX x17_1.stepY i33_1 i33_2)] : List S_Pass)).length) rfl) (And.intro (lens l17_2.length l17_2.length rfl) True.intro))))))))) ?_ (by kernel_rfl)
    exact hin ((w64 (i17_0 + 1)), (l17_1 ++ ([(S_Pass.mk x17_1.x x17_1.y x17_1.stepX x17_1.stepY i33_1 i33_2)] : List S_Pass)), l17_2) (Option.some.inj hm).symm
  · skip
    refine go_on (u' := .c c_impl_Passes_17) (K' := K_impl_Passes_17) (st' := s_impl_Passes_17 p0 p1 (w64 (i17_0 + 1)) l17_1 l17_2) [.bit false, .num l17_1.length, .num l17_2.length] 1000 (And.intro h33_0 (And.intro (lens l17_1.length l17_1.length rfl) (And.intro (lens l17_2.length l17_2.length rfl) True.intro))) ?_ (by kernel_rfl)
    exact hin ((w64 (i17_0 + 1)), l17_1, l17_2) (Option.some.inj hm).symm

theorem ok_impl_Passes_37 (l37_0 : (List S_Pass)) (r : (List S_Pass)) (hm : m_impl_Passes_37 l37_0 = some r) : EvU ext tbl (.c c_impl_Passes_37) K_impl_Passes_37 (s_impl_Passes_37 l37_0) (Post vf_impl_Passes (res_impl_Passes r)) := by
  exact go_end [.rows (List.map rS_Pass l37_0)] 1000 (And.intro (all_le0 rS_Pass l37_0 rfl) (And.intro (all_t rS_Pass l37_0 rfl) True.intro)) (congrArg res_impl_Passes (Option.some.inj hm)) (by kernel_rfl)

theorem ok_impl_Passes_17 (p0 : Int) (p1 : Int) (i17_0 : Int) (l17_1 : (List S_Pass)) (l17_2 : (List S_Pass)) (y : (Int × (List S_Pass) × (List S_Pass)) ⊕ (((List S_Pass)))) (hm : m_impl_Passes_17 p0 p1 i17_0 l17_1 l17_2 = some y) (Q : VX → St → Prop)
    (hin : ∀ s, y = .inl s → EvU ext tbl (.c c_impl_Passes_17) K_impl_Passes_17 (s_impl_Passes_17 p0 p1 s.1 s.2.1 s.2.2) Q) (hout : ∀ e, y = .inr e → O_impl_Passes_17 Q e) : EvU ext tbl (.c c_impl_Passes_17) K_impl_Passes_17 (s_impl_Passes_17 p0 p1 i17_0 l17_1 l17_2) Q := by
  obtain ⟨h17_0, hm⟩ | ⟨h17_0, hm⟩ := split_ite hm
  · skip
    obtain ⟨x17_1, h17_1, hm⟩ := bind_some hm
    obtain ⟨x17_2, h17_2, hm⟩ := bind_some hm
    obtain ⟨x17_3, h17_3, hm⟩ := bind_some hm
    obtain ⟨h17_4, hm⟩ | ⟨h17_4, hm⟩ := split_ite hm
    · skip
      refine go_on (u' := .c c_impl_Passes_33) (K' := K_impl_Passes_33) (st' := s_impl_Passes_33 p0 p1 i17_0 x17_1 l17_1 l17_2 (decide ((w64 (Int.tdiv (w64 ((w64 ((w64 (p1 - x17_1.y)) + x17_1.stepY)) - 1)) x17_1.stepY)) > 0)) (w64 (Int.tdiv (w64 ((w64 ((w64 (p0 - x17_1.x)) + x17_1.stepX)) - 1)) x17_1.stepX)) (w64 (Int.tdiv (w64 ((w64 ((w64 (p1 - x17_1.y)) + x17_1.stepY)) - 1)) x17_1.stepY))) [.bit true, .row (rS_Pass x17_1), .bit true, .bit true, .bit true, .bit true, .num l17_1.length, .num l17_2.length] 1000 (And.intro h17_0 (And.intro (rd_in rfl h17_1) (And.intro (at_row rS_Pass (rd_get0 h17_1)) (And.intro (ck_p h17_2) (And.intro (ck_p h17_3) (And.intro h17_4 (And.intro h17_4 (And.intro h17_4 (And.intro h17_4 (And.intro (lens l17_1.length l17_1.length rfl) (And.intro (lens l17_2.length l17_2.length rfl) True.intro))))))))))) ?_ (by kernel_rfl)
      exact ok_impl_Passes_33 p0 p1 i17_0 x17_1 l17_1 l17_2 (decide ((w64 (Int.tdiv (w64 ((w64 ((w64 (p1 - x17_1.y)) + x17_1.stepY)) - 1)) x17_1.stepY)) > 0)) (w64 (Int.tdiv (w64 ((w64 ((w64 (p0 - x17_1.x)) + x17_1.stepX)) - 1)) x17_1.stepX)) (w64 (Int.tdiv (w64 ((w64 ((w64 (p1 - x17_1.y)) + x17_1.stepY)) - 1)) x17_1.stepY)) y hm Q hin hout
    · skip
      refine go_on (u' := .c c_impl_Passes_33) (K' := K_impl_Passes_33) (st' := s_impl_Passes_33 p0 p1 i17_0 x17_1 l17_1 l17_2 false (w64 (Int.tdiv (w64 ((w64 ((w64 (p0 - x17_1.x)) + x17_1.stepX)) - 1)) x17_1.stepX)) (w64 (Int.tdiv (w64 ((w64 ((w64 (p1 - x17_1.y)) + x17_1.stepY)) - 1)) x17_1.stepY))) [.bit true, .row (rS_Pass x17_1), .bit false, .bit false, .bit false, .bit false, .num l17_1.length, .num l17_2.length] 1000 (And.intro h17_0 (And.intro (rd_in rfl h17_1) (And.intro (at_row rS_Pass (rd_get0 h17_1)) (And.intro (ck_p h17_2) (And.intro (ck_p h17_3) (And.intro h17_4 (And.intro h17_4 (And.intro h17_4 (And.intro h17_4 (And.intro (lens l17_1.length l17_1.length rfl) (And.intro (lens l17_2.length l17_2.length rfl) True.intro))))))))))) ?_ (by kernel_rfl)
      exact ok_impl_Passes_33 p0 p1 i17_0 x17_1 l17_1 l17_2 false (w64 (Int.tdiv (w64 ((w64 ((w64 (p0 - x17_1.x)) + x17_1.stepX)) - 1)) x17_1.stepX)) (w64 (Int.tdiv (w64 ((w64 ((w64 (p1 - x17_1.y)) + x17_1.stepY)) - 1)) x17_1.stepY)) y hm Q hin hout
  · skip
    refine go_on (u' := .c c_impl_Passes_37) (K' := K_impl_Passes_37) (st' := s_impl_Passes_37 l17_1) [.bit false, .num l17_1.length] 1000 (And.intro h17_0 (And.intro (lens l17_1.length l17_1.length rfl) True.intro)) ?_ (by kernel_rfl)
    exact hout l17_1 (Option.some.inj hm).symm

theorem ok_impl_Passes_0 (p0 : Int) (p1 : Int) (r : (List S_Pass)) (hm : m_impl_Passes_0 p0 p1 = some r) : EvU ext tbl (.c c_impl_Passes_0) K_impl_Passes_0 (s_impl_Passes_0 p0 p1) (Post vf_impl_Passes (res_impl_Passes r)) := by
  obtain ⟨x0_0, h0_0, hm⟩ := bind_some hm
  obtain ⟨h0_1, hm⟩ | ⟨h0_1, hm⟩ := split_ite hm
  · skip
    obtain ⟨x0_2, h0_2, hm⟩ := bind_some hm
    obtain ⟨h0_3, hm⟩ | ⟨h0_3, hm⟩ := split_ite hm
    · skip
      refine go_on (u' := .c c_impl_Passes_17) (K' := K_impl_Passes_17) (st' := s_impl_Passes_17 p0 p1 0 ([] : List S_Pass) ([(S_Pass.mk 0 0 8 8 0 0), (S_Pass.mk 4 0 8 8 0 0), (S_Pass.mk 0 4 4 8 0 0), (S_Pass.mk 2 0 4 4 0 0), (S_Pass.mk 0 2 2 4 0 0), (S_Pass.mk 1 0 2 2 0 0), (S_Pass.mk 0 1 1 2 0 0)] : List S_Pass)) [.res (res_impl_goodSide x0_0), .bit false, .bit false, .res (res_impl_goodSide x0_2), .bit false, .bit false, .bit false, .rows (List.map rS_Pass ([(S_Pass.mk 0 0 8 8 0 0), (S_Pass.mk 4 0 8 8 0 0), (S_Pass.mk 0 4 4 8 0 0), (S_Pass.mk 2 0 4 4 0 0), (S_Pass.mk 0 2 2 4 0 0), (S_Pass.mk 1 0 2 2 0 0), (S_Pass.mk 0 1 1 2 0 0)] : List S_Pass)), .num 7, .num (([] : List S_Pass).length), .num (([(S_Pass.mk 0 0 8 8 0 0), (S_Pass.mk 4 0 8 8 0 0), (S_Pass.mk 0 4 4 8 0 0), (S_Pass.mk 2 0 4 4 0 0), (S_Pass.mk 0 2 2 4 0 0), (S_Pass.mk 1 0 2 2 0 0), (S_Pass.mk 0 1 1 2 0 0)] : List S_Pass).length)] 1000 (And.intro (ok_impl_goodSide p0 x0_0 h0_0) (And.intro (not_f h0_1) (And.intro (not_f h0_1) (And.intro (ok_impl_goodSide p1 x0_2 h0_2) (And.intro (not_f h0_1) (And.intro (not_f h0_1) (And.intro (not_f h0_3) (And.intro (Eq.refl (List.map rS_Pass ([(S_Pass.mk 0 0 8 8 0 0), (S_Pass.mk 4 0 8 8 0 0), (S_Pass.mk 0 4 4 8 0 0), (S_Pass.mk 2 0 4 4 0 0), (S_Pass.mk 0 2 2 4 0 0), (S_Pass.mk 1 0 2 2 0 0), (S_Pass.mk 0 1 1 2 0 0)] : List S_Pass))) (And.intro (len_map rS_Pass (show 7 = ([(S_Pass.mk 0 0 8 8 0 0), (S_Pass.mk 4 0 8 8 0 0), (S_Pass.mk 0 4 4 8 0 0), (S_Pass.mk 2 0 4 4 0 0), (S_Pass.mk 0 2 2 4 0 0), (S_Pass.mk 1 0 2 2 0 0), (S_Pass.mk 0 1 1 2 0 0)] : List S_Pass).length from rfl)) (And.intro (lens 0 (([] : List S_Pass).length) rfl) (And.intro (lens 7 (([(S_Pass.mk 0 0 8 8 0 0), (S_Pass.mk 4 0 8 8 0 0), (S_Pass.mk 0 4 4 8 0 0), (S_Pass.mk 2 0 4 4 0 0), (S_Pass.mk 0 2 2 4 0 0), (S_Pass.mk 1 0 2 2 0 0), (S_Pass.mk 0 1 1 2 0 0)] : List S_Pass).length) rfl) True.intro))))))))))) ?_ (by kernel_rfl)
      obtain ⟨e, he, hm⟩ := bind_some hm
      refine loop_rule (u := .c c_impl_Passes_17) (K := K_impl_Passes_17) (Q := (Post vf_impl_Passes (res_impl_Passes r))) (b := lp_impl_Passes_17 p0 p1) (We := O_impl_Passes_17 (Post vf_impl_Passes (res_impl_Passes r))) (stJ := fun s => s_impl_Passes_17 p0 p1 s.1 s.2.1 s.2.2) (s := (0, ([] : List S_Pass), ([(S_Pass.mk 0 0 8 8 0 0), (S_Pass.mk 4 0 8 8 0 0), (S_Pass.mk 0 4 4 8 0 0), (S_Pass.mk 2 0 4 4 0 0), (S_Pass.mk 0 2 2 4 0 0), (S_Pass.mk 1 0 2 2 0 0), (S_Pass.mk 0 1 1 2 0 0)] : List S_Pass))) (fun s y hb hin hout => ok_impl_Passes_17 p0 p1 s.1 s.2.1 s.2.2 y hb (Post vf_impl_Passes (res_impl_Passes r)) hin hout) he ?_
      show EvU ext tbl (.c c_impl_Passes_37) K_impl_Passes_37 (s_impl_Passes_37 e) _
      exact ok_impl_Passes_37 e r hm
    · skip
      exact go_end [.res (res_impl_goodSide x0_0), .bit false, .bit false, .res (res_impl_goodSide x0_2), .bit false, .bit false, .bit true, .rows (List.map rS_Pass ([] : List S_Pass))] 1000 (And.intro (ok_impl_goodSide p0 x0_0 h0_0) (And.intro (not_f h0_1) (And.intro (not_f h0_1) (And.intro (ok_impl_goodSide p1 x0_2 h0_2) (And.intro (not_f h0_1) (And.intro (not_f h0_1) (And.intro (not_t h0_3) (And.intro (all_le0 rS_Pass ([] : List S_Pass) rfl) (And.intro (all_t rS_Pass ([] : List S_Pass) rfl) True.intro))))))))) (congrArg res_impl_Passes (Option.some.inj hm)) (by kernel_rfl)
  · skip
    exact go_end [.res (res_impl_goodSide x0_0), .bit true, .bit true, .bit true, .bit true, .bit true, .rows (List.map rS_Pass ([] : List S_Pass))] 1000 (And.intro (ok_impl_goodSide p0 x0_0 h0_0) (And.intro (not_t h0_1) (And.intro (not_t h0_1) (And.intro (not_t h0_1) (And.intro (not_t h0_1) (And.intro (Eq.refl true) (And.intro (all_le0 rS_Pass ([] : List S_Pass) rfl) (And.intro (all_t rS_Pass ([] : List S_Pass) rfl) True.intro)))))))) (congrArg res_impl_Passes (Option.some.inj hm)) (by kernel_rfl)

theorem ok_impl_Passes (p0 : Int) (p1 : Int) (r : (List S_Pass)) (hm : m_impl_Passes p0 p1 = some r) : Runs ext tbl 216 (as_impl_Passes p0 p1) (res_impl_Passes r) :=
  runs_of (vf := vf_impl_Passes) (by kernel_rfl) rfl (st := (enter vf_impl_Passes (as_impl_Passes p0 p1)).getD default) (by kernel_rfl) (go_on [] 1000 True.intro (ok_impl_Passes_0 p0 p1 r hm) (by kernel_rfl))
def O_impl_shapes_17 (Q : VX → St → Prop) (e : ((List S__2_int))) : Prop := EvU ext tbl (.c c_impl_shapes_29) K_impl_shapes_29 (s_impl_shapes_29 e) Q
theorem ok_impl_shapes_29 (l29_0 : (List S__2_int)) (r : (List S__2_int)) (hm : m_impl_shapes_29 l29_0 = some r) : EvU ext tbl (.c c_impl_shapes_29) K_impl_shapes_29 (s_impl_shapes_29 l29_0) (Post vf_impl_shapes (res_impl_shapes r)) := by
  exact go_end [.rows (List.map rS__2_int l29_0)] 1000 (And.intro (all_le0 rS__2_int l29_0 rfl) (And.intro (all_t rS__2_int l29_0 rfl) True.intro)) (congrArg res_impl_shapes (Option.some.inj hm)) (by kernel_rfl)

end Go.Proofs.V
