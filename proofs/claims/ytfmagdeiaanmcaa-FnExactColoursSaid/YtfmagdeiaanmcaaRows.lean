/-
  No cell of these rows narrows 'for every input' (looked for: loops, veiled, ifaces, maps, wideKeys, modest, calm, conditions, laid).
  DERIVED. THE GIVEN ROWS OF THIS SEAT. 9 by the template 'for every input the law returns true; each argument reads behind the call as it read before'; 0 by the template 'total and deterministic' (their statements: YtfmagdeiaanmcaaTotals.lean).
  GIVEN WITH THE SEED: the statements are not yours to turn. If you find one false, say at which input.
  Laid BY PROGRAM, IN A SANDBOX (cutbox-rows.mjs): the forced cells as the released guide's own fill.sh prints them over the translation ad040c54c6944d20… (all of the seat's roots in one cut). By AI agents, Wed Nov 11 2026. No macro, syntax, notation, axiom, sorry.
-/
import Derived.Test.YtfmagdeiaanmcaaChecked
import GoSem.Claim
import GoSem.ClaimJoined
import GoSem.ClaimMapViews
import Derived.JoinedTies
import Derived.KernelRfl
namespace Go.Proofs.Ytfmagdeiaanmcaa
/- THE CELL 'sum', in the pinned program and in every row, IS THE sha256 OF THE DUMP (.gsa) THAT YtfmagdeiaanmcaaProg.lean LOADS. Nothing in Lean hashes anything: it is a label: what it is worth is what the hold of that sum in a sandbox is worth. -/
noncomputable def Try.pinned : Pinned := { name := "ytfmagdeiaanmcaa", sum := "ad040c54c6944d2012ea2c321ff5b160d9344a8a2f462345e48ec24aae87e198", checked := Try.checked }
namespace Rows
def none {H : Type} : Left H := { results := [], args := [] }

/-- 'laws.FnExactEncodeTones': WHATEVER THE INPUT: true; the input reads as it did. -/
def fnExactEncodeTonesSpec : ChangeSpec := { name := "fnExactEncodeTones", fn := fun _ => fun
  | [d] => { results := [.lit (.bool true)], args := [d] }
  | _ => none }
def fnExactEncodeTonesRow : OpenClaim := { program := "ytfmagdeiaanmcaa", sum := "ad040c54c6944d2012ea2c321ff5b160d9344a8a2f462345e48ec24aae87e198", func := "loop.example/g00016/laws.FnExactEncodeTones", spec := "fnExactEncodeTones", plainKeys := false, apart := false }
def FnExactEncodeTonesSaid : Prop := fnExactEncodeTonesRow.holds Try.pinned (OpenSpec.ofChange fnExactEncodeTonesSpec)

/-- ITS FALSE NEIGHBOUR: 'it returns false'. Refute it at one input. -/
def fnExactEncodeTonesWrong : ChangeSpec := { name := "fnExactEncodeTones", fn := fun _ => fun
  | [d] => { results := [.lit (.bool false)], args := [d] }
  | _ => none }
def FnExactEncodeTonesWrongFalsely : Prop := fnExactEncodeTonesRow.holds Try.pinned (OpenSpec.ofChange fnExactEncodeTonesWrong)

/-- 'laws.FnExactDecodeTones': WHATEVER THE INPUT: true; the input reads as it did. -/
def fnExactDecodeTonesSpec : ChangeSpec := { name := "fnExactDecodeTones", fn := fun _ => fun
  | [d] => { results := [.lit (.bool true)], args := [d] }
  | _ => none }
def fnExactDecodeTonesRow : OpenClaim := { program := "ytfmagdeiaanmcaa", sum := "ad040c54c6944d2012ea2c321ff5b160d9344a8a2f462345e48ec24aae87e198", func := "loop.example/g00016/laws.FnExactDecodeTones", spec := "fnExactDecodeTones", unfollowed := true, recurses := true, plainKeys := false, apart := false }
def FnExactDecodeTonesSaid : Prop := fnExactDecodeTonesRow.holds Try.pinned (OpenSpec.ofChange fnExactDecodeTonesSpec)

/-- ITS FALSE NEIGHBOUR: 'it returns false'. Refute it at one input. -/
def fnExactDecodeTonesWrong : ChangeSpec := { name := "fnExactDecodeTones", fn := fun _ => fun
  | [d] => { results := [.lit (.bool false)], args := [d] }
  | _ => none }
def FnExactDecodeTonesWrongFalsely : Prop := fnExactDecodeTonesRow.holds Try.pinned (OpenSpec.ofChange fnExactDecodeTonesWrong)

/-- 'laws.FnExactGoodStill': WHATEVER THE INPUT: true; the input reads as it did. -/
def fnExactGoodStillSpec : ChangeSpec := { name := "fnExactGoodStill", fn := fun _ => fun
  | [d] => { results := [.lit (.bool true)], args := [d] }
  | _ => none }
def fnExactGoodStillRow : OpenClaim := { program := "ytfmagdeiaanmcaa", sum := "ad040c54c6944d2012ea2c321ff5b160d9344a8a2f462345e48ec24aae87e198", func := "loop.example/g00016/laws.FnExactGoodStill", spec := "fnExactGoodStill", inPlace := ["internal/bytealg.IndexByteString"], plainKeys := false, apart := false }
def FnExactGoodStillSaid : Prop := fnExactGoodStillRow.holds Try.pinned (OpenSpec.ofChange fnExactGoodStillSpec)

/-- ITS FALSE NEIGHBOUR: 'it returns false'. Refute it at one input. -/
def fnExactGoodStillWrong : ChangeSpec := { name := "fnExactGoodStill", fn := fun _ => fun
  | [d] => { results := [.lit (.bool false)], args := [d] }
  | _ => none }
def FnExactGoodStillWrongFalsely : Prop := fnExactGoodStillRow.holds Try.pinned (OpenSpec.ofChange fnExactGoodStillWrong)

/-- 'laws.FnExactWriteParts': WHATEVER THE INPUT: true; the input reads as it did. -/
def fnExactWritePartsSpec : ChangeSpec := { name := "fnExactWriteParts", fn := fun _ => fun
  | [d] => { results := [.lit (.bool true)], args := [d] }
  | _ => none }
def fnExactWritePartsRow : OpenClaim := { program := "ytfmagdeiaanmcaa", sum := "ad040c54c6944d2012ea2c321ff5b160d9344a8a2f462345e48ec24aae87e198", func := "loop.example/g00016/laws.FnExactWriteParts", spec := "fnExactWriteParts", unfollowed := true, recurses := true, plainKeys := false, apart := false }
def FnExactWritePartsSaid : Prop := fnExactWritePartsRow.holds Try.pinned (OpenSpec.ofChange fnExactWritePartsSpec)

/-- ITS FALSE NEIGHBOUR: 'it returns false'. Refute it at one input. -/
def fnExactWritePartsWrong : ChangeSpec := { name := "fnExactWriteParts", fn := fun _ => fun
  | [d] => { results := [.lit (.bool false)], args := [d] }
  | _ => none }
def FnExactWritePartsWrongFalsely : Prop := fnExactWritePartsRow.holds Try.pinned (OpenSpec.ofChange fnExactWritePartsWrong)

/-- 'laws.FnExactScreens': WHATEVER THE INPUT: true; the input reads as it did. -/
def fnExactScreensSpec : ChangeSpec := { name := "fnExactScreens", fn := fun _ => fun
  | [d] => { results := [.lit (.bool true)], args := [d] }
  | _ => none }
def fnExactScreensRow : OpenClaim := { program := "ytfmagdeiaanmcaa", sum := "ad040c54c6944d2012ea2c321ff5b160d9344a8a2f462345e48ec24aae87e198", func := "loop.example/g00016/laws.FnExactScreens", spec := "fnExactScreens", plainKeys := false, apart := false }
def FnExactScreensSaid : Prop := fnExactScreensRow.holds Try.pinned (OpenSpec.ofChange fnExactScreensSpec)

/-- ITS FALSE NEIGHBOUR: 'it returns false'. Refute it at one input. -/
def fnExactScreensWrong : ChangeSpec := { name := "fnExactScreens", fn := fun _ => fun
  | [d] => { results := [.lit (.bool false)], args := [d] }
  | _ => none }
def FnExactScreensWrongFalsely : Prop := fnExactScreensRow.holds Try.pinned (OpenSpec.ofChange fnExactScreensWrong)

/-- 'laws.FnBook': WHATEVER THE INPUT: true; the input reads as it did. -/
def fnBookSpec : ChangeSpec := { name := "fnBook", fn := fun _ => fun
  | [d] => { results := [.lit (.bool true)], args := [d] }
  | _ => none }
def fnBookRow : OpenClaim := { program := "ytfmagdeiaanmcaa", sum := "ad040c54c6944d2012ea2c321ff5b160d9344a8a2f462345e48ec24aae87e198", func := "loop.example/g00016/laws.FnBook", spec := "fnBook", plainKeys := false, apart := false }
def FnBookSaid : Prop := fnBookRow.holds Try.pinned (OpenSpec.ofChange fnBookSpec)

/-- ITS FALSE NEIGHBOUR: 'it returns false'. Refute it at one input. -/
def fnBookWrong : ChangeSpec := { name := "fnBook", fn := fun _ => fun
  | [d] => { results := [.lit (.bool false)], args := [d] }
  | _ => none }
def FnBookWrongFalsely : Prop := fnBookRow.holds Try.pinned (OpenSpec.ofChange fnBookWrong)

/-- 'laws.FnNearest': WHATEVER THE INPUT: true; the input reads as it did. -/
def fnNearestSpec : ChangeSpec := { name := "fnNearest", fn := fun _ => fun
  | [d1, d2] => { results := [.lit (.bool true)], args := [d1, d2] }
  | _ => none }
def fnNearestRow : OpenClaim := { program := "ytfmagdeiaanmcaa", sum := "ad040c54c6944d2012ea2c321ff5b160d9344a8a2f462345e48ec24aae87e198", func := "loop.example/g00016/laws.FnNearest", spec := "fnNearest", unfollowed := true, recurses := true, plainKeys := false, apart := false }
def FnNearestSaid : Prop := fnNearestRow.holds Try.pinned (OpenSpec.ofChange fnNearestSpec)

/-- ITS FALSE NEIGHBOUR: 'it returns false'. Refute it at one input. -/
def fnNearestWrong : ChangeSpec := { name := "fnNearest", fn := fun _ => fun
  | [d1, d2] => { results := [.lit (.bool false)], args := [d1, d2] }
  | _ => none }
def FnNearestWrongFalsely : Prop := fnNearestRow.holds Try.pinned (OpenSpec.ofChange fnNearestWrong)

/-- 'laws.FnExactCodeLengths': WHATEVER THE INPUT: true; the input reads as it did. -/
def fnExactCodeLengthsSpec : ChangeSpec := { name := "fnExactCodeLengths", fn := fun _ => fun
  | [d1, d2] => { results := [.lit (.bool true)], args := [d1, d2] }
  | _ => none }
def fnExactCodeLengthsRow : OpenClaim := { program := "ytfmagdeiaanmcaa", sum := "ad040c54c6944d2012ea2c321ff5b160d9344a8a2f462345e48ec24aae87e198", func := "loop.example/g00016/laws.FnExactCodeLengths", spec := "fnExactCodeLengths", inPlace := ["internal/reflectlite.ValueOf", "internal/reflectlite.Swapper", "(internal/reflectlite.Value).Len"], unfollowed := true, recurses := true, plainKeys := false, apart := false }
def FnExactCodeLengthsSaid : Prop := fnExactCodeLengthsRow.holds Try.pinned (OpenSpec.ofChange fnExactCodeLengthsSpec)

/-- ITS FALSE NEIGHBOUR: 'it returns false'. Refute it at one input. -/
def fnExactCodeLengthsWrong : ChangeSpec := { name := "fnExactCodeLengths", fn := fun _ => fun
  | [d1, d2] => { results := [.lit (.bool false)], args := [d1, d2] }
  | _ => none }
def FnExactCodeLengthsWrongFalsely : Prop := fnExactCodeLengthsRow.holds Try.pinned (OpenSpec.ofChange fnExactCodeLengthsWrong)

/-- 'laws.FnExactColours': WHATEVER THE INPUT: true; the input reads as it did. -/
def fnExactColoursSpec : ChangeSpec := { name := "fnExactColours", fn := fun _ => fun
  | [d] => { results := [.lit (.bool true)], args := [d] }
  | _ => none }
def fnExactColoursRow : OpenClaim := { program := "ytfmagdeiaanmcaa", sum := "ad040c54c6944d2012ea2c321ff5b160d9344a8a2f462345e48ec24aae87e198", func := "loop.example/g00016/laws.FnExactColours", spec := "fnExactColours", inPlace := ["internal/bytealg.IndexByteString"], plainKeys := false, apart := false }
def FnExactColoursSaid : Prop := fnExactColoursRow.holds Try.pinned (OpenSpec.ofChange fnExactColoursSpec)

/-- ITS FALSE NEIGHBOUR: 'it returns false'. Refute it at one input. -/
def fnExactColoursWrong : ChangeSpec := { name := "fnExactColours", fn := fun _ => fun
  | [d] => { results := [.lit (.bool false)], args := [d] }
  | _ => none }
def FnExactColoursWrongFalsely : Prop := fnExactColoursRow.holds Try.pinned (OpenSpec.ofChange fnExactColoursWrong)

/- THE SECOND FORM. 'bulk': how many values and letters a reading holds, each counted each time it is reached (what is shared counts as often as it is met; a slice's spare places count too). A statement '..UptoSaid' is the law's where the arguments, and the package variables that the reading takes, are together of bulk at most 1048576: NARROWER than '..Said'. Prove '..Said' where nothing that the law and all that it calls make is longer than what came in: it says more and counts as full. Else prove '..UptoSaid'. A law counts once. -/
mutual
def uptoBulk {H : Type} : DataW H → Nat
  | .lit (.string bytes) => bytes.length + 1
  | .lit _ => 1
  | .nil => 1
  | .ptr d => uptoBulk d + 1
  | .slice elems spare => uptoBulkAll elems + uptoBulkAll spare + 1
  | .agg parts => uptoBulkAll parts + 1
  | .iface _ d => uptoBulk d + 1
  | .map entries => uptoBulkEntries entries + 1
  | .held _ => 1
def uptoBulkAll {H : Type} : List (DataW H) → Nat
  | [] => 0
  | d :: r => uptoBulk d + uptoBulkAll r
def uptoBulkEntries {H : Type} : List (Lit × DataW H) → Nat
  | [] => 0
  | x :: r => uptoBulkEntry x + uptoBulkEntries r
def uptoBulkEntry {H : Type} : Lit × DataW H → Nat
  | (.string bytes, d) => bytes.length + uptoBulk d + 1
  | (_, d) => uptoBulk d + 1
 end
def uptoSmall : (H : Type) → List (DataW H) → Bool := fun _ ds => decide (uptoBulkAll ds ≤ 1048576)
def OpenSpec.upto (s : _root_.Go.ChangeSpec) : _root_.Go.OpenSpec := { _root_.Go.OpenSpec.ofChange s with cond := some uptoSmall }

/-- 'laws.FnExactEncodeTones', WHERE WHAT IT READS IS OF BULK AT MOST 1048576: true; the input reads as it did. -/
def fnExactEncodeTonesUptoRow : OpenClaim := { program := "ytfmagdeiaanmcaa", sum := "ad040c54c6944d2012ea2c321ff5b160d9344a8a2f462345e48ec24aae87e198", func := "loop.example/g00016/laws.FnExactEncodeTones", spec := "fnExactEncodeTones", plainKeys := false, apart := false, narrowed := true }
def FnExactEncodeTonesUptoSaid : Prop := fnExactEncodeTonesUptoRow.holds Try.pinned (OpenSpec.upto fnExactEncodeTonesSpec)

/-- 'laws.FnExactDecodeTones', WHERE WHAT IT READS IS OF BULK AT MOST 1048576: true; the input reads as it did. -/
def fnExactDecodeTonesUptoRow : OpenClaim := { program := "ytfmagdeiaanmcaa", sum := "ad040c54c6944d2012ea2c321ff5b160d9344a8a2f462345e48ec24aae87e198", func := "loop.example/g00016/laws.FnExactDecodeTones", spec := "fnExactDecodeTones", unfollowed := true, recurses := true, plainKeys := false, apart := false, narrowed := true }
def FnExactDecodeTonesUptoSaid : Prop := fnExactDecodeTonesUptoRow.holds Try.pinned (OpenSpec.upto fnExactDecodeTonesSpec)

/-- 'laws.FnExactGoodStill', WHERE WHAT IT READS IS OF BULK AT MOST 1048576: true; the input reads as it did. -/
def fnExactGoodStillUptoRow : OpenClaim := { program := "ytfmagdeiaanmcaa", sum := "ad040c54c6944d2012ea2c321ff5b160d9344a8a2f462345e48ec24aae87e198", func := "loop.example/g00016/laws.FnExactGoodStill", spec := "fnExactGoodStill", inPlace := ["internal/bytealg.IndexByteString"], plainKeys := false, apart := false, narrowed := true }
def FnExactGoodStillUptoSaid : Prop := fnExactGoodStillUptoRow.holds Try.pinned (OpenSpec.upto fnExactGoodStillSpec)

/-- 'laws.FnExactWriteParts', WHERE WHAT IT READS IS OF BULK AT MOST 1048576: true; the input reads as it did. -/
def fnExactWritePartsUptoRow : OpenClaim := { program := "ytfmagdeiaanmcaa", sum := "ad040c54c6944d2012ea2c321ff5b160d9344a8a2f462345e48ec24aae87e198", func := "loop.example/g00016/laws.FnExactWriteParts", spec := "fnExactWriteParts", unfollowed := true, recurses := true, plainKeys := false, apart := false, narrowed := true }
def FnExactWritePartsUptoSaid : Prop := fnExactWritePartsUptoRow.holds Try.pinned (OpenSpec.upto fnExactWritePartsSpec)

/-- 'laws.FnExactScreens', WHERE WHAT IT READS IS OF BULK AT MOST 1048576: true; the input reads as it did. -/
def fnExactScreensUptoRow : OpenClaim := { program := "ytfmagdeiaanmcaa", sum := "ad040c54c6944d2012ea2c321ff5b160d9344a8a2f462345e48ec24aae87e198", func := "loop.example/g00016/laws.FnExactScreens", spec := "fnExactScreens", plainKeys := false, apart := false, narrowed := true }
def FnExactScreensUptoSaid : Prop := fnExactScreensUptoRow.holds Try.pinned (OpenSpec.upto fnExactScreensSpec)

/-- 'laws.FnBook', WHERE WHAT IT READS IS OF BULK AT MOST 1048576: true; the input reads as it did. -/
def fnBookUptoRow : OpenClaim := { program := "ytfmagdeiaanmcaa", sum := "ad040c54c6944d2012ea2c321ff5b160d9344a8a2f462345e48ec24aae87e198", func := "loop.example/g00016/laws.FnBook", spec := "fnBook", plainKeys := false, apart := false, narrowed := true }
def FnBookUptoSaid : Prop := fnBookUptoRow.holds Try.pinned (OpenSpec.upto fnBookSpec)

/-- 'laws.FnNearest', WHERE WHAT IT READS IS OF BULK AT MOST 1048576: true; the input reads as it did. -/
def fnNearestUptoRow : OpenClaim := { program := "ytfmagdeiaanmcaa", sum := "ad040c54c6944d2012ea2c321ff5b160d9344a8a2f462345e48ec24aae87e198", func := "loop.example/g00016/laws.FnNearest", spec := "fnNearest", unfollowed := true, recurses := true, plainKeys := false, apart := false, narrowed := true }
def FnNearestUptoSaid : Prop := fnNearestUptoRow.holds Try.pinned (OpenSpec.upto fnNearestSpec)

/-- 'laws.FnExactCodeLengths', WHERE WHAT IT READS IS OF BULK AT MOST 1048576: true; the input reads as it did. -/
def fnExactCodeLengthsUptoRow : OpenClaim := { program := "ytfmagdeiaanmcaa", sum := "ad040c54c6944d2012ea2c321ff5b160d9344a8a2f462345e48ec24aae87e198", func := "loop.example/g00016/laws.FnExactCodeLengths", spec := "fnExactCodeLengths", inPlace := ["internal/reflectlite.ValueOf", "internal/reflectlite.Swapper", "(internal/reflectlite.Value).Len"], unfollowed := true, recurses := true, plainKeys := false, apart := false, narrowed := true }
def FnExactCodeLengthsUptoSaid : Prop := fnExactCodeLengthsUptoRow.holds Try.pinned (OpenSpec.upto fnExactCodeLengthsSpec)

/-- 'laws.FnExactColours', WHERE WHAT IT READS IS OF BULK AT MOST 1048576: true; the input reads as it did. -/
def fnExactColoursUptoRow : OpenClaim := { program := "ytfmagdeiaanmcaa", sum := "ad040c54c6944d2012ea2c321ff5b160d9344a8a2f462345e48ec24aae87e198", func := "loop.example/g00016/laws.FnExactColours", spec := "fnExactColours", inPlace := ["internal/bytealg.IndexByteString"], plainKeys := false, apart := false, narrowed := true }
def FnExactColoursUptoSaid : Prop := fnExactColoursUptoRow.holds Try.pinned (OpenSpec.upto fnExactColoursSpec)

end Rows
end Go.Proofs.Ytfmagdeiaanmcaa
