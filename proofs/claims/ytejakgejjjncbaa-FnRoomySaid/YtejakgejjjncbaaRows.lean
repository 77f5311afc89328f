/-
  No cell of these rows narrows 'for every input' (looked for: loops, veiled, ifaces, maps, wideKeys, modest, calm, conditions, laid).
  DERIVED. THE GIVEN ROWS OF THIS SEAT. 5 by the template 'for every input the law returns true; each argument reads behind the call as it read before'; 0 by the template 'total and deterministic' (their statements: YtejakgejjjncbaaTotals.lean).
  GIVEN WITH THE SEED: the statements are not yours to turn. If you find one false, say at which input.
  Laid BY PROGRAM, IN A SANDBOX (cutbox-rows.mjs): the forced cells as the released guide's own fill.sh prints them over the translation 8e2ef91f29d23171… (all of the seat's roots in one cut). By AI agents, Wed Nov 11 2026. No macro, syntax, notation, axiom, sorry.
-/
import Derived.Test.YtejakgejjjncbaaChecked
import GoSem.Claim
import GoSem.ClaimJoined
import GoSem.ClaimMapViews
import Derived.JoinedTies
import Derived.KernelRfl
namespace Go.Proofs.Ytejakgejjjncbaa
/- THE CELL 'sum', in the pinned program and in every row, IS THE sha256 OF THE DUMP (.gsa) THAT YtejakgejjjncbaaProg.lean LOADS. Nothing in Lean hashes anything: it is a label: what it is worth is what the hold of that sum in a sandbox is worth. -/
noncomputable def Try.pinned : Pinned := { name := "ytejakgejjjncbaa", sum := "8e2ef91f29d23171f84d82c55ace69e8aa9077cb6f73950c351781d0c397e6b8", checked := Try.checked }
namespace Rows
def none {H : Type} : Left H := { results := [], args := [] }

/-- 'laws.FnRoomy': WHATEVER THE INPUT: true; the input reads as it did. -/
def fnRoomySpec : ChangeSpec := { name := "fnRoomy", fn := fun _ => fun
  | [d] => { results := [.lit (.bool true)], args := [d] }
  | _ => none }
def fnRoomyRow : OpenClaim := { program := "ytejakgejjjncbaa", sum := "8e2ef91f29d23171f84d82c55ace69e8aa9077cb6f73950c351781d0c397e6b8", func := "loop.example/g00016/laws.FnRoomy", spec := "fnRoomy", inPlace := ["internal/bytealg.IndexByteString", "internal/bytealg.IndexString"], named := ["internal/bytealg.MaxLen"], apart := false }
def FnRoomySaid : Prop := fnRoomyRow.holds Try.pinned (OpenSpec.ofChange fnRoomySpec)

/-- ITS FALSE NEIGHBOUR: 'it returns false'. Refute it at one input. -/
def fnRoomyWrong : ChangeSpec := { name := "fnRoomy", fn := fun _ => fun
  | [d] => { results := [.lit (.bool false)], args := [d] }
  | _ => none }
def FnRoomyWrongFalsely : Prop := fnRoomyRow.holds Try.pinned (OpenSpec.ofChange fnRoomyWrong)

/-- 'laws.FnExactShownAt': WHATEVER THE INPUT: true; the input reads as it did. -/
def fnExactShownAtSpec : ChangeSpec := { name := "fnExactShownAt", fn := fun _ => fun
  | [d1, d2] => { results := [.lit (.bool true)], args := [d1, d2] }
  | _ => none }
def fnExactShownAtRow : OpenClaim := { program := "ytejakgejjjncbaa", sum := "8e2ef91f29d23171f84d82c55ace69e8aa9077cb6f73950c351781d0c397e6b8", func := "loop.example/g00016/laws.FnExactShownAt", spec := "fnExactShownAt", inPlace := ["internal/bytealg.IndexByteString", "internal/bytealg.IndexString"], named := ["internal/bytealg.MaxLen"], apart := false }
def FnExactShownAtSaid : Prop := fnExactShownAtRow.holds Try.pinned (OpenSpec.ofChange fnExactShownAtSpec)

/-- ITS FALSE NEIGHBOUR: 'it returns false'. Refute it at one input. -/
def fnExactShownAtWrong : ChangeSpec := { name := "fnExactShownAt", fn := fun _ => fun
  | [d1, d2] => { results := [.lit (.bool false)], args := [d1, d2] }
  | _ => none }
def FnExactShownAtWrongFalsely : Prop := fnExactShownAtRow.holds Try.pinned (OpenSpec.ofChange fnExactShownAtWrong)

/-- 'laws.FnExactRetime': WHATEVER THE INPUT: true; the input reads as it did. -/
def fnExactRetimeSpec : ChangeSpec := { name := "fnExactRetime", fn := fun _ => fun
  | [d1, d2, d3, d4] => { results := [.lit (.bool true)], args := [d1, d2, d3, d4] }
  | _ => none }
def fnExactRetimeRow : OpenClaim := { program := "ytejakgejjjncbaa", sum := "8e2ef91f29d23171f84d82c55ace69e8aa9077cb6f73950c351781d0c397e6b8", func := "loop.example/g00016/laws.FnExactRetime", spec := "fnExactRetime", inPlace := ["internal/bytealg.IndexByteString", "internal/bytealg.IndexString"], named := ["internal/bytealg.MaxLen"], apart := false }
def FnExactRetimeSaid : Prop := fnExactRetimeRow.holds Try.pinned (OpenSpec.ofChange fnExactRetimeSpec)

/-- ITS FALSE NEIGHBOUR: 'it returns false'. Refute it at one input. -/
def fnExactRetimeWrong : ChangeSpec := { name := "fnExactRetime", fn := fun _ => fun
  | [d1, d2, d3, d4] => { results := [.lit (.bool false)], args := [d1, d2, d3, d4] }
  | _ => none }
def FnExactRetimeWrongFalsely : Prop := fnExactRetimeRow.holds Try.pinned (OpenSpec.ofChange fnExactRetimeWrong)

/-- 'laws.FnRetimed': WHATEVER THE INPUT: true; the input reads as it did. -/
def fnRetimedSpec : ChangeSpec := { name := "fnRetimed", fn := fun _ => fun
  | [d] => { results := [.lit (.bool true)], args := [d] }
  | _ => none }
def fnRetimedRow : OpenClaim := { program := "ytejakgejjjncbaa", sum := "8e2ef91f29d23171f84d82c55ace69e8aa9077cb6f73950c351781d0c397e6b8", func := "loop.example/g00016/laws.FnRetimed", spec := "fnRetimed", inPlace := ["internal/bytealg.IndexByteString", "internal/bytealg.IndexString"], named := ["internal/bytealg.MaxLen"], apart := false }
def FnRetimedSaid : Prop := fnRetimedRow.holds Try.pinned (OpenSpec.ofChange fnRetimedSpec)

/-- ITS FALSE NEIGHBOUR: 'it returns false'. Refute it at one input. -/
def fnRetimedWrong : ChangeSpec := { name := "fnRetimed", fn := fun _ => fun
  | [d] => { results := [.lit (.bool false)], args := [d] }
  | _ => none }
def FnRetimedWrongFalsely : Prop := fnRetimedRow.holds Try.pinned (OpenSpec.ofChange fnRetimedWrong)

/-- 'laws.FnExactRowsOf': WHATEVER THE INPUT: true; the input reads as it did. -/
def fnExactRowsOfSpec : ChangeSpec := { name := "fnExactRowsOf", fn := fun _ => fun
  | [d1, d2] => { results := [.lit (.bool true)], args := [d1, d2] }
  | _ => none }
def fnExactRowsOfRow : OpenClaim := { program := "ytejakgejjjncbaa", sum := "8e2ef91f29d23171f84d82c55ace69e8aa9077cb6f73950c351781d0c397e6b8", func := "loop.example/g00016/laws.FnExactRowsOf", spec := "fnExactRowsOf", inPlace := ["internal/bytealg.IndexByteString", "internal/bytealg.IndexString"], named := ["internal/bytealg.MaxLen"], apart := false }
def FnExactRowsOfSaid : Prop := fnExactRowsOfRow.holds Try.pinned (OpenSpec.ofChange fnExactRowsOfSpec)

/-- ITS FALSE NEIGHBOUR: 'it returns false'. Refute it at one input. -/
def fnExactRowsOfWrong : ChangeSpec := { name := "fnExactRowsOf", fn := fun _ => fun
  | [d1, d2] => { results := [.lit (.bool false)], args := [d1, d2] }
  | _ => none }
def FnExactRowsOfWrongFalsely : Prop := fnExactRowsOfRow.holds Try.pinned (OpenSpec.ofChange fnExactRowsOfWrong)

/- THE SECOND FORM. 'bulk': how many values and letters a reading holds, each counted each time it is reached (what is shared counts as often as it is met; a slice's spare places count too). A statement '..UptoSaid' is the law's where the arguments, and the package variables that the reading takes, are together of bulk at most 1048576: NARROWER than '..Said'. Prove '..Said' where nothing that the law and all that it calls make is longer than what came in: it says more and counts as full. Else prove '..UptoSaid'. A law counts once. -/
mutual
def uptoBulk {H : Type} : DataW H → Nat
  | .lit (.string bytes) => bytes.length + 1
  | .lit _ => 1
  | .nil => 1
  | .ptr d => uptoBulk d + 1
  | .slice elems spare => uptoBulkAll elems + uptoBulkAll spare + 1
  | .agg parts => uptoBulkAll parts + 1
  | .iface _ d => uptoBulk d + 1
  | .map entries => uptoBulkEntries entries + 1
  | .held _ => 1
def uptoBulkAll {H : Type} : List (DataW H) → Nat
  | [] => 0
  | d :: r => uptoBulk d + uptoBulkAll r
def uptoBulkEntries {H : Type} : List (Lit × DataW H) → Nat
  | [] => 0
  | x :: r => uptoBulkEntry x + uptoBulkEntries r
def uptoBulkEntry {H : Type} : Lit × DataW H → Nat
  | (.string bytes, d) => bytes.length + uptoBulk d + 1
  | (_, d) => uptoBulk d + 1
 end
def uptoSmall : (H : Type) → List (DataW H) → Bool := fun _ ds => decide (uptoBulkAll ds ≤ 1048576)
def OpenSpec.upto (s : _root_.Go.ChangeSpec) : _root_.Go.OpenSpec := { _root_.Go.OpenSpec.ofChange s with cond := some uptoSmall }

/-- 'laws.FnRoomy', WHERE WHAT IT READS IS OF BULK AT MOST 1048576: true; the input reads as it did. -/
def fnRoomyUptoRow : OpenClaim := { program := "ytejakgejjjncbaa", sum := "8e2ef91f29d23171f84d82c55ace69e8aa9077cb6f73950c351781d0c397e6b8", func := "loop.example/g00016/laws.FnRoomy", spec := "fnRoomy", inPlace := ["internal/bytealg.IndexByteString", "internal/bytealg.IndexString"], named := ["internal/bytealg.MaxLen"], apart := false, narrowed := true }
def FnRoomyUptoSaid : Prop := fnRoomyUptoRow.holds Try.pinned (OpenSpec.upto fnRoomySpec)

/-- 'laws.FnExactShownAt', WHERE WHAT IT READS IS OF BULK AT MOST 1048576: true; the input reads as it did. -/
def fnExactShownAtUptoRow : OpenClaim := { program := "ytejakgejjjncbaa", sum := "8e2ef91f29d23171f84d82c55ace69e8aa9077cb6f73950c351781d0c397e6b8", func := "loop.example/g00016/laws.FnExactShownAt", spec := "fnExactShownAt", inPlace := ["internal/bytealg.IndexByteString", "internal/bytealg.IndexString"], named := ["internal/bytealg.MaxLen"], apart := false, narrowed := true }
def FnExactShownAtUptoSaid : Prop := fnExactShownAtUptoRow.holds Try.pinned (OpenSpec.upto fnExactShownAtSpec)

/-- 'laws.FnExactRetime', WHERE WHAT IT READS IS OF BULK AT MOST 1048576: true; the input reads as it did. -/
def fnExactRetimeUptoRow : OpenClaim := { program := "ytejakgejjjncbaa", sum := "8e2ef91f29d23171f84d82c55ace69e8aa9077cb6f73950c351781d0c397e6b8", func := "loop.example/g00016/laws.FnExactRetime", spec := "fnExactRetime", inPlace := ["internal/bytealg.IndexByteString", "internal/bytealg.IndexString"], named := ["internal/bytealg.MaxLen"], apart := false, narrowed := true }
def FnExactRetimeUptoSaid : Prop := fnExactRetimeUptoRow.holds Try.pinned (OpenSpec.upto fnExactRetimeSpec)

/-- 'laws.FnRetimed', WHERE WHAT IT READS IS OF BULK AT MOST 1048576: true; the input reads as it did. -/
def fnRetimedUptoRow : OpenClaim := { program := "ytejakgejjjncbaa", sum := "8e2ef91f29d23171f84d82c55ace69e8aa9077cb6f73950c351781d0c397e6b8", func := "loop.example/g00016/laws.FnRetimed", spec := "fnRetimed", inPlace := ["internal/bytealg.IndexByteString", "internal/bytealg.IndexString"], named := ["internal/bytealg.MaxLen"], apart := false, narrowed := true }
def FnRetimedUptoSaid : Prop := fnRetimedUptoRow.holds Try.pinned (OpenSpec.upto fnRetimedSpec)

/-- 'laws.FnExactRowsOf', WHERE WHAT IT READS IS OF BULK AT MOST 1048576: true; the input reads as it did. -/
def fnExactRowsOfUptoRow : OpenClaim := { program := "ytejakgejjjncbaa", sum := "8e2ef91f29d23171f84d82c55ace69e8aa9077cb6f73950c351781d0c397e6b8", func := "loop.example/g00016/laws.FnExactRowsOf", spec := "fnExactRowsOf", inPlace := ["internal/bytealg.IndexByteString", "internal/bytealg.IndexString"], named := ["internal/bytealg.MaxLen"], apart := false, narrowed := true }
def FnExactRowsOfUptoSaid : Prop := fnExactRowsOfUptoRow.holds Try.pinned (OpenSpec.upto fnExactRowsOfSpec)

end Rows
end Go.Proofs.Ytejakgejjjncbaa
