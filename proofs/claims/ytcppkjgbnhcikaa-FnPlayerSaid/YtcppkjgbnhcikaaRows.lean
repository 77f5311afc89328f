/-
  No cell of these rows narrows 'for every input' (looked for: loops, veiled, ifaces, maps, wideKeys, modest, calm, conditions, laid).
  DERIVED. THE GIVEN ROWS OF THIS SEAT. 6 by the template 'for every input the law returns true; each argument reads behind the call as it read before'; 0 by the template 'total and deterministic' (their statements: YtcppkjgbnhcikaaTotals.lean).
  GIVEN WITH THE SEED: the statements are not yours to turn. If you find one false, say at which input.
  Laid BY PROGRAM, IN A SANDBOX (cutbox-rows.mjs): the forced cells as the released guide's own fill.sh prints them over the translation ce4a490a13226289… (all of the seat's roots in one cut). By AI agents, Wed Nov 11 2026. No macro, syntax, notation, axiom, sorry.
-/
import Derived.Test.YtcppkjgbnhcikaaChecked
import GoSem.Claim
import GoSem.ClaimJoined
import GoSem.ClaimMapViews
import Derived.JoinedTies
import Derived.KernelRfl
namespace Go.Proofs.Ytcppkjgbnhcikaa
/- THE CELL 'sum', in the pinned program and in every row, IS THE sha256 OF THE DUMP (.gsa) THAT YtcppkjgbnhcikaaProg.lean LOADS. Nothing in Lean hashes anything: it is a label: what it is worth is what the hold of that sum in a sandbox is worth. -/
noncomputable def Try.pinned : Pinned := { name := "ytcppkjgbnhcikaa", sum := "ce4a490a1322628942f9717712a657d3a82e94b603db64674dfe3360060a2e50", checked := Try.checked }
namespace Rows
def none {H : Type} : Left H := { results := [], args := [] }

/-- 'laws.FnExactMakeIndex': WHATEVER THE INPUT: true; the input reads as it did. -/
def fnExactMakeIndexSpec : ChangeSpec := { name := "fnExactMakeIndex", fn := fun _ => fun
  | [d] => { results := [.lit (.bool true)], args := [d] }
  | _ => none }
def fnExactMakeIndexRow : OpenClaim := { program := "ytcppkjgbnhcikaa", sum := "ce4a490a1322628942f9717712a657d3a82e94b603db64674dfe3360060a2e50", func := "loop.example/g00016/laws.FnExactMakeIndex", spec := "fnExactMakeIndex", apart := false }
def FnExactMakeIndexSaid : Prop := fnExactMakeIndexRow.holds Try.pinned (OpenSpec.ofChange fnExactMakeIndexSpec)

/-- ITS FALSE NEIGHBOUR: 'it returns false'. Refute it at one input. -/
def fnExactMakeIndexWrong : ChangeSpec := { name := "fnExactMakeIndex", fn := fun _ => fun
  | [d] => { results := [.lit (.bool false)], args := [d] }
  | _ => none }
def FnExactMakeIndexWrongFalsely : Prop := fnExactMakeIndexRow.holds Try.pinned (OpenSpec.ofChange fnExactMakeIndexWrong)

/-- 'laws.FnExactWriteBox': WHATEVER THE INPUT: true; the input reads as it did. -/
def fnExactWriteBoxSpec : ChangeSpec := { name := "fnExactWriteBox", fn := fun _ => fun
  | [d1, d2] => { results := [.lit (.bool true)], args := [d1, d2] }
  | _ => none }
def fnExactWriteBoxRow : OpenClaim := { program := "ytcppkjgbnhcikaa", sum := "ce4a490a1322628942f9717712a657d3a82e94b603db64674dfe3360060a2e50", func := "loop.example/g00016/laws.FnExactWriteBox", spec := "fnExactWriteBox", unfollowed := true, recurses := true, apart := false }
def FnExactWriteBoxSaid : Prop := fnExactWriteBoxRow.holds Try.pinned (OpenSpec.ofChange fnExactWriteBoxSpec)

/-- ITS FALSE NEIGHBOUR: 'it returns false'. Refute it at one input. -/
def fnExactWriteBoxWrong : ChangeSpec := { name := "fnExactWriteBox", fn := fun _ => fun
  | [d1, d2] => { results := [.lit (.bool false)], args := [d1, d2] }
  | _ => none }
def FnExactWriteBoxWrongFalsely : Prop := fnExactWriteBoxRow.holds Try.pinned (OpenSpec.ofChange fnExactWriteBoxWrong)

/-- 'laws.FnPlayer': WHATEVER THE INPUT: true; the input reads as it did. -/
def fnPlayerSpec : ChangeSpec := { name := "fnPlayer", fn := fun _ => fun
  | [d] => { results := [.lit (.bool true)], args := [d] }
  | _ => none }
def fnPlayerRow : OpenClaim := { program := "ytcppkjgbnhcikaa", sum := "ce4a490a1322628942f9717712a657d3a82e94b603db64674dfe3360060a2e50", func := "loop.example/g00016/laws.FnPlayer", spec := "fnPlayer", unfollowed := true, recurses := true, apart := false }
def FnPlayerSaid : Prop := fnPlayerRow.holds Try.pinned (OpenSpec.ofChange fnPlayerSpec)

/-- ITS FALSE NEIGHBOUR: 'it returns false'. Refute it at one input. -/
def fnPlayerWrong : ChangeSpec := { name := "fnPlayer", fn := fun _ => fun
  | [d] => { results := [.lit (.bool false)], args := [d] }
  | _ => none }
def FnPlayerWrongFalsely : Prop := fnPlayerRow.holds Try.pinned (OpenSpec.ofChange fnPlayerWrong)

/-- 'laws.FnExactRescue': WHATEVER THE INPUT: true; the input reads as it did. -/
def fnExactRescueSpec : ChangeSpec := { name := "fnExactRescue", fn := fun _ => fun
  | [d] => { results := [.lit (.bool true)], args := [d] }
  | _ => none }
def fnExactRescueRow : OpenClaim := { program := "ytcppkjgbnhcikaa", sum := "ce4a490a1322628942f9717712a657d3a82e94b603db64674dfe3360060a2e50", func := "loop.example/g00016/laws.FnExactRescue", spec := "fnExactRescue", apart := false }
def FnExactRescueSaid : Prop := fnExactRescueRow.holds Try.pinned (OpenSpec.ofChange fnExactRescueSpec)

/-- ITS FALSE NEIGHBOUR: 'it returns false'. Refute it at one input. -/
def fnExactRescueWrong : ChangeSpec := { name := "fnExactRescue", fn := fun _ => fun
  | [d] => { results := [.lit (.bool false)], args := [d] }
  | _ => none }
def FnExactRescueWrongFalsely : Prop := fnExactRescueRow.holds Try.pinned (OpenSpec.ofChange fnExactRescueWrong)

/-- 'laws.FnExactReadIndex': WHATEVER THE INPUT: true; the input reads as it did. -/
def fnExactReadIndexSpec : ChangeSpec := { name := "fnExactReadIndex", fn := fun _ => fun
  | [d] => { results := [.lit (.bool true)], args := [d] }
  | _ => none }
def fnExactReadIndexRow : OpenClaim := { program := "ytcppkjgbnhcikaa", sum := "ce4a490a1322628942f9717712a657d3a82e94b603db64674dfe3360060a2e50", func := "loop.example/g00016/laws.FnExactReadIndex", spec := "fnExactReadIndex", apart := false }
def FnExactReadIndexSaid : Prop := fnExactReadIndexRow.holds Try.pinned (OpenSpec.ofChange fnExactReadIndexSpec)

/-- ITS FALSE NEIGHBOUR: 'it returns false'. Refute it at one input. -/
def fnExactReadIndexWrong : ChangeSpec := { name := "fnExactReadIndex", fn := fun _ => fun
  | [d] => { results := [.lit (.bool false)], args := [d] }
  | _ => none }
def FnExactReadIndexWrongFalsely : Prop := fnExactReadIndexRow.holds Try.pinned (OpenSpec.ofChange fnExactReadIndexWrong)

/-- 'laws.FnExactRunPlayer': WHATEVER THE INPUT: true; the input reads as it did. -/
def fnExactRunPlayerSpec : ChangeSpec := { name := "fnExactRunPlayer", fn := fun _ => fun
  | [d1, d2, d3] => { results := [.lit (.bool true)], args := [d1, d2, d3] }
  | _ => none }
def fnExactRunPlayerRow : OpenClaim := { program := "ytcppkjgbnhcikaa", sum := "ce4a490a1322628942f9717712a657d3a82e94b603db64674dfe3360060a2e50", func := "loop.example/g00016/laws.FnExactRunPlayer", spec := "fnExactRunPlayer", unfollowed := true, recurses := true, apart := false }
def FnExactRunPlayerSaid : Prop := fnExactRunPlayerRow.holds Try.pinned (OpenSpec.ofChange fnExactRunPlayerSpec)

/-- ITS FALSE NEIGHBOUR: 'it returns false'. Refute it at one input. -/
def fnExactRunPlayerWrong : ChangeSpec := { name := "fnExactRunPlayer", fn := fun _ => fun
  | [d1, d2, d3] => { results := [.lit (.bool false)], args := [d1, d2, d3] }
  | _ => none }
def FnExactRunPlayerWrongFalsely : Prop := fnExactRunPlayerRow.holds Try.pinned (OpenSpec.ofChange fnExactRunPlayerWrong)

/- THE SECOND FORM. 'bulk': how many values and letters a reading holds, each counted each time it is reached (what is shared counts as often as it is met; a slice's spare places count too). A statement '..UptoSaid' is the law's where the arguments, and the package variables that the reading takes, are together of bulk at most 1048576: NARROWER than '..Said'. Prove '..Said' where nothing that the law and all that it calls make is longer than what came in: it says more and counts as full. Else prove '..UptoSaid'. A law counts once. -/
mutual
def uptoBulk {H : Type} : DataW H → Nat
  | .lit (.string bytes) => bytes.length + 1
  | .lit _ => 1
  | .nil => 1
  | .ptr d => uptoBulk d + 1
  | .slice elems spare => uptoBulkAll elems + uptoBulkAll spare + 1
  | .agg parts => uptoBulkAll parts + 1
  | .iface _ d => uptoBulk d + 1
  | .map entries => uptoBulkEntries entries + 1
  | .held _ => 1
def uptoBulkAll {H : Type} : List (DataW H) → Nat
  | [] => 0
  | d :: r => uptoBulk d + uptoBulkAll r
def uptoBulkEntries {H : Type} : List (Lit × DataW H) → Nat
  | [] => 0
  | x :: r => uptoBulkEntry x + uptoBulkEntries r
def uptoBulkEntry {H : Type} : Lit × DataW H → Nat
  | (.string bytes, d) => bytes.length + uptoBulk d + 1
  | (_, d) => uptoBulk d + 1
 end
def uptoSmall : (H : Type) → List (DataW H) → Bool := fun _ ds => decide (uptoBulkAll ds ≤ 1048576)
def OpenSpec.upto (s : _root_.Go.ChangeSpec) : _root_.Go.OpenSpec := { _root_.Go.OpenSpec.ofChange s with cond := some uptoSmall }

/-- 'laws.FnExactMakeIndex', WHERE WHAT IT READS IS OF BULK AT MOST 1048576: true; the input reads as it did. -/
def fnExactMakeIndexUptoRow : OpenClaim := { program := "ytcppkjgbnhcikaa", sum := "ce4a490a1322628942f9717712a657d3a82e94b603db64674dfe3360060a2e50", func := "loop.example/g00016/laws.FnExactMakeIndex", spec := "fnExactMakeIndex", apart := false, narrowed := true }
def FnExactMakeIndexUptoSaid : Prop := fnExactMakeIndexUptoRow.holds Try.pinned (OpenSpec.upto fnExactMakeIndexSpec)

/-- 'laws.FnExactWriteBox', WHERE WHAT IT READS IS OF BULK AT MOST 1048576: true; the input reads as it did. -/
def fnExactWriteBoxUptoRow : OpenClaim := { program := "ytcppkjgbnhcikaa", sum := "ce4a490a1322628942f9717712a657d3a82e94b603db64674dfe3360060a2e50", func := "loop.example/g00016/laws.FnExactWriteBox", spec := "fnExactWriteBox", unfollowed := true, recurses := true, apart := false, narrowed := true }
def FnExactWriteBoxUptoSaid : Prop := fnExactWriteBoxUptoRow.holds Try.pinned (OpenSpec.upto fnExactWriteBoxSpec)

/-- 'laws.FnPlayer', WHERE WHAT IT READS IS OF BULK AT MOST 1048576: true; the input reads as it did. -/
def fnPlayerUptoRow : OpenClaim := { program := "ytcppkjgbnhcikaa", sum := "ce4a490a1322628942f9717712a657d3a82e94b603db64674dfe3360060a2e50", func := "loop.example/g00016/laws.FnPlayer", spec := "fnPlayer", unfollowed := true, recurses := true, apart := false, narrowed := true }
def FnPlayerUptoSaid : Prop := fnPlayerUptoRow.holds Try.pinned (OpenSpec.upto fnPlayerSpec)

/-- 'laws.FnExactRescue', WHERE WHAT IT READS IS OF BULK AT MOST 1048576: true; the input reads as it did. -/
def fnExactRescueUptoRow : OpenClaim := { program := "ytcppkjgbnhcikaa", sum := "ce4a490a1322628942f9717712a657d3a82e94b603db64674dfe3360060a2e50", func := "loop.example/g00016/laws.FnExactRescue", spec := "fnExactRescue", apart := false, narrowed := true }
def FnExactRescueUptoSaid : Prop := fnExactRescueUptoRow.holds Try.pinned (OpenSpec.upto fnExactRescueSpec)

/-- 'laws.FnExactReadIndex', WHERE WHAT IT READS IS OF BULK AT MOST 1048576: true; the input reads as it did. -/
def fnExactReadIndexUptoRow : OpenClaim := { program := "ytcppkjgbnhcikaa", sum := "ce4a490a1322628942f9717712a657d3a82e94b603db64674dfe3360060a2e50", func := "loop.example/g00016/laws.FnExactReadIndex", spec := "fnExactReadIndex", apart := false, narrowed := true }
def FnExactReadIndexUptoSaid : Prop := fnExactReadIndexUptoRow.holds Try.pinned (OpenSpec.upto fnExactReadIndexSpec)

/-- 'laws.FnExactRunPlayer', WHERE WHAT IT READS IS OF BULK AT MOST 1048576: true; the input reads as it did. -/
def fnExactRunPlayerUptoRow : OpenClaim := { program := "ytcppkjgbnhcikaa", sum := "ce4a490a1322628942f9717712a657d3a82e94b603db64674dfe3360060a2e50", func := "loop.example/g00016/laws.FnExactRunPlayer", spec := "fnExactRunPlayer", unfollowed := true, recurses := true, apart := false, narrowed := true }
def FnExactRunPlayerUptoSaid : Prop := fnExactRunPlayerUptoRow.holds Try.pinned (OpenSpec.upto fnExactRunPlayerSpec)

end Rows
end Go.Proofs.Ytcppkjgbnhcikaa
