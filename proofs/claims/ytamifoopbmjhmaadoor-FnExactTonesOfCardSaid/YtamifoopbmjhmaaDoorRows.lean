/-
  NARROWER THAN 'FOR EVERY INPUT', by the rows' own cells (each row's printed sentence says how): FnExactTonesOf: laid · FnTones: laid.
  DERIVED. THE GIVEN ROWS OF THIS SEAT. 2 by the template 'for every input the law returns true; each argument reads behind the call as it read before'; 0 by the template 'total and deterministic' (their statements: YtamifoopbmjhmaaDoorTotals.lean).
  GIVEN WITH THE SEED: the statements are not yours to turn. If you find one false, say at which input.
  Laid BY PROGRAM, IN A SANDBOX (cutbox-rows.mjs): the forced cells as the released guide's own fill.sh prints them over the translation 1244fdd80011875f… (all of the seat's roots in one cut). By AI agents, Wed Nov 11 2026. No macro, syntax, notation, axiom, sorry.
-/
import Derived.Test.YtamifoopbmjhmaaDoorChecked
import GoSem.Claim
import GoSem.ClaimJoined
import GoSem.ClaimMapViews
import Derived.JoinedTies
import Derived.KernelRfl
namespace Go.Proofs.YtamifoopbmjhmaaDoor
/- THE CELL 'sum', in the pinned program and in every row, IS THE sha256 OF THE DUMP (.gsa) THAT YtamifoopbmjhmaaDoorProg.lean LOADS. Nothing in Lean hashes anything: it is a label: what it is worth is what the hold of that sum in a sandbox is worth. -/
noncomputable def Tryd.pinned : Pinned := { name := "ytamifoopbmjhmaadoor", sum := "1244fdd80011875f9201dd2857abdfb81623cba0f40c5d8eb8d737b8d49b56af", checked := Tryd.checked }
namespace Rows
def none {H : Type} : Left H := { results := [], args := [] }

/- WHAT THE LISTED PACKAGE-LEVEL VARIABLES READ AS WHEN THE CALL BEGINS. Each datum BY PROGRAM (the guide's laid-datum.mjs) off the statement by which the dump's own 'gosem.cut.vars' lays the variable. In a bare row this is a premise. The card (YtamifoopbmjhmaaDoorCards.lean) ties it to the program's text. -/
def laid_loop_example_g00016_impl_zpairs {H : Type} : DataW H := .agg [.agg [.lit (.float .f64 4607182418800017408), .lit (.float .f64 0)], .agg [.lit (.float .f64 4606496786581982534), .lit (.float .f64 13823937468626282851)], .agg [.lit (.float .f64 4604544271217802189), .lit (.float .f64 13827916308072577997)], .agg [.lit (.float .f64 4600565431771507043), .lit (.float .f64 13829868823436758342)], .agg [.lit (.float .f64 0), .lit (.float .f64 13830554455654793216)], .agg [.lit (.float .f64 13823937468626282851), .lit (.float .f64 13829868823436758342)], .agg [.lit (.float .f64 13827916308072577997), .lit (.float .f64 13827916308072577997)], .agg [.lit (.float .f64 13829868823436758342), .lit (.float .f64 13823937468626282851)]]
def laid_loop_example_g00016_impl_zk {H : Type} : DataW H := .agg [.lit (.int .i64 16384), .lit (.int .i64 16364), .lit (.int .i64 16305), .lit (.int .i64 16207), .lit (.int .i64 16069), .lit (.int .i64 15893), .lit (.int .i64 15679), .lit (.int .i64 15426), .lit (.int .i64 15137), .lit (.int .i64 14811), .lit (.int .i64 14449), .lit (.int .i64 14053), .lit (.int .i64 13623), .lit (.int .i64 13160), .lit (.int .i64 12665), .lit (.int .i64 12140), .lit (.int .i64 11585), .lit (.int .i64 11003), .lit (.int .i64 10394), .lit (.int .i64 9760), .lit (.int .i64 9102), .lit (.int .i64 8423), .lit (.int .i64 7723), .lit (.int .i64 7005), .lit (.int .i64 6270), .lit (.int .i64 5520), .lit (.int .i64 4756), .lit (.int .i64 3981), .lit (.int .i64 3196), .lit (.int .i64 2404), .lit (.int .i64 1606), .lit (.int .i64 804), .lit (.int .i64 0)]

/-- 'laws.FnExactTonesOf': WHATEVER THE INPUT: true; the input reads as it did. -/
def fnExactTonesOfSpec : ChangeSpec := { name := "fnExactTonesOf", vars := ["loop.example/g00016/impl.zpairs", "loop.example/g00016/impl.zk"], fn := fun _ => fun
  | [d1, d2, d3, g1, g2] => { results := [.lit (.bool true)], args := [d1, d2, d3], vars := [g1, g2] }
  | _ => none }
def fnExactTonesOfRow : OpenClaim := { program := "ytamifoopbmjhmaadoor", sum := "1244fdd80011875f9201dd2857abdfb81623cba0f40c5d8eb8d737b8d49b56af", func := "loop.example/g00016/laws.FnExactTonesOf", spec := "fnExactTonesOf", named := ["loop.example/g00016/impl.zpairs", "loop.example/g00016/impl.zk"], apart := false, laid := [("loop.example/g00016/impl.zpairs", laid_loop_example_g00016_impl_zpairs), ("loop.example/g00016/impl.zk", laid_loop_example_g00016_impl_zk)] }
def FnExactTonesOfSaid : Prop := fnExactTonesOfRow.holds Tryd.pinned (OpenSpec.ofChange fnExactTonesOfSpec)

/-- ITS FALSE NEIGHBOUR: 'it returns false'. Refute it at one input. -/
def fnExactTonesOfWrong : ChangeSpec := { name := "fnExactTonesOf", vars := ["loop.example/g00016/impl.zpairs", "loop.example/g00016/impl.zk"], fn := fun _ => fun
  | [d1, d2, d3, g1, g2] => { results := [.lit (.bool false)], args := [d1, d2, d3], vars := [g1, g2] }
  | _ => none }
def FnExactTonesOfWrongFalsely : Prop := fnExactTonesOfRow.holds Tryd.pinned (OpenSpec.ofChange fnExactTonesOfWrong)

/-- 'laws.FnTones': WHATEVER THE INPUT: true; the input reads as it did. -/
def fnTonesSpec : ChangeSpec := { name := "fnTones", vars := ["loop.example/g00016/impl.zpairs", "loop.example/g00016/impl.zk"], fn := fun _ => fun
  | [d, g1, g2] => { results := [.lit (.bool true)], args := [d], vars := [g1, g2] }
  | _ => none }
def fnTonesRow : OpenClaim := { program := "ytamifoopbmjhmaadoor", sum := "1244fdd80011875f9201dd2857abdfb81623cba0f40c5d8eb8d737b8d49b56af", func := "loop.example/g00016/laws.FnTones", spec := "fnTones", unfollowed := true, recurses := true, named := ["loop.example/g00016/impl.zpairs", "loop.example/g00016/impl.zk"], apart := false, laid := [("loop.example/g00016/impl.zpairs", laid_loop_example_g00016_impl_zpairs), ("loop.example/g00016/impl.zk", laid_loop_example_g00016_impl_zk)] }
def FnTonesSaid : Prop := fnTonesRow.holds Tryd.pinned (OpenSpec.ofChange fnTonesSpec)

/-- ITS FALSE NEIGHBOUR: 'it returns false'. Refute it at one input. -/
def fnTonesWrong : ChangeSpec := { name := "fnTones", vars := ["loop.example/g00016/impl.zpairs", "loop.example/g00016/impl.zk"], fn := fun _ => fun
  | [d, g1, g2] => { results := [.lit (.bool false)], args := [d], vars := [g1, g2] }
  | _ => none }
def FnTonesWrongFalsely : Prop := fnTonesRow.holds Tryd.pinned (OpenSpec.ofChange fnTonesWrong)

/- THE SECOND FORM. 'bulk': how many values and letters a reading holds, each counted each time it is reached (what is shared counts as often as it is met; a slice's spare places count too). A statement '..UptoSaid' is the law's where the arguments, and the package variables that the reading takes, are together of bulk at most 1048576: NARROWER than '..Said'. Prove '..Said' where nothing that the law and all that it calls make is longer than what came in: it says more and counts as full. Else prove '..UptoSaid'. A law counts once. -/
mutual
def uptoBulk {H : Type} : DataW H → Nat
  | .lit (.string bytes) => bytes.length + 1
  | .lit _ => 1
  | .nil => 1
  | .ptr d => uptoBulk d + 1
  | .slice elems spare => uptoBulkAll elems + uptoBulkAll spare + 1
  | .agg parts => uptoBulkAll parts + 1
  | .iface _ d => uptoBulk d + 1
  | .map entries => uptoBulkEntries entries + 1
  | .held _ => 1
def uptoBulkAll {H : Type} : List (DataW H) → Nat
  | [] => 0
  | d :: r => uptoBulk d + uptoBulkAll r
def uptoBulkEntries {H : Type} : List (Lit × DataW H) → Nat
  | [] => 0
  | x :: r => uptoBulkEntry x + uptoBulkEntries r
def uptoBulkEntry {H : Type} : Lit × DataW H → Nat
  | (.string bytes, d) => bytes.length + uptoBulk d + 1
  | (_, d) => uptoBulk d + 1
 end
def uptoSmall : (H : Type) → List (DataW H) → Bool := fun _ ds => decide (uptoBulkAll ds ≤ 1048576)
def OpenSpec.upto (s : _root_.Go.ChangeSpec) : _root_.Go.OpenSpec := { _root_.Go.OpenSpec.ofChange s with cond := some uptoSmall }

/-- 'laws.FnExactTonesOf', WHERE WHAT IT READS IS OF BULK AT MOST 1048576: true; the input reads as it did. -/
def fnExactTonesOfUptoRow : OpenClaim := { program := "ytamifoopbmjhmaadoor", sum := "1244fdd80011875f9201dd2857abdfb81623cba0f40c5d8eb8d737b8d49b56af", func := "loop.example/g00016/laws.FnExactTonesOf", spec := "fnExactTonesOf", named := ["loop.example/g00016/impl.zpairs", "loop.example/g00016/impl.zk"], apart := false, laid := [("loop.example/g00016/impl.zpairs", laid_loop_example_g00016_impl_zpairs), ("loop.example/g00016/impl.zk", laid_loop_example_g00016_impl_zk)], narrowed := true }
def FnExactTonesOfUptoSaid : Prop := fnExactTonesOfUptoRow.holds Tryd.pinned (OpenSpec.upto fnExactTonesOfSpec)

/-- 'laws.FnTones', WHERE WHAT IT READS IS OF BULK AT MOST 1048576: true; the input reads as it did. -/
def fnTonesUptoRow : OpenClaim := { program := "ytamifoopbmjhmaadoor", sum := "1244fdd80011875f9201dd2857abdfb81623cba0f40c5d8eb8d737b8d49b56af", func := "loop.example/g00016/laws.FnTones", spec := "fnTones", unfollowed := true, recurses := true, named := ["loop.example/g00016/impl.zpairs", "loop.example/g00016/impl.zk"], apart := false, laid := [("loop.example/g00016/impl.zpairs", laid_loop_example_g00016_impl_zpairs), ("loop.example/g00016/impl.zk", laid_loop_example_g00016_impl_zk)], narrowed := true }
def FnTonesUptoSaid : Prop := fnTonesUptoRow.holds Tryd.pinned (OpenSpec.upto fnTonesSpec)

end Rows
end Go.Proofs.YtamifoopbmjhmaaDoor
