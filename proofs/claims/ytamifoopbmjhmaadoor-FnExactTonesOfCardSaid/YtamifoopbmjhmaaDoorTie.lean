/-
  DERIVED. GIVEN WITH THE SEED: THE PROGRAM's TIES (one call each: nine closed facts by the kernel) AND EACH ROW's TIE, after the 31st guide's Derived/Test/Toyas{Tie, Card}.lean. No idea stands in it: it is a product of the set-up. Laid BY PROGRAM, IN A SANDBOX (cutbox-door.mjs). By AI agents, Wed Nov 11 2026. No macro, syntax, notation, axiom, sorry.
-/
import Derived.Test.YtamifoopbmjhmaaDoorRows
import Derived.LaidByTextLater
import Derived.SevenTiedAt
import Derived.LaidSub
import Derived.LaidOnce
namespace Go.Proofs.YtamifoopbmjhmaaDoor
open Go
set_option maxRecDepth 100000
theorem seatTie1 : Tryd.prog.laidByTextLater [("loop.example/g00016/impl.zpairs", Rows.laid_loop_example_g00016_impl_zpairs), ("loop.example/g00016/impl.zk", Rows.laid_loop_example_g00016_impl_zk)] [.data, .data] true :=
  Program.laidByTextLater_by_one 27 8 34 (by kernel_rfl) (by kernel_rfl) (by kernel_rfl) (by kernel_rfl) (by kernel_rfl) (by kernel_rfl) (fun _ _ => by kernel_rfl)
theorem noOwnUnsafe : Tryd.pinned.checked.prog.headLifts.contains "ownunsafe" = false := by kernel_rfl
theorem tie : Tryd.prog.laidByTextLater [("loop.example/g00016/impl.zpairs", Rows.laid_loop_example_g00016_impl_zpairs), ("loop.example/g00016/impl.zk", Rows.laid_loop_example_g00016_impl_zk)] [.data, .data] true :=
  Program.laidByTextLater.sub seatTie1 ["loop.example/g00016/impl.zpairs", "loop.example/g00016/impl.zk"] (by kernel_rfl) (by kernel_rfl)
theorem fnExactTonesOf_row_tie : Rows.fnExactTonesOfRow.laidByTextAt .later Tryd.pinned [.data, .data] true :=
  OpenClaim.laidByTextAt_later rfl rfl tie noOwnUnsafe
theorem fnTones_row_tie : Rows.fnTonesRow.laidByTextAt .later Tryd.pinned [.data, .data] true :=
  OpenClaim.laidByTextAt_later rfl rfl tie noOwnUnsafe
theorem fnExactTonesOfUpto_row_tie : Rows.fnExactTonesOfUptoRow.laidByTextAt .later Tryd.pinned [.data, .data] true :=
  OpenClaim.laidByTextAt_later rfl rfl tie noOwnUnsafe
theorem fnTonesUpto_row_tie : Rows.fnTonesUptoRow.laidByTextAt .later Tryd.pinned [.data, .data] true :=
  OpenClaim.laidByTextAt_later rfl rfl tie noOwnUnsafe
end Go.Proofs.YtamifoopbmjhmaaDoor
