-- Printed by a program of this session (wip/patch_print.py over the kit's print); Lean checks it.
import Derived.Test.YtcfppmjlljdaiaaProg
import Derived.Below
import Derived.Deep.Draws
import Derived.Deep.AppendLies
import Derived.Maps.AppendAt
import Derived.OwnWalk
import Derived.Laws.BytesArg
import Derived.Laws.MakeOwn
import Derived.Laws.OwnMore
import Derived.Deep.OwnRows
import Derived.Tactics
import Derived.Lib.ConvBytes
import Derived.Laws.Slices
import Derived.WalkKit
import Derived.KernelRfl
import Derived.RowKit3
import Derived.Deep.LoopGhost
import Derived.Deep.QuietTactic
import Derived.BigQuiet
import Derived.WideLaws
import Derived.Deep.DeepCutAuto
import Derived.Deep.CutBlock
import Derived.Deep.RegionHeld3
import Derived.Laws.Rows
import Derived.Lib.AppendStr
import Derived.ArgAppend
import Derived.Laws.IdiomCopy
import Derived.OrdersHeld
import Derived.Laws.BitsLemmas
import Derived.RowKit
import Derived.Test.YtcfppmjlljdaiaaHand
import Derived.Test.YtcfppmjlljdaiaaWWords
import Derived.Test.YtcfppmjlljdaiaaWLast
import Derived.Test.YtcfppmjlljdaiaaWTab
import Derived.Test.YtcfppmjlljdaiaaWFour
import Derived.Test.YtcfppmjlljdaiaaWQPut
import Derived.Test.YtcfppmjlljdaiaaWApart
import Derived.Test.YtcfppmjlljdaiaaWArr
import Derived.Test.YtcfppmjlljdaiaaWZeros
import Derived.Test.YtcfppmjlljdaiaaWFoot
import Derived.Test.YtcfppmjlljdaiaaWKept
import Derived.Test.YtcfppmjlljdaiaaWShare
import Derived.Test.YtcfppmjlljdaiaaWN
import Derived.Test.YtcfppmjlljdaiaaWFootNe
import Derived.Test.YtcfppmjlljdaiaaWAt
import Derived.Test.YtcfppmjlljdaiaaWEqStruct
import Derived.Test.YtcfppmjlljdaiaaWRepsOne
import Derived.Test.YtcfppmjlljdaiaaWInv
import Derived.Test.YtcfppmjlljdaiaaWInvWords
import Derived.Test.YtcfppmjlljdaiaaWGuard
import Derived.Test.YtcfppmjlljdaiaaWNEv
import Derived.Test.YtcfppmjlljdaiaaWMore
namespace Go.Proofs.Ytcfppmjlljdaiaa.Print
open Go.RowKit Go.Proofs.YtcfppmjlljdaiaaW.PrintWords Go.Proofs.YtcfppmjlljdaiaaW.PrintLast Go.Proofs.YtcfppmjlljdaiaaW.PrintMore
attribute [local go_sem] max2_int min2_int max_two min_two max_three min_three max_four min_four   -- for this text's walks alone
set_option linter.unusedVariables false
set_option linter.unusedSimpArgs false



def errW : Option Int → Value
  | none => .nilIface
  | some c => .iface 0 (.int .i64 c)
theorem errW_none : errW none = .nilIface := rfl
theorem errW_some (c : Int) : errW (some c) = .iface 0 (.int .i64 c) := rfl

theorem info3 : (Try.prog.info? 3).map (fun i => (i.zero, i.size, i.bytes)) = some (some (.int .i64 0), 1, 8) := by kernel_rfl
theorem info9 : (Try.prog.info? 9).map (fun i => (i.zero, i.size, i.bytes)) = some (some (.string ⟨#[]⟩), 1, 16) := by kernel_rfl
-- the values' own types

end Go.Proofs.Ytcfppmjlljdaiaa.Print
