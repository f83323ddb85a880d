-- Written by stage.py (the prover's), over the kit's print, out of the translation: SB. Not trusted: Lean checks it.
import Derived.Test.YtandbobinjhehaaDoorProg
import Derived.Below
import Derived.Deep.Draws
import Derived.Deep.AppendLies
import Derived.Maps.AppendAt
import Derived.OwnWalk
import Derived.Laws.BytesArg
import Derived.Laws.MakeOwn
import Derived.Laws.OwnMore
import Derived.Deep.OwnRows
import Derived.Tactics
import Derived.Lib.ConvBytes
import Derived.Laws.Slices
import Derived.WalkKit
import Derived.KernelRfl
import Derived.RowKit3
import Derived.Deep.LoopGhost
import Derived.Deep.QuietTactic
import Derived.BigQuiet
import Derived.WideLaws
import Derived.Deep.DeepCutAuto
import Derived.Deep.CutBlock
import Derived.Deep.RegionHeld3
import Derived.Laws.Rows
import Derived.Lib.AppendStr
import Derived.ArgAppend
import Derived.Laws.IdiomCopy
import Derived.OrdersHeld
import Derived.Laws.BitsLemmas
import Derived.RowKit
import Derived.Test.YtandbobinjhehaaDoorLaid
import Derived.Test.YtandbobinjhehaaDoorWWords
import Derived.Test.YtandbobinjhehaaDoorWLast
import Derived.Test.YtandbobinjhehaaDoorWTab
import Derived.Test.YtandbobinjhehaaDoorWFour
import Derived.Test.YtandbobinjhehaaDoorWQPut
import Derived.Test.YtandbobinjhehaaDoorWApart
import Derived.Test.YtandbobinjhehaaDoorWArr
import Derived.Test.YtandbobinjhehaaDoorWZeros
import Derived.Test.YtandbobinjhehaaDoorWFoot
import Derived.Test.YtandbobinjhehaaDoorWKept
import Derived.Test.YtandbobinjhehaaDoorWShare
import Derived.Test.YtandbobinjhehaaDoorWN
import Derived.Test.YtandbobinjhehaaDoorWFootNe
import Derived.Test.YtandbobinjhehaaDoorWAt
import Derived.Test.YtandbobinjhehaaDoorWEqStruct
import Derived.Test.YtandbobinjhehaaDoorWRepsOne
import Derived.Test.YtandbobinjhehaaDoorWInv
import Derived.Test.YtandbobinjhehaaDoorWInvWords
import Derived.Test.YtandbobinjhehaaDoorWGuard
import Derived.Test.YtandbobinjhehaaDoorWNEv
import Derived.Test.YtandbobinjhehaaDoorWMore
namespace Go.Proofs.YtandbobinjhehaaDoor.SB
open Go.Proofs.YtandbobinjhehaaDoor.Hand
open Go.RowKit Go.Proofs.YtandbobinjhehaaDoorW.PrintWords Go.Proofs.YtandbobinjhehaaDoorW.PrintLast Go.Proofs.YtandbobinjhehaaDoorW.PrintMore
attribute [local go_sem] max2_int min2_int max_two min_two max_three min_three max_four min_four   -- for this text's walks alone
set_option linter.unusedVariables false
set_option linter.unusedSimpArgs false



def errW : Option Int → Value
  | none => .nilIface
  | some c => .iface 0 (.int .i64 c)
theorem errW_none : errW none = .nilIface := rfl
theorem errW_some (c : Int) : errW (some c) = .iface 0 (.int .i64 c) := rfl

-- the values' own types

end Go.Proofs.YtandbobinjhehaaDoor.SB
