-- PRINTED BY print.sh 35421559b90ae4d0a3588c463048766b98c2df88dd9212a6774a882060cdf62d: not written by this session
import Derived.Test.YthejafdcdcchbaaProg
import Derived.Below
import Derived.Deep.Draws
import Derived.Deep.AppendLies
import Derived.Maps.AppendAt
import Derived.OwnWalk
import Derived.Laws.BytesArg
import Derived.Laws.MakeOwn
import Derived.Laws.OwnMore
import Derived.Deep.OwnRows
import Derived.Tactics
import Derived.Lib.ConvBytes
import Derived.Laws.Slices
import Derived.WalkKit
import Derived.KernelRfl
import Derived.RowKit3
import Derived.Deep.LoopGhost
import Derived.Deep.QuietTactic
import Derived.BigQuiet
import Derived.WideLaws
import Derived.Deep.DeepCutAuto
import Derived.Deep.CutBlock
import Derived.Deep.RegionHeld3
import Derived.Laws.Rows
import Derived.Lib.AppendStr
import Derived.ArgAppend
import Derived.Laws.IdiomCopy
import Derived.OrdersHeld
import Derived.Laws.BitsLemmas
import Derived.RowKit
import Derived.Test.YthejafdcdcchbaaWWords
import Derived.Test.YthejafdcdcchbaaWLast
import Derived.Test.YthejafdcdcchbaaWTab
import Derived.Test.YthejafdcdcchbaaWFour
import Derived.Test.YthejafdcdcchbaaWQPut
import Derived.Test.YthejafdcdcchbaaWApart
import Derived.Test.YthejafdcdcchbaaWArr
import Derived.Test.YthejafdcdcchbaaWZeros
import Derived.Test.YthejafdcdcchbaaWFoot
import Derived.Test.YthejafdcdcchbaaWKept
import Derived.Test.YthejafdcdcchbaaWShare
import Derived.Test.YthejafdcdcchbaaWN
import Derived.Test.YthejafdcdcchbaaWFootNe
import Derived.Test.YthejafdcdcchbaaWAt
import Derived.Test.YthejafdcdcchbaaWEqStruct
import Derived.Test.YthejafdcdcchbaaWRepsOne
import Derived.Test.YthejafdcdcchbaaWInv
import Derived.Test.YthejafdcdcchbaaWInvWords
import Derived.Test.YthejafdcdcchbaaWGuard
import Derived.Test.YthejafdcdcchbaaWNEv
import Derived.Test.YthejafdcdcchbaaWMore
namespace Go.Proofs.Ythejafdcdcchbaa.PSimpleNames
open Go.RowKit Go.Proofs.YthejafdcdcchbaaW.PrintWords Go.Proofs.YthejafdcdcchbaaW.PrintLast Go.Proofs.YthejafdcdcchbaaW.PrintMore
attribute [local go_sem] max2_int min2_int max_two min_two max_three min_three max_four min_four   -- for this text's walks alone
set_option linter.unusedVariables false
set_option linter.unusedSimpArgs false



def errW : Option Int → Value
  | none => .nilIface
  | some c => .iface 0 (.int .i64 c)
theorem errW_none : errW none = .nilIface := rfl
theorem errW_some (c : Int) : errW (some c) = .iface 0 (.int .i64 c) := rfl

-- the values' own types

end Go.Proofs.Ythejafdcdcchbaa.PSimpleNames
