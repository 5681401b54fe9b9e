/- PA0: a part of the proof. -/
-- made by program (wip/tools of this work) out of the translation; Lean checks it
import Derived.Test.YtpnffhacmamilaaProg
import Derived.Below
import Derived.Deep.Draws
import Derived.Deep.AppendLies
import Derived.Maps.AppendAt
import Derived.OwnWalk
import Derived.Laws.BytesArg
import Derived.Laws.MakeOwn
import Derived.Laws.OwnMore
import Derived.Deep.OwnRows
import Derived.Tactics
import Derived.Lib.ConvBytes
import Derived.Laws.Slices
import Derived.WalkKit
import Derived.KernelRfl
import Derived.RowKit3
import Derived.Deep.LoopGhost
import Derived.Deep.QuietTactic
import Derived.BigQuiet
import Derived.WideLaws
import Derived.Deep.DeepCutAuto
import Derived.Deep.CutBlock
import Derived.Deep.RegionHeld3
import Derived.Laws.Rows
import Derived.Lib.AppendStr
import Derived.ArgAppend
import Derived.Laws.IdiomCopy
import Derived.OrdersHeld
import Derived.Laws.BitsLemmas
import Derived.RowKit
import Derived.Deep.Light
import Derived.StillTailTactics
import Derived.Laws.BitsAllLaws
import Derived.Test.YtpnffhacmamilaaZLFWWords
import Derived.Test.YtpnffhacmamilaaZLFWNum
import Derived.Test.YtpnffhacmamilaaZLFWMine
import Derived.Test.YtpnffhacmamilaaZLFWLast
import Derived.Test.YtpnffhacmamilaaZLFWTab
import Derived.Test.YtpnffhacmamilaaZLFWFour
import Derived.Test.YtpnffhacmamilaaZLFWQPut
import Derived.Test.YtpnffhacmamilaaZLFWApart
import Derived.Test.YtpnffhacmamilaaZLFWArr
import Derived.Test.YtpnffhacmamilaaZLFWZeros
import Derived.Test.YtpnffhacmamilaaZLFWFoot
import Derived.Test.YtpnffhacmamilaaZLFWKept
import Derived.Test.YtpnffhacmamilaaZLFWShare
import Derived.Test.YtpnffhacmamilaaZLFWN
import Derived.Test.YtpnffhacmamilaaZLFWFootNe
import Derived.Test.YtpnffhacmamilaaZLFWAt
import Derived.Test.YtpnffhacmamilaaZLFWEqStruct
import Derived.Test.YtpnffhacmamilaaZLFWRepsOne
import Derived.Test.YtpnffhacmamilaaZLFWInv
import Derived.Test.YtpnffhacmamilaaZLFWInvWords
import Derived.Test.YtpnffhacmamilaaZLFWGuard
import Derived.Test.YtpnffhacmamilaaZLFWNEv
import Derived.Test.YtpnffhacmamilaaZLFWMore
import Derived.Test.YtpnffhacmamilaaZLFWBits
namespace Go.Proofs.Ytpnffhacmamilaa.PA
open Go.RowKit Go.Proofs.YtpnffhacmamilaaW.PrintWords Go.Proofs.YtpnffhacmamilaaW.PrintLast Go.Proofs.YtpnffhacmamilaaW.PrintMore
attribute [local go_sem] max2_int min2_int max_two min_two max_three min_three max_four min_four   -- for this text's walks alone
set_option linter.unusedVariables false
set_option linter.unusedSimpArgs false



def errW : Option Int → Value
  | none => .nilIface
  | some c => .iface 78 (.pointer (some ⟨c.toNat, 0, none⟩))
theorem errW_none : errW none = .nilIface := rfl
theorem errW_some (c : Int) : errW (some c) = .iface 78 (.pointer (some ⟨c.toNat, 0, none⟩)) := rfl

theorem info5 : (Try.prog.info? 5).map (fun i => (i.zero, i.size, i.bytes)) = some (some (.int .u8 0), 1, 1) := by kernel_rfl
theorem info39 : (Try.prog.info? 39).map (fun i => (i.zero, i.size, i.bytes)) = some (some (.int .u64 0), 1, 8) := by kernel_rfl
end Go.Proofs.Ytpnffhacmamilaa.PA
