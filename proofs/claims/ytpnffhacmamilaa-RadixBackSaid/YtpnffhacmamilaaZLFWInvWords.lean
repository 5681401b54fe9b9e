/- WInvWords: a part of the proof. -/
import Derived.Test.YtpnffhacmamilaaZLFWInv
import Derived.Test.YtpnffhacmamilaaZLFWFootNe
namespace Go.Proofs.YtpnffhacmamilaaW.PrintWords
open Go.RowKit
end Go.Proofs.YtpnffhacmamilaaW.PrintWords
namespace Go.Proofs.YtpnffhacmamilaaW.PrintLast
section
variable {ops : Array Oper} {a : Act} {o og : Oper} {g : Nat} {t : Tmp} {u : Bool}
end
end Go.Proofs.YtpnffhacmamilaaW.PrintLast
