/- WSized: a part of the proof. -/
import Derived.SizedLaws
import Derived.ChangeSlices
namespace Go.Proofs.YtpnffhacmamilaaW.PrintWords
open Go.ChangeShapes Go.WideShapes
end Go.Proofs.YtpnffhacmamilaaW.PrintWords
