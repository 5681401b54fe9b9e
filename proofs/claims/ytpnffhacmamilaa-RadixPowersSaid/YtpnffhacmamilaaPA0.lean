-- made by program (wip/tools of this work) out of the translation; Lean checks it
import Derived.Test.YtpnffhacmamilaaProg
import Derived.Below
import Derived.Deep.Draws
import Derived.Deep.AppendLies
import Derived.Maps.AppendAt
import Derived.OwnWalk
import Derived.Laws.BytesArg
import Derived.Laws.MakeOwn
import Derived.Laws.OwnMore
import Derived.Deep.OwnRows
import Derived.Tactics
import Derived.Lib.ConvBytes
import Derived.Laws.Slices
import Derived.WalkKit
import Derived.KernelRfl
import Derived.RowKit3
import Derived.Deep.LoopGhost
import Derived.Deep.QuietTactic
import Derived.BigQuiet
import Derived.WideLaws
import Derived.Deep.DeepCutAuto
import Derived.Deep.CutBlock
import Derived.Deep.RegionHeld3
import Derived.Laws.Rows
import Derived.Lib.AppendStr
import Derived.ArgAppend
import Derived.Laws.IdiomCopy
import Derived.OrdersHeld
import Derived.Laws.BitsLemmas
import Derived.RowKit
import Derived.Deep.Light
import Derived.StillTailTactics
import Derived.Laws.BitsAllLaws
import Derived.Test.YtpnffhacmamilaaWWords
import Derived.Test.YtpnffhacmamilaaWNum
import Derived.Test.YtpnffhacmamilaaWMine
import Derived.Test.YtpnffhacmamilaaWLast
import Derived.Test.YtpnffhacmamilaaWTab
import Derived.Test.YtpnffhacmamilaaWFour
import Derived.Test.YtpnffhacmamilaaWQPut
import Derived.Test.YtpnffhacmamilaaWApart
import Derived.Test.YtpnffhacmamilaaWArr
import Derived.Test.YtpnffhacmamilaaWZeros
import Derived.Test.YtpnffhacmamilaaWFoot
import Derived.Test.YtpnffhacmamilaaWKept
import Derived.Test.YtpnffhacmamilaaWShare
import Derived.Test.YtpnffhacmamilaaWN
import Derived.Test.YtpnffhacmamilaaWFootNe
import Derived.Test.YtpnffhacmamilaaWAt
import Derived.Test.YtpnffhacmamilaaWEqStruct
import Derived.Test.YtpnffhacmamilaaWRepsOne
import Derived.Test.YtpnffhacmamilaaWInv
import Derived.Test.YtpnffhacmamilaaWInvWords
import Derived.Test.YtpnffhacmamilaaWGuard
import Derived.Test.YtpnffhacmamilaaWNEv
import Derived.Test.YtpnffhacmamilaaWMore
import Derived.Test.YtpnffhacmamilaaWBits
namespace Go.Proofs.Ytpnffhacmamilaa.PA
open Go.RowKit Go.Proofs.YtpnffhacmamilaaW.PrintWords Go.Proofs.YtpnffhacmamilaaW.PrintLast Go.Proofs.YtpnffhacmamilaaW.PrintMore
attribute [local go_sem] max2_int min2_int max_two min_two max_three min_three max_four min_four   -- for this text's walks alone
set_option linter.unusedVariables false
set_option linter.unusedSimpArgs false



def errW : Option Int → Value
  | none => .nilIface
  | some c => .iface 78 (.pointer (some ⟨c.toNat, 0, none⟩))
theorem errW_none : errW none = .nilIface := rfl
theorem errW_some (c : Int) : errW (some c) = .iface 78 (.pointer (some ⟨c.toNat, 0, none⟩)) := rfl

theorem info5 : (Try.prog.info? 5).map (fun i => (i.zero, i.size, i.bytes)) = some (some (.int .u8 0), 1, 1) := by kernel_rfl
theorem info39 : (Try.prog.info? 39).map (fun i => (i.zero, i.size, i.bytes)) = some (some (.int .u64 0), 1, 8) := by kernel_rfl
-- the values' own types
def rd_L1 (xs : List (List Int)) (i : Int) : (List Int) := xs.getD i.toNat ([] : List Int)
theorem at_L1 {w : World} {A : Option Addr} {n : Nat} {xs : List (List Int)} (h : Kd.C (Kd.slice 39 (Kd.int .u64)) w A n xs) (i : Int) (h0 : 0 ≤ i) (h1 : i < n) : ∃ ad A0 c0, A = some ad ∧ w.cell? (ad.add i.toNat) = some (.slice A0 (rd_L1 xs i).length c0) ∧ (rd_L1 xs i).length ≤ c0 ∧ (Kd.int .u64).C w A0 (rd_L1 xs i).length (rd_L1 xs i) := by
  obtain ⟨ad, c, e, _, hK, hc0⟩ := Kd.C_get h ([] : List Int) i h0 h1
  have hc : ∀ j u, c[j]? = some u → w.cell? (ad.add (i.toNat * 1 + j)) = some u := hc0
  obtain ⟨A0, c0, rfl, l0, g0⟩ := hK
  exact ⟨ad, A0, c0, e, by have hq := hc 0 _ rfl; rwa [Nat.mul_one, Nat.add_zero] at hq, l0, g0⟩

end Go.Proofs.Ytpnffhacmamilaa.PA
