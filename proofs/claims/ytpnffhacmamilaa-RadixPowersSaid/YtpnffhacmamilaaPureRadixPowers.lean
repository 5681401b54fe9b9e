/- RadixPowers: for every number the law's printed function tells true. No conditions but that the number is an int. -/
import Derived.Test.YtpnffhacmamilaaLA
import Derived.OpenShut
namespace Go.Proofs.Ytpnffhacmamilaa.Pure
open Go Go.RowKit Go.Proofs.Ytpnffhacmamilaa.PA Go.Proofs.YtpnffhacmamilaaW.PrintWords Go.Proofs.YtpnffhacmamilaaW.PrintLast
theorem RadixPowers : plumblaw04_RadixPowers.Pure := by
  intro a0 hw
  have hb := bounds_i64 hw
  refine ⟨40000000, ?_⟩
  rw [plumblaw04_RadixPowers.f, radix_Five.f_eq a0 (by omega) _ (by decide), radix_Ten.f_eq a0 (by omega) _ (by decide), alive_at _ (by decide)]
  simp only [Option.bind_some, if_true]
  by_cases h0 : a0 < 0
  · rw [if_neg (show ¬ a0 > 112899 by omega), if_pos h0, if_neg (show ¬ a0 > 78913 by omega), decide_eq_true h0]
    simp [plumblaw04_RadixPowers.j0, h0]
  · rw [decide_eq_false h0]
    by_cases h1 : a0 > 112899
    · rw [if_pos h1, if_pos (show a0 > 78913 by omega)]
      simp [plumblaw04_RadixPowers.j0, h1]
    · obtain ⟨n, rfl⟩ : ∃ j : Nat, a0 = (j : Int) := ⟨a0.toNat, by omega⟩
      rw [if_neg h1, if_neg h0, if_neg h0, Int.toNat_natCast]
      exact powers_mid n (by omega) 40000000 (by decide)
end Go.Proofs.Ytpnffhacmamilaa.Pure
