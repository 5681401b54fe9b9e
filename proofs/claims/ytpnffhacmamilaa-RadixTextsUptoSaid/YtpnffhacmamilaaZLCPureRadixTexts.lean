/- RadixTexts: for every list of at most 1048576 words and every base the law's printed function tells true. -/
import Derived.Test.YtpnffhacmamilaaZLCLC
import Derived.OpenShut
namespace Go.Proofs.Ytpnffhacmamilaa.Pure
open Go Go.RowKit Go.Proofs.Ytpnffhacmamilaa.PA Go.Proofs.YtpnffhacmamilaaW.PrintWords Go.Proofs.YtpnffhacmamilaaW.PrintLast
set_option linter.unusedVariables false
set_option linter.unusedSimpArgs false
theorem RadixTexts : ∀ (l0 : List Int) (a1 : Int), l0.length ≤ 1048576 → (∀ x ∈ l0, (Lit.int .u64 x).wf = true) → (Lit.int .i64 a1).wf = true → ∃ k, plumblaw04_RadixTexts.f k l0 a1 = some true := by
  intro l0 a1 hl hws hw1
  have hw : Ws l0 := fun x hx => ⟨(bounds_u64 (hws x hx)).1, Int.lt_add_one_of_le (bounds_u64 (hws x hx)).2⟩
  refine ⟨100000000000, ?_⟩
  have kk : 90000000000 < 100000000000 := by decide
  generalize 100000000000 = k at *
  have hR := room_eq l0 (by omega)
  obtain ⟨T, E, t1, t2⟩ := text_same l0 hw (by omega) a1 k kk
  obtain ⟨c, c1, c2⟩ := count_same l0 hw (by omega) k kk
  obtain ⟨y, v, y1, y2, y3⟩ := trim_same l0 hw (by omega) k kk
  have q1 : (0 : Int) ≤ (l0.length : Int) := Int.natCast_nonneg _
  have q2 : (l0.length : Int) ≤ ((l0 ++ [42405, 42406]).length : Int) := by rw [List.length_append]; omega
  have hE := plumblaw04_eq.f_eq y y (by omega) k (by omega)
  have hE2 := plumblaw04_eq.f_eq (l0 ++ [42405, 42406]) (l0 ++ [42405, 42406]) (by rw [List.length_append]; show l0.length + 2 ≤ 35184372088832; omega) k (by rw [List.length_append]; show l0.length + 2 < k; omega)
  rw [decide_eq_true rfl] at hE hE2
  rw [plumblaw04_RadixTexts.f, hR, Option.bind_some, if_pos q1, if_pos q2, Int.toNat_natCast, List.take_left, t1, Option.bind_some, t2, Option.bind_some, c1, Option.bind_some, y1, Option.bind_some, y2, Option.bind_some, alive_at k (by omega), Option.bind_some, if_pos rfl, if_pos rfl, if_pos rfl, c2, Option.bind_some, if_pos rfl, hE, Option.bind_some, if_pos rfl, if_pos rfl, Option.bind_some, hE2]
  rfl
end Go.Proofs.Ytpnffhacmamilaa.Pure
