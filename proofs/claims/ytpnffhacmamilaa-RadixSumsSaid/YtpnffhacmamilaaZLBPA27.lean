/- PA27: a part of the proof. -/
-- made by program (wip/tools of this work) out of the translation; Lean checks it
import Derived.Test.YtpnffhacmamilaaZLBPA0
import Derived.Test.YtpnffhacmamilaaZLBPA6
import Derived.Test.YtpnffhacmamilaaZLBPA12
import Derived.Test.YtpnffhacmamilaaZLBPA16
import Derived.Test.YtpnffhacmamilaaZLBPA21
import Derived.Test.YtpnffhacmamilaaZLBPA25
import Derived.Test.YtpnffhacmamilaaZLBPA26
namespace Go.Proofs.Ytpnffhacmamilaa.PA
open Go.RowKit Go.Proofs.YtpnffhacmamilaaW.PrintWords Go.Proofs.YtpnffhacmamilaaW.PrintLast Go.Proofs.YtpnffhacmamilaaW.PrintMore
attribute [local go_sem] max2_int min2_int max_two min_two max_three min_three max_four min_four   -- for this text's walks alone
set_option linter.unusedVariables false
set_option linter.unusedSimpArgs false

/-! ### plumblaw04_pow: function 33 -/
def plumblaw04_pow.f (k : Nat) (a0 : Int) : Option (List Int) := (radix_Ten.f k a0).bind fun bt391 => (some bt391.1)
theorem plumblaw04_pow.mono : ∀ a0 k, LeO (plumblaw04_pow.f k a0) (plumblaw04_pow.f (k + 1) a0) := by
  intro a0 k
  unfold plumblaw04_pow.f
  repeat' first
      | (with_reducible exact radix_Ten.mono _ _)
      | (with_reducible exact LeO.refl _)
      | (with_reducible exact LeO.none _)
      | (with_reducible refine LeO.ite ?_ ?_)
      | (with_reducible refine LeO.bind ?_ (fun _ => ?_))
      | exact radix_Ten.mono _ _
      | exact LeO.none _
      | refine LeO.ite ?_ ?_
      | refine LeO.bind ?_ (fun _ => ?_)
set_option maxHeartbeats 8000000 in
set_option maxRecDepth 100000 in
theorem plumblaw04_pow.calls (k : Nat) (a0 : Int) (r : List Int) (w : World) (h : plumblaw04_pow.f k a0 = some r) :
    Calls Try.prog 33 #[.int .i64 a0] w fun e w' => ∃ v0_ : Value, e = .returned (v0_) ∧ Kd.R (Kd.int .u64) 39 w' w.heap.size (fun _ => True) v0_ r ∧ Below w.heap.size w w' := by
  have HB := Aside0.mk (Below.refl w.heap.size w)
  have H : ((radix_Ten.f k a0).bind fun bt391 => (some bt391.1)) = some r := h
  clear h
  replace H := Option.bind_eq_some_iff.mp H
  obtain ⟨⟨t391, t392⟩, A20, H⟩ := H
  replace H : (some t391) = some r := H
  have A2 := Aside0.mk A20
  clear A20
  obtain rfl := Option.some.inj H
  go_enter Try.func33, Try.ntmps33
  go_wp2_with (first | ((with_reducible refine gate_callee (f := 19) rfl ?_); refine goesL_ (some 7) rfl rfl Try.func19 (by kernel_rfl) rfl #[.int .i64 a0] rfl (by (try simp only [List.map_toArray, List.map_cons, List.map_nil]); first | done | rfl | (simp only [List.length_drop, List.length_take]; rfl)) ?_; (with_reducible refine (radix_Ten.calls k a0 t391 t392 _ A2.out).mono ?_); rintro e w3 ⟨v393, rfl, ho0, hb⟩; refine ⟨_, rfl, ?_⟩; have n0_ := Aside0.mk (Kd.R_lower ho0 (below_size (by repeat (first | (with_reducible first | exact HB.out | apply below_alloc | apply pw_below_drewN | apply below_drew1) | exact HB.out)))); have n1_ := Aside0.mk (below_step (by repeat (first | (with_reducible first | exact HB.out | apply below_alloc | apply pw_below_drewN | apply below_drew1) | exact HB.out)) hb); clear HB; have HO394 := n0_; have HB := n1_; clear n0_ n1_; (try clear hb); (try clear hb2); (try clear hk); (try clear hi); (try clear ho0)))
  go_ret
  exact ⟨_, by first | rfl | (simp [errW_none, errW_some] <;> rfl) | (simp [*, errW_none, errW_some] <;> rfl), by (with_reducible repeat (first | apply Kd.R_alloc | apply Kd.R_drewN | apply Kd.R_drew)); exact HO394.out, by repeat (first | (with_reducible first | exact HB.out | apply below_alloc | apply pw_below_drewN | apply below_drew1) | exact HB.out)⟩

end Go.Proofs.Ytpnffhacmamilaa.PA
