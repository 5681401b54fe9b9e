/- A part of the proof (5). -/
import Derived.Test.YtjknfppbebfhnaaDoorYPVP2
import Derived.Test.YtjknfppbebfhnaaDoorYPVP3
import Derived.Test.YtjknfppbebfhnaaDoorYPVP4
namespace Go.Proofs.YtjknfppbebfhnaaDoor.PA
open Go.RowKit Go.Proofs.YtjknfppbebfhnaaDoorW.PrintWords Go.Proofs.YtjknfppbebfhnaaDoorW.PrintLast Go.Proofs.YtjknfppbebfhnaaDoorW.PrintMore
attribute [local go_sem] max2_int min2_int max_two min_two max_three min_three max_four min_four
set_option linter.unusedVariables false
set_option linter.unusedSimpArgs false
def slices_Reverse_byte_byte.l0 : Nat → List Int → Int → Int → Option (List Int)
 | 0, _, _, _ => none
 | k + 1, x0, x2, x3 => if x2 < x3 then (if 0 ≤ x3 then (if x3 < (x0.length : Int) then (if 0 ≤ x2 then (if x2 < (x0.length : Int) then (slices_Reverse_byte_byte.l0 k ((x0.set (x2 : Int).toNat (rd x0 x3)).set (x3 : Int).toNat (rd x0 x2)) (wrap64 (x2 + 1)) (wrap64 (x3 - 1))) else (none)) else (none)) else (none)) else (none)) else (some x0)
def slices_Reverse_byte_byte.f (k : Nat) (l0 : List Int) : Option (List Int) := slices_Reverse_byte_byte.l0 k l0 0 (wrap64 ((l0.length : Int) - 1))
theorem slices_Reverse_byte_byte.mono_l : ∀ k, (∀ y0 y1 y2, LeO (slices_Reverse_byte_byte.l0 k y0 y1 y2) (slices_Reverse_byte_byte.l0 (k + 1) y0 y1 y2))
 | 0 => fun _ _ _ r h => by simp [slices_Reverse_byte_byte.l0] at h
 | k + 1 => by
  have ih0 := slices_Reverse_byte_byte.mono_l k
  ·intro y0 y1 y2
   unfold slices_Reverse_byte_byte.l0
   exact mX
theorem slices_Reverse_byte_byte.mono : ∀ a0 k, LeO (slices_Reverse_byte_byte.f k a0) (slices_Reverse_byte_byte.f (k + 1) a0) := by
 intro a0 k
 have ih0 := slices_Reverse_byte_byte.mono_l k
 unfold slices_Reverse_byte_byte.f
 exact mX
def slices_Reverse_byte_byte.T3 : Bool × List (List Nat × List Nat) := (true, [([], []), ([], []), ([], []), ([], []), ([], []), ([], []), ([4, 5], [4, 5]), ([6], [6]), ([], []), ([], []), ([8, 9], [8, 9]), ([10], [10]), ([0, 1, 0, 1, 4, 5, 6, 7, 11], [0, 1]), ([12, 7, 0, 1, 4, 5, 6, 7, 11], [7, 12]), ([2, 3, 0, 1, 2, 3, 4, 5, 6, 7, 8, 9, 10, 11, 12, 13], [2, 3]), ([14, 11, 13, 0, 1, 2, 3, 4, 5, 6, 7, 8, 9, 10, 11, 12, 13], [11, 14])])
def slices_Reverse_byte_byte.B3 : List Nat := [0, 0, 0, 0, 0, 0, 48, 112, 0, 0, 768, 1792, 4083, 8179, 16383, 32767]
theorem slices_Reverse_byte_byte.tab3 : rtab .any (opsOf Tryd.f33 3) = slices_Reverse_byte_byte.T3 := by kernel_rfl
theorem slices_Reverse_byte_byte.bits3 : waitsOk slices_Reverse_byte_byte.T3.2 slices_Reverse_byte_byte.B3 = true := by kernel_rfl
set_option maxHeartbeats 8000000 in
set_option maxRecDepth 100000 in
theorem slices_Reverse_byte_byte.calls (k : Nat) (P0_ : Nat → Prop) (u9000_ : Value) (l0 : List Int) (r : List Int) (w0 w : World) (hB : Below w0.heap.size w0 w) (ho0 : Kd.R (Kd.int .u8) 5 w w0.heap.size P0_ u9000_ l0) (h : slices_Reverse_byte_byte.f k l0 = some r) :
  Calls Tryd.prog 33 #[u9000_] w fun e w' => e = .returned (.tuple #[]) ∧ Kd.R (Kd.int .u8) 5 w' w0.heap.size (fun k_ => (P0_ k_ ∨ w.heap.size ≤ k_)) u9000_ r ∧ Below w0.heap.size w0 w' ∧ Kept w w' (fun k_ => P0_ k_) := by
 have HO0 := aM (show Kd.R (Kd.int .u8) 5 w w0.heap.size (fun k_ => (P0_ k_ ∨ w.heap.size ≤ k_)) u9000_ l0 from Kd.R_mono ho0 (fun k_ hk => (.inl hk)))
 have HK := aM (Kept.refl w (fun k_ => P0_ k_))
 have HW0 := aM hB.size
 have HB := aM hB
 clear hB
 have H := h
 clear h
 unfold slices_Reverse_byte_byte.f at H
 have H' := aM H
 clear H
 obtain ⟨Ao2, co2, rfl⟩ := Kd.R_slice HO0.out
 go_enter Tryd.func33, Tryd.ntmps33
 go_wp2
 go_loopg [2, 3] k (fun kq v2 v3 w' => ∃ (x0_1 : List Int) (x2_1 : Int) (x3_1 : Int), v2 = .int .i64 x2_1 ∧ v3 = .int .i64 x3_1 ∧ Aside0 (slices_Reverse_byte_byte.l0 kq x0_1 x2_1 x3_1 = some r) ∧ Aside0 (kq ≤ k) ∧ Aside0 (Kd.R (Kd.int .u8) 5 w' w0.heap.size (fun k_ => (P0_ k_ ∨ w.heap.size ≤ k_)) (.slice Ao2 l0.length co2) x0_1) ∧ Aside0 (Kept w w' (fun k_ => P0_ k_)) ∧ Aside0 (Below w0.heap.size w0 w'))
 case atStart => exact ⟨(l0), (0), (wrap64 ((l0.length : Int) - 1)), dF, dF, H', ⟨Nat.le_refl _⟩, ⟨dR HO0.out⟩, ⟨by repeat (first | (with_reducible first | exact HK.out | apply Kept.alloc | apply Kept.drewN | apply Kept.drew) | exact HK.out)⟩, ⟨dB⟩⟩
 case round =>
  clear H'
  obtain ⟨x0_1, x2_1, x3_1, rfl, rfl, HA, HK1, HO_0, HK, HB⟩ := hrel
  have hl0_1 := (Kd.R_reads' HO_0.out).1
  rw [hl0_1] at HO_0
  (try simp only [hl0_1])
  cases gk with
  | zero => exact absurd HA.out (by simp [slices_Reverse_byte_byte.l0])
  | succ k1 =>
   have H := HA.out
   clear HA
   simp only [slices_Reverse_byte_byte.l0] at H
   by_cases c3 : x2_1 < x3_1
   ·rw [if_pos c3] at H
    have c3b0 := decide_eq_true c3
    clear c3
    replace H := nO H
    obtain ⟨c4, H⟩ := H
    have c4b0 : decide (0 ≤ x3_1) = true := decide_eq_true c4
    clear c4
    replace H := nO H
    obtain ⟨c5, H⟩ := H
    have c5b0 := decide_eq_true c5
    clear c5
    replace H := nO H
    obtain ⟨c6, H⟩ := H
    have c6b0 : decide (0 ≤ x2_1) = true := decide_eq_true c6
    clear c6
    replace H := nO H
    obtain ⟨c7, H⟩ := H
    have c7b0 := decide_eq_true c7
    clear c7
    obtain ⟨y154, hy154⟩ : ∃ y_ : List Int, y_ = (x0_1.set (x2_1 : Int).toNat (rd x0_1 x3_1)) := ⟨_, rfl⟩
    replace H : (slices_Reverse_byte_byte.l0 k1 (y154.set (x3_1 : Int).toNat (rd x0_1 x2_1)) (wrap64 (x2_1 + 1)) (wrap64 (x3_1 - 1))) = some r := by first | (rw [hy154]; with_reducible exact H) | (have H2_ := (Option.bind_some _ _).symm.trans H; rw [hy154]; with_reducible exact H2_) | (have H2_ := (Option.bind_some _ _).symm.trans H; with_reducible exact H2_) | with_reducible exact H | (rw [hy154]; exact H) | exact H
    have Ny154 := aM hy154
    clear hy154
    obtain ⟨y155, hy155⟩ : ∃ y_ : List Int, y_ = (y154.set (x3_1 : Int).toNat (rd x0_1 x2_1)) := ⟨_, rfl⟩
    replace H : (slices_Reverse_byte_byte.l0 k1 y155 (wrap64 (x2_1 + 1)) (wrap64 (x3_1 - 1))) = some r := by first | (rw [hy155]; with_reducible exact H) | (have H2_ := (Option.bind_some _ _).symm.trans H; rw [hy155]; with_reducible exact H2_) | (have H2_ := (Option.bind_some _ _).symm.trans H; with_reducible exact H2_) | with_reducible exact H | (rw [hy155]; exact H) | exact H
    have Ny155 := aM hy155
    clear hy155
    have H' := aM H
    clear H
    try go_wp2
    replace HO_0 := aM (Kd.R_drew HO_0.out)
    replace HK := aM (Kept.drew HK.out)
    replace HB := aM (below_drew1 HB.out)
    have p152 : 0 ≤ (x3_1 : Int) := of_decide_eq_true dS
    have q152 : x3_1 < (x0_1.length : Int) := of_decide_eq_true dS
    obtain ⟨ad152, e152, hx152_0⟩ := Kd.at_int (Kd.R_reads' HO_0.out).2.2 x3_1 p152 q152
    cases e152
    replace p152 := eq_true p152
    replace q152 := eq_true q152
    have p153 : 0 ≤ (x2_1 : Int) := of_decide_eq_true dS
    have q153 : x2_1 < (x0_1.length : Int) := of_decide_eq_true dS
    obtain ⟨ad153, e153, hx153_0⟩ := Kd.at_int (Kd.R_reads' HO_0.out).2.2 x2_1 p153 q153
    obtain rfl : ad152 = ad153 := (by injection e153)
    replace p153 := eq_true p153
    replace q153 := eq_true q153
    have p8 : 0 ≤ (x2_1 : Int) := of_decide_eq_true dS
    have q8 : (x2_1 : Int) < ((x0_1.length : Int) : Int) := of_decide_eq_true dS
    obtain ⟨go8, co8, eo8, gb8, gl8, cl8, HG8⟩ := Kd.R_form HO_0.out (by omega)
    (first | cases eo8 | (injection eo8 with ea_ en_ ec_; (first | subst ea_ | (injection ea_ with ea_; subst ea_)); subst ec_; clear en_))
    have GB8 := aM gb8
    have GG8 := aM HG8
    clear gb8 gl8 HG8
    have HMgo8 := aM (show (P0_ go8 ∨ w.heap.size ≤ go8) from (HO_0.out.1 _ rfl))
    (first | simp only [add_plain] at hx152_0 | skip)
    (first | simp only [add_plain] at hx153_0 | skip)
    obtain ⟨hx8_0, hf8_0⟩ := Kd.R_celln 0 HO_0.out (x2_1 : Int) p8 q8
    replace p8 := eq_true p8
    replace q8 := eq_true q8
    have HP11 := Kd.R_putn HO_0.out (x2_1 : Int) (rd x0_1 x3_1)
    rw [← Ny154.out] at HP11
    have HQ11 := aM HP11
    clear HP11
    have p9 : 0 ≤ (x3_1 : Int) := of_decide_eq_true dS
    have q9 : (x3_1 : Int) < ((x0_1.length : Int) : Int) := of_decide_eq_true dS
    obtain ⟨hx9_0, hf9_0⟩ := Kd.R_celln 0 HQ11.out (x3_1 : Int) p9 q9
    replace p9 := eq_true p9
    replace q9 := eq_true q9
    have HP12 := Kd.R_putn HQ11.out (x3_1 : Int) (rd x0_1 x2_1)
    rw [← Ny155.out] at HP12
    have HQ12 := aM HP12
    clear HP12
    refine start_ (n := 16) (S := fun w' => w'.cell? ⟨go8, (x3_1).toNat, none⟩ = some (.int .u8 (rd x0_1 x3_1)) ∧ w'.cell? ⟨go8, (x2_1).toNat, none⟩ = some (.int .u8 (rd x0_1 x2_1))) (ds := [13, 15]) #[false, false, false, false, false, false, false, false, false, false, false, false, false, false, false, false] (by kernel_rfl) rfl rfl ⟨hx152_0, hx153_0⟩ (fun hHeld => ?_); refine with_tabW slices_Reverse_byte_byte.tab3 slices_Reverse_byte_byte.bits3 (fun HT_ HW_ => ?_)
    generalize wr.drew = w10 at HO_0 HK HB GG8 HQ11 HQ12 hf8_0 hf9_0 hx152_0 hx153_0 hx8_0 hx9_0 hHeld ⊢
    refine pP 0 (some 14) ?_
    refine pP 1 (some 15) ?_
    refine pP 2 (some 16) ?_
    refine pP 3 (some 17) ?_
    refine pP 4 (some 18) ?_
    refine pP 5 (some 19) ?_
    refine pP 6 (some 20) ?_
    refine pP 8 (some 22) ?_
    refine pP 9 (some 23) ?_
    refine pP 10 (some 24) ?_
    refine pH2 7 (some 21) hHeld ?_
    refine pH2 11 (some 25) hHeld ?_
    refine pP 12 (some 26) ?_
    refine last_ (i := 13) (N := none) #[true, true, true, true, true, true, true, true, true, true, true, true, true, true, false, false] rfl rfl (one_of HT_.out (by kernel_rfl)) (by decide) (fun K hK => ?_)
    refine skip_ (w1 := ?_) (by rfl) rfl ?_ ?_
    rotate_left
    ·go_simp
     rfl
    refine hK.out _ _ ?_
    clear hK K
    refine pP 14 (some 27) ?_
    refine last_ (i := 15) (N := none) #[true, true, true, true, true, true, true, true, true, true, true, true, true, true, true, true] rfl rfl (one_of HT_.out (by kernel_rfl)) (by decide) (fun K hK => ?_)
    refine skip_ (w1 := ?_) (by rfl) rfl ?_ ?_
    rotate_left
    ·go_simp
     rfl
    refine hK.out _ _ ?_
    clear hK K
    refine done_ (done_of HT_.out (by kernel_rfl)) ?_
    try go_wp2
    (try simp only [← hl0_1])
    go_roundg k1
    case measure => have := HK1.out; omega
    case rel => exact ⟨(y155), (wrap64 (x2_1 + 1)), (wrap64 (x3_1 - 1)), dF, dF, H', ⟨by have := HK1.out; omega⟩, ⟨by (try simp only [hl0_1]); (with_reducible repeat (first | apply Kd.R_alloc | apply Kd.R_drewN | apply Kd.R_drew)); exact HQ12.out⟩, ⟨by repeat (first | (with_reducible first | exact HK.out | apply Kept.alloc | apply Kept.drewN | apply Kept.drew | refine Kept.setCell ?_ HMgo8.out _ | refine Kept.setCell ?_ HMgo8.out _) | exact HK.out)⟩, ⟨by repeat (first | (with_reducible first | exact HB.out | apply below_alloc | apply pw_below_drewN | apply below_drew1 | refine below_set ?_ GB8.out | refine below_set ?_ GB8.out) | exact HB.out)⟩⟩
   ·rw [if_neg c3] at H
    have c3b0 := decide_eq_false c3
    clear c3
    obtain rfl := Option.some.inj H
    go_wp2
    first | go_end0 | ((try simp only [Exit.inBlock, Exit.then]); refine bodyPost_ret (results_none rfl _ _ _) rfl ?_)
    exact ⟨dE, (by first | exact (dR HO_0.out) | (simp only [hl0_1]; exact (dR HO_0.out))), dB, by repeat (first | (with_reducible first | exact HK.out | apply Kept.alloc | apply Kept.drewN | apply Kept.drew) | exact HK.out)⟩
def radix_Text.f (k : Nat) (l0 : List Int) (a1 : Int) : Option (ByteArray × Int) := (radix_based.f a1).bind fun t156 => (if t156 = true then ((nat_Norm.f l0).bind fun t157 => (if (t157.length : Int) > 4096 then (some ((⟨#[]⟩ : ByteArray), 21)) else (if (t157.length : Int) = 0 then (some ((⟨#[48]⟩ : ByteArray), 0)) else ((radix_written.f k t157 a1).bind fun t160 => ((slices_Reverse_byte_byte.f k t160).bind fun t163 => (some (strOfNums t163, 0))))))) else (some ((⟨#[]⟩ : ByteArray), 40)))
theorem radix_Text.mono : ∀ a0 a1 k, LeO (radix_Text.f k a0 a1) (radix_Text.f (k + 1) a0 a1) := by
 intro a0 a1 k
 unfold radix_Text.f
 have m0_ := radix_written.mono
 have m1_ := slices_Reverse_byte_byte.mono
 exact mX
set_option maxHeartbeats 8000000 in
set_option maxRecDepth 100000 in
theorem radix_Text.calls (k : Nat) (A0 : Option Addr) (c0 : Nat) (l0 : List Int) (a1 : Int) (r1 : ByteArray) (r2 : Int) (w : World) (hr0 : Kd.C (Kd.int .u64) w A0 l0.length l0) (hc0 : l0.length ≤ c0) (h : radix_Text.f k l0 a1 = some (r1, r2)) :
  Calls Tryd.prog 20 #[.slice A0 l0.length c0, .int .i64 a1] w fun e w' => e = .returned (.tuple #[.string r1, .int .i64 r2]) ∧ Below w.heap.size w w' := by
 have HR0 := aM hr0
 have HC0 := aM hc0
 clear hr0 hc0
 have HB := aM (Below.refl w.heap.size w)
 have H := h
 clear h
 unfold radix_Text.f at H
 replace H := oA H
 obtain ⟨t156, A3, H⟩ := H
 (try dsimp only at H)
 by_cases c4 : t156 = true
 ·subst c4
  rw [if_pos rfl] at H
  (try dsimp only at H)
  replace H := oA H
  obtain ⟨t157, A5, H⟩ := H
  (try dsimp only at H)
  by_cases c6 : (t157.length : Int) > 4096
  ·rw [if_pos c6] at H
   have c6b0 : decide (4096 < (t157.length : Int)) = true := decide_eq_true c6
   have c6b1 : decide (4096 < t157.length) = true := decide_eq_true (by omega)
   clear c6
   simp only [Option.some.injEq, Prod.mk.injEq] at H
   obtain ⟨rfl, rfl⟩ := H
   go_enter Tryd.func20, Tryd.ntmps20
   go_wp2_with (first | ((with_reducible refine gate_callee (f := 9) rfl ?_); refine gL (some 8) Tryd.func9 #[.int .i64 a1] ?_; (with_reducible refine (radix_based.calls a1 true _ A3.out).mono ?_); rintro e w' ⟨rfl, ⟨nd, rfl⟩⟩; refine ⟨_, rfl, ?_⟩) | ((with_reducible refine gate_callee (f := 29) rfl ?_); refine gL (some 11) Tryd.func29 #[.slice A0 l0.length c0] ?_; (with_reducible refine (nat_Norm.calls _ _ l0 t157 _ ?side1 HC0.out A5.out).mono ?_); (case side1 => exact dC HR0.out); rintro e w7 ⟨v158, rfl, ho0, hb⟩; refine ⟨_, rfl, ?_⟩; have HO159 := aM (Kd.R_lower ho0 (below_size dB)); replace HB := hS HB.out hb; (try clear hb); (try clear ho0); obtain ⟨Ao8, co8, rfl⟩ := Kd.R_slice HO159.out))
   go_ret2
   exact ⟨dE, dB⟩
  ·rw [if_neg c6] at H
   have c6b0 : decide (4096 < (t157.length : Int)) = false := decide_eq_false c6
   have c6b1 : decide (4096 < t157.length) = false := decide_eq_false (by omega)
   clear c6
   by_cases c9 : (t157.length : Int) = 0
   ·rw [if_pos c9] at H
    obtain ⟨c9b0, c9b1⟩ := bT c9
    clear c9
    simp only [Option.some.injEq, Prod.mk.injEq] at H
    obtain ⟨rfl, rfl⟩ := H
    go_enter Tryd.func20, Tryd.ntmps20
    go_wp2_with (first | ((with_reducible refine gate_callee (f := 9) rfl ?_); refine gL (some 8) Tryd.func9 #[.int .i64 a1] ?_; (with_reducible refine (radix_based.calls a1 true _ A3.out).mono ?_); rintro e w' ⟨rfl, ⟨nd, rfl⟩⟩; refine ⟨_, rfl, ?_⟩) | ((with_reducible refine gate_callee (f := 29) rfl ?_); refine gL (some 11) Tryd.func29 #[.slice A0 l0.length c0] ?_; (with_reducible refine (nat_Norm.calls _ _ l0 t157 _ ?side1 HC0.out A5.out).mono ?_); (case side1 => exact dC HR0.out); rintro e w10 ⟨v158, rfl, ho0, hb⟩; refine ⟨_, rfl, ?_⟩; have HO159 := aM (Kd.R_lower ho0 (below_size dB)); replace HB := hS HB.out hb; (try clear hb); (try clear ho0); obtain ⟨Ao11, co11, rfl⟩ := Kd.R_slice HO159.out))
    go_ret2
    exact ⟨dE, dB⟩
   ·rw [if_neg c9] at H
    obtain ⟨c9b0, c9b1⟩ := bF c9
    have c9b2 : ¬ (t157 = []) := fun h_ => c9 (by rw [h_]; rfl)
    replace H := oA H
    obtain ⟨t160, A12, H⟩ := H
    (try dsimp only at H)
    replace H := oA H
    obtain ⟨t163, A13, H⟩ := H
    (try dsimp only at H)
    simp only [Option.some.injEq, Prod.mk.injEq] at H
    obtain ⟨rfl, rfl⟩ := H
    go_enter Tryd.func20, Tryd.ntmps20
    go_wp2_with (first | ((with_reducible refine gate_callee (f := 9) rfl ?_); refine gL (some 8) Tryd.func9 #[.int .i64 a1] ?_; (with_reducible refine (radix_based.calls a1 true _ A3.out).mono ?_); rintro e w' ⟨rfl, ⟨nd, rfl⟩⟩; refine ⟨_, rfl, ?_⟩) | ((with_reducible refine gate_callee (f := 29) rfl ?_); refine gL (some 11) Tryd.func29 #[.slice A0 l0.length c0] ?_; (with_reducible refine (nat_Norm.calls _ _ l0 t157 _ ?side1 HC0.out A5.out).mono ?_); (case side1 => exact dC HR0.out); rintro e w14 ⟨v158, rfl, ho0, hb⟩; refine ⟨_, rfl, ?_⟩; have HO159 := aM (Kd.R_lower ho0 (below_size dB)); replace HB := hS HB.out hb; (try clear hb); (try clear ho0); obtain ⟨Ao15, co15, rfl⟩ := Kd.R_slice HO159.out) | ((with_reducible refine gate_callee (f := 32) rfl ?_); refine gL (some 20) Tryd.func32 #[.slice Ao15 t157.length co15, .int .i64 a1] ?_; (with_reducible refine (radix_written.calls k _ _ t157 a1 t160 _ ?side1 (Kd.R_reads' HO159.out).2.1 A12.out).mono ?_); (case side1 => exact dC (Kd.R_reads' HO159.out).2.2); rintro e w16 ⟨v161, rfl, ho0, hb⟩; refine ⟨_, rfl, ?_⟩; replace HO159 := oB HO159.out hb; have HO162 := aM (Kd.R_lower ho0 (below_size dB)); replace HB := hS HB.out hb; (try clear hb); (try clear ho0); obtain ⟨Ao17, co17, rfl⟩ := Kd.R_slice HO162.out) | ((with_reducible refine gate_callee (f := 33) rfl ?_); refine gL (some 22) Tryd.func33 #[.slice Ao17 t160.length co17] ?_; (with_reducible refine (slices_Reverse_byte_byte.calls k (fun k_ => some k_ = (.slice Ao17 t160.length co17 : Value).ownBlock) (.slice Ao17 t160.length co17) t160 t163 w _ ?side1 ?side2 A13.out).mono ?_); (case side1 => repeat (first | (with_reducible first | exact HB.out | apply below_alloc | apply pw_below_drewN | apply below_drew1) | exact HB.out)); (case side2 => exact Kd.R_tight rfl HO162.out); rintro e w18 ⟨rfl, hy0, hb, hkp⟩; refine ⟨_, rfl, ?_⟩; replace HO159 := aM (Kd.R_mono (ok' := fun k_ => True) (Kd.R_keptB ((Kd.R_apart' HO159.out (Kd.R_typed HO162.out) (by decide))) hkp (fun k_ hk_ hs_ => (hk_.2) hs_)) (fun k_ hk_ => trivial)); replace HO162 := aM (Kd.R_reok rfl hy0 (fun k_ e_ => HO162.out.1 k_ e_)); replace HB := aM (hb); (try clear hb); (try clear hkp); (try clear hy0); have hcv19 := own_string (P := Tryd.prog) Tryd.underlying62 Tryd.underlying5 Tryd.underlying9 (Kd.own_of_R HO162.out)))
    go_ret2
    exact ⟨dE, dB⟩
 ·replace c4 := Bool.eq_false_iff.mpr c4
  subst c4
  rw [if_neg (show ¬ (false = true) by decide)] at H
  (try dsimp only at H)
  simp only [Option.some.injEq, Prod.mk.injEq] at H
  obtain ⟨rfl, rfl⟩ := H
  go_enter Tryd.func20, Tryd.ntmps20
  go_wp2_with (first | ((with_reducible refine gate_callee (f := 9) rfl ?_); refine gL (some 8) Tryd.func9 #[.int .i64 a1] ?_; (with_reducible refine (radix_based.calls a1 false _ A3.out).mono ?_); rintro e w' ⟨rfl, ⟨nd, rfl⟩⟩; refine ⟨_, rfl, ?_⟩))
  go_ret2
  exact ⟨dE, dB⟩
def quot_Pow.l0 : Nat → List Int → Int → List Int → Int → Option (List Int × Int)
 | 0, _, _, _, _ => none
 | k + 1, x0, x1, x7, x8 => if x8 ≥ 0 then ((nat_Mul.f k x7 x7).bind fun bt175 => (if 0 ≤ x8 then (if (Go.bits .and .i64 (shr .i64 x1 x8) 1) = 1 then ((nat_Mul.f k bt175.1 x0).bind fun bt179 => (if bt175.2 = 0 then (if bt179.2 = 0 then (quot_Pow.l0 k x0 x1 bt179.1 (wrap64 (x8 - 1))) else (some (([] : List Int), 21))) else (some (([] : List Int), 21)))) else (if bt175.2 = 0 then (quot_Pow.l0 k x0 x1 bt175.1 (wrap64 (x8 - 1))) else (some (([] : List Int), 21)))) else (none))) else (some (x7, 0))
def quot_Pow.f (k : Nat) (l0 : List Int) (a1 : Int) : Option (List Int × Int) := (nat_Norm.f l0).bind fun t164 => ((nat_Bits.f k t164).bind fun t167 => (if a1 < 0 then (some (([] : List Int), 31)) else (if a1 = 0 then ((nat_From.f 1).bind fun t168 => (some (t168, 0))) else (if t167 < 2 then (some (t164, 0)) else (if (wrap64 (t167 - 1)) = 0 then (none) else (if a1 > (wrap64 (Int.tdiv (262144 : Int) (wrap64 (t167 - 1)))) then (some (([] : List Int), 21)) else ((nat_From.f 1).bind fun t171 => ((wide_Len.f k (IntKind.u64.wrap (a1))).bind fun t174 => (quot_Pow.l0 k t164 a1 t171 (wrap64 (t174 - 1)))))))))))
theorem quot_Pow.mono_l : ∀ k, (∀ y0 y1 y2 y3, LeO (quot_Pow.l0 k y0 y1 y2 y3) (quot_Pow.l0 (k + 1) y0 y1 y2 y3))
 | 0 => fun _ _ _ _ r h => by simp [quot_Pow.l0] at h
 | k + 1 => by
  have ih0 := quot_Pow.mono_l k
  ·intro y0 y1 y2 y3
   unfold quot_Pow.l0
   have m0_ := nat_Bits.mono
   have m1_ := nat_Mul.mono
   have m2_ := wide_Len.mono
   exact mX
theorem quot_Pow.mono : ∀ a0 a1 k, LeO (quot_Pow.f k a0 a1) (quot_Pow.f (k + 1) a0 a1) := by
 intro a0 a1 k
 have ih0 := quot_Pow.mono_l k
 unfold quot_Pow.f
 have m0_ := nat_Bits.mono
 have m1_ := nat_Mul.mono
 have m2_ := wide_Len.mono
 exact mX
set_option maxHeartbeats 8000000 in
set_option maxRecDepth 100000 in
theorem quot_Pow.calls (k : Nat) (A0 : Option Addr) (c0 : Nat) (l0 : List Int) (a1 : Int) (r1 : List Int) (r2 : Int) (w : World) (hr0 : Kd.C (Kd.int .u64) w A0 l0.length l0) (hc0 : l0.length ≤ c0) (h : quot_Pow.f k l0 a1 = some (r1, r2)) :
  Calls Tryd.prog 39 #[.slice A0 l0.length c0, .int .i64 a1] w fun e w' => ∃ v0_ : Value, e = .returned (.tuple #[v0_, .int .i64 r2]) ∧ Kd.R (Kd.int .u64) 36 w' w.heap.size (fun _ => True) v0_ r1 ∧ Below w.heap.size w w' := by
 have HR0 := aM hr0
 have HC0 := aM hc0
 clear hr0 hc0
 have HB := aM (Below.refl w.heap.size w)
 have H := h
 clear h
 unfold quot_Pow.f at H
 replace H := oA H
 obtain ⟨t164, A3, H⟩ := H
 (try dsimp only at H)
 replace H := oA H
 obtain ⟨t167, A4, H⟩ := H
 (try dsimp only at H)
 by_cases c5 : a1 < 0
 ·rw [if_pos c5] at H
  have c5b0 := decide_eq_true c5
  clear c5
  simp only [Option.some.injEq, Prod.mk.injEq] at H
  obtain ⟨rfl, rfl⟩ := H
  go_enter Tryd.func39, Tryd.ntmps39
  go_wp2_with (first | ((with_reducible refine gate_callee (f := 29) rfl ?_); refine gL (some 12) Tryd.func29 #[.slice A0 l0.length c0] ?_; (with_reducible refine (nat_Norm.calls _ _ l0 t164 _ ?side1 HC0.out A3.out).mono ?_); (case side1 => exact dC HR0.out); rintro e w6 ⟨v165, rfl, ho0, hb⟩; refine ⟨_, rfl, ?_⟩; have HO166 := aM (Kd.R_lower ho0 (below_size dB)); replace HB := hS HB.out hb; (try clear hb); (try clear ho0); obtain ⟨Ao7, co7, rfl⟩ := Kd.R_slice HO166.out) | ((with_reducible refine gate_callee (f := 25) rfl ?_); refine gL (some 14) Tryd.func25 #[.slice Ao7 t164.length co7] ?_; (with_reducible refine (nat_Bits.calls k _ _ t164 t167 _ ?side1 (Kd.R_reads' HO166.out).2.1 A4.out).mono ?_); (case side1 => exact dC (Kd.R_reads' HO166.out).2.2); rintro e w' ⟨rfl, ⟨nd, rfl⟩⟩; refine ⟨_, rfl, ?_⟩))
  go_ret2
  exact ⟨_, dE, by first | exact Kd.R_nil _ _ _ _ _ | exact Kd.N_nil _ _ _ _ _ | exact Kd.V_nil _ _ _ _ _ | exact Kd.Q_nil _ _ _ _ _ | exact Kd.S_nil _ _ _ _ _, dB⟩
 ·rw [if_neg c5] at H
  have c5b0 := decide_eq_false c5
  clear c5
  by_cases c8 : a1 = 0
  ·rw [if_pos c8] at H
   obtain ⟨c8b0, c8b1⟩ := bT c8
   clear c8
   replace H := oA H
   obtain ⟨t168, A9, H⟩ := H
   (try dsimp only at H)
   simp only [Option.some.injEq, Prod.mk.injEq] at H
   obtain ⟨rfl, rfl⟩ := H
   go_enter Tryd.func39, Tryd.ntmps39
   go_wp2_with (first | ((with_reducible refine gate_callee (f := 29) rfl ?_); refine gL (some 12) Tryd.func29 #[.slice A0 l0.length c0] ?_; (with_reducible refine (nat_Norm.calls _ _ l0 t164 _ ?side1 HC0.out A3.out).mono ?_); (case side1 => exact dC HR0.out); rintro e w10 ⟨v165, rfl, ho0, hb⟩; refine ⟨_, rfl, ?_⟩; have HO166 := aM (Kd.R_lower ho0 (below_size dB)); replace HB := hS HB.out hb; (try clear hb); (try clear ho0); obtain ⟨Ao11, co11, rfl⟩ := Kd.R_slice HO166.out) | ((with_reducible refine gate_callee (f := 25) rfl ?_); refine gL (some 14) Tryd.func25 #[.slice Ao11 t164.length co11] ?_; (with_reducible refine (nat_Bits.calls k _ _ t164 t167 _ ?side1 (Kd.R_reads' HO166.out).2.1 A4.out).mono ?_); (case side1 => exact dC (Kd.R_reads' HO166.out).2.2); rintro e w' ⟨rfl, ⟨nd, rfl⟩⟩; refine ⟨_, rfl, ?_⟩) | ((with_reducible refine gate_callee (f := 14) rfl ?_); refine gL (some 21) Tryd.func14 #[.int .u64 1] ?_; (with_reducible refine (nat_From.calls 1 t168 _ A9.out).mono ?_); rintro e w12 ⟨v169, rfl, ho0, hb⟩; refine ⟨_, rfl, ?_⟩; have HO170 := aM (Kd.R_lower (nW ho0 HO166.out) (below_size dB)); replace HO166 := oE HO166.out ho0 hb; replace HB := hS HB.out hb; (try clear hb); (try clear ho0)))
   go_ret2
   exact ⟨_, dE, oM HO170.out (fun _ hk => trivial), dB⟩
  ·rw [if_neg c8] at H
   obtain ⟨c8b0, c8b1⟩ := bF c8
   by_cases c13 : t167 < 2
   ·rw [if_pos c13] at H
    have c13b0 := decide_eq_true c13
    clear c13
    simp only [Option.some.injEq, Prod.mk.injEq] at H
    obtain ⟨rfl, rfl⟩ := H
    go_enter Tryd.func39, Tryd.ntmps39
    go_wp2_with (first | ((with_reducible refine gate_callee (f := 29) rfl ?_); refine gL (some 12) Tryd.func29 #[.slice A0 l0.length c0] ?_; (with_reducible refine (nat_Norm.calls _ _ l0 t164 _ ?side1 HC0.out A3.out).mono ?_); (case side1 => exact dC HR0.out); rintro e w14 ⟨v165, rfl, ho0, hb⟩; refine ⟨_, rfl, ?_⟩; have HO166 := aM (Kd.R_lower ho0 (below_size dB)); replace HB := hS HB.out hb; (try clear hb); (try clear ho0); obtain ⟨Ao15, co15, rfl⟩ := Kd.R_slice HO166.out) | ((with_reducible refine gate_callee (f := 25) rfl ?_); refine gL (some 14) Tryd.func25 #[.slice Ao15 t164.length co15] ?_; (with_reducible refine (nat_Bits.calls k _ _ t164 t167 _ ?side1 (Kd.R_reads' HO166.out).2.1 A4.out).mono ?_); (case side1 => exact dC (Kd.R_reads' HO166.out).2.2); rintro e w' ⟨rfl, ⟨nd, rfl⟩⟩; refine ⟨_, rfl, ?_⟩))
    go_ret2
    exact ⟨_, dE, dR HO166.out, dB⟩
   ·rw [if_neg c13] at H
    have c13b0 := decide_eq_false c13
    clear c13
    replace H := nQ H
    obtain ⟨c16, H⟩ := H
    obtain ⟨c16b0, c16b1⟩ := bF c16
    by_cases c17 : a1 > (wrap64 (Int.tdiv (262144 : Int) (wrap64 (t167 - 1))))
    ·rw [if_pos c17] at H
     have c17b0 : decide ((wrap64 (Int.tdiv (262144 : Int) (wrap64 (t167 - 1)))) < a1) = true := decide_eq_true c17
     clear c17
     simp only [Option.some.injEq, Prod.mk.injEq] at H
     obtain ⟨rfl, rfl⟩ := H
     go_enter Tryd.func39, Tryd.ntmps39
     go_wp2_with (first | ((with_reducible refine gate_callee (f := 29) rfl ?_); refine gL (some 12) Tryd.func29 #[.slice A0 l0.length c0] ?_; (with_reducible refine (nat_Norm.calls _ _ l0 t164 _ ?side1 HC0.out A3.out).mono ?_); (case side1 => exact dC HR0.out); rintro e w18 ⟨v165, rfl, ho0, hb⟩; refine ⟨_, rfl, ?_⟩; have HO166 := aM (Kd.R_lower ho0 (below_size dB)); replace HB := hS HB.out hb; (try clear hb); (try clear ho0); obtain ⟨Ao19, co19, rfl⟩ := Kd.R_slice HO166.out) | ((with_reducible refine gate_callee (f := 25) rfl ?_); refine gL (some 14) Tryd.func25 #[.slice Ao19 t164.length co19] ?_; (with_reducible refine (nat_Bits.calls k _ _ t164 t167 _ ?side1 (Kd.R_reads' HO166.out).2.1 A4.out).mono ?_); (case side1 => exact dC (Kd.R_reads' HO166.out).2.2); rintro e w' ⟨rfl, ⟨nd, rfl⟩⟩; refine ⟨_, rfl, ?_⟩))
     go_ret2
     exact ⟨_, dE, by first | exact Kd.R_nil _ _ _ _ _ | exact Kd.N_nil _ _ _ _ _ | exact Kd.V_nil _ _ _ _ _ | exact Kd.Q_nil _ _ _ _ _ | exact Kd.S_nil _ _ _ _ _, dB⟩
    ·rw [if_neg c17] at H
     have c17b0 : decide ((wrap64 (Int.tdiv (262144 : Int) (wrap64 (t167 - 1)))) < a1) = false := decide_eq_false c17
     clear c17
     replace H := oA H
     obtain ⟨t171, A20, H⟩ := H
     (try dsimp only at H)
     replace H := oA H
     obtain ⟨t174, A21, H⟩ := H
     (try dsimp only at H)
     have H' := aM H
     clear H
     go_enter Tryd.func39, Tryd.ntmps39
     go_wp2_with (first | ((with_reducible refine gate_callee (f := 29) rfl ?_); refine gL (some 12) Tryd.func29 #[.slice A0 l0.length c0] ?_; (with_reducible refine (nat_Norm.calls _ _ l0 t164 _ ?side1 HC0.out A3.out).mono ?_); (case side1 => exact dC HR0.out); rintro e w22 ⟨v165, rfl, ho0, hb⟩; refine ⟨_, rfl, ?_⟩; have HO166 := aM (Kd.R_lower ho0 (below_size dB)); replace HB := hS HB.out hb; (try clear hb); (try clear ho0); obtain ⟨Ao23, co23, rfl⟩ := Kd.R_slice HO166.out) | ((with_reducible refine gate_callee (f := 25) rfl ?_); refine gL (some 14) Tryd.func25 #[.slice Ao23 t164.length co23] ?_; (with_reducible refine (nat_Bits.calls k _ _ t164 t167 _ ?side1 (Kd.R_reads' HO166.out).2.1 A4.out).mono ?_); (case side1 => exact dC (Kd.R_reads' HO166.out).2.2); rintro e w' ⟨rfl, ⟨nd, rfl⟩⟩; refine ⟨_, rfl, ?_⟩) | ((with_reducible refine gate_callee (f := 14) rfl ?_); refine gL (some 32) Tryd.func14 #[.int .u64 1] ?_; (with_reducible refine (nat_From.calls 1 t171 _ A20.out).mono ?_); rintro e w24 ⟨v172, rfl, ho0, hb⟩; refine ⟨_, rfl, ?_⟩; have HO173 := aM (Kd.R_lower (nW ho0 HO166.out) (below_size dB)); replace HO166 := oE HO166.out ho0 hb; replace HB := hS HB.out hb; (try clear hb); (try clear ho0)) | ((with_reducible refine gate_callee (f := 37) rfl ?_); refine gL (some 35) Tryd.func37 #[.int .u64 (IntKind.u64.wrap (a1))] ?_; (with_reducible refine (wide_Len.calls k (IntKind.u64.wrap (a1)) t174 _ A21.out).mono ?_); rintro e w' ⟨rfl, ⟨nd, rfl⟩⟩; refine ⟨_, rfl, ?_⟩))
     go_loopg [7, 8] k (fun kq v7 v8 w' => ∃ (x7_1 : List Int) (x8_1 : Int), v8 = .int .i64 x8_1 ∧ Aside0 (quot_Pow.l0 kq t164 a1 x7_1 x8_1 = some (r1, r2)) ∧ Aside0 (kq ≤ k) ∧ Aside0 (Kd.R (Kd.int .u64) 36 w' w.heap.size (fun k_ => some k_ ≠ (v7 : Value).ownBlock) (.slice Ao23 t164.length co23) t164) ∧ Aside0 (Kd.R (Kd.int .u64) 36 w' w.heap.size (fun k_ => oN Ao23 t164 co23 k_) v7 x7_1) ∧ Aside0 (Below w.heap.size w w'))
     case atStart => exact ⟨(t171), (wrap64 (t174 - 1)), dF, H', ⟨Nat.le_refl _⟩, ⟨oM HO166.out (fun _ hk => hk.2)⟩, ⟨oM HO173.out (fun _ hk => hk.2)⟩, ⟨dB⟩⟩
     case round =>
      clear H'
      try clear c5
      try clear c5b0
      try clear c8
      try clear c8b0 c8b1
      try clear c13
      try clear c13b0
      try clear c16
      try clear c16b0 c16b1
      try clear c17
      try clear c17b0
      obtain ⟨x7_1, x8_1, rfl, HA, HK1, HO_0, HO_7, HB⟩ := hrel
      cases gk with
      | zero => exact absurd HA.out (by simp [quot_Pow.l0])
      | succ k1 =>
       have H := HA.out
       clear HA
       simp only [quot_Pow.l0] at H
       by_cases c25 : x8_1 ≥ 0
       ·rw [if_pos c25] at H
        have c25b0 : decide (0 ≤ x8_1) = true := decide_eq_true c25
        clear c25
        replace H := oA H
        obtain ⟨⟨t175, t176⟩, A26, H⟩ := H
        (try dsimp only at H)
        replace H := nO H
        obtain ⟨c27, H⟩ := H
        have c27b0 := eq_true c27
        have c27b1 : decide (0 ≤ x8_1) = true := decide_eq_true c27
        clear c27
        obtain ⟨ji28, hji28⟩ : ∃ j_ : Int, (shr .i64 a1 x8_1) = j_ := ⟨_, rfl⟩
        first | rw [hji28] at H | simp only [hji28] at H
        (try rw [hji28] at A26)
        have hji28_ : (a1 / 2 ^ min x8_1.toNat 64) = ji28 := hji28
        have hji28z : x8_1 ≤ 64 → (a1 / 2 ^ x8_1.toNat) = ji28 := shr_small hji28
        by_cases c29 : (Go.bits .and .i64 (ji28) 1) = 1
        ·rw [if_pos c29] at H
         obtain ⟨c29b0, c29b1⟩ := bT c29
         clear c29
         replace H := oA H
         obtain ⟨⟨t179, t180⟩, A30, H⟩ := H
         (try dsimp only at H)
         by_cases c31 : t176 = 0
         ·rw [if_pos c31] at H
          obtain ⟨c31b0, c31b1⟩ := bT c31
          clear c31
          by_cases c32 : t180 = 0
          ·rw [if_pos c32] at H
           obtain ⟨c32b0, c32b1⟩ := bT c32
           clear c32
           have H' := aM H
           clear H
           obtain ⟨Ao33, co33, rfl⟩ := Kd.R_slice HO_7.out
           go_wp2_with (first | ((with_reducible refine gate_callee (f := 13) rfl ?_); refine gL (some 44) Tryd.func13 #[.slice Ao33 x7_1.length co33, .slice Ao33 x7_1.length co33] ?_; (with_reducible refine (nat_Mul.calls k1 _ _ x7_1 _ _ x7_1 t175 t176 _ ?side1 (Kd.R_reads' HO_7.out).2.1 ?side3 (Kd.R_reads' HO_7.out).2.1 A26.out).mono ?_); (case side1 => exact dC (Kd.R_reads' HO_7.out).2.2); (case side3 => exact dC (Kd.R_reads' HO_7.out).2.2); rintro e w34 ⟨v177, rfl, ho0, hb⟩; refine ⟨_, rfl, ?_⟩; have HO178 := aM (Kd.R_lower (nW (nW ho0 HO_0.out) HO_7.out) (below_size dB)); replace HO_0 := oE HO_0.out ho0 hb; replace HO_7 := oE HO_7.out ho0 hb; replace HB := hS HB.out hb; (try clear hb); (try clear ho0); obtain ⟨Ao35, co35, rfl⟩ := Kd.R_slice HO178.out) | ((with_reducible refine gate_callee (f := 13) rfl ?_); refine gL (some 55) Tryd.func13 #[.slice Ao35 t175.length co35, .slice Ao23 t164.length co23] ?_; (with_reducible refine (nat_Mul.calls k1 _ _ t175 _ _ t164 t179 t180 _ ?side1 (Kd.R_reads' HO178.out).2.1 ?side3 (Kd.R_reads' HO_0.out).2.1 A30.out).mono ?_); (case side1 => exact dC (Kd.R_reads' HO178.out).2.2); (case side3 => exact dC (Kd.R_reads' HO_0.out).2.2); rintro e w36 ⟨v181, rfl, ho0, hb⟩; refine ⟨_, rfl, ?_⟩; have HO182 := aM (Kd.R_lower (nW (nW (nW ho0 HO_0.out) HO_7.out) HO178.out) (below_size dB)); replace HO_0 := oE HO_0.out ho0 hb; replace HO_7 := oE HO_7.out ho0 hb; replace HO178 := oE HO178.out ho0 hb; replace HB := hS HB.out hb; (try clear hb); (try clear ho0)))
           go_roundg k1
           case measure => have := HK1.out; omega
           case rel => exact ⟨(t179), (wrap64 (x8_1 - 1)), dF, H', ⟨by have := HK1.out; omega⟩, ⟨oM HO_0.out (fun _ hk => hk.2)⟩, ⟨oM HO182.out (fun _ hk => hk.1.1.2)⟩, ⟨dB⟩⟩
          ·rw [if_neg c32] at H
           obtain ⟨c32b0, c32b1⟩ := bF c32
           simp only [Option.some.injEq, Prod.mk.injEq] at H
           obtain ⟨rfl, rfl⟩ := H
           obtain ⟨Ao37, co37, rfl⟩ := Kd.R_slice HO_7.out
           go_wp2_with (first | ((with_reducible refine gate_callee (f := 13) rfl ?_); refine gL (some 44) Tryd.func13 #[.slice Ao37 x7_1.length co37, .slice Ao37 x7_1.length co37] ?_; (with_reducible refine (nat_Mul.calls k1 _ _ x7_1 _ _ x7_1 t175 t176 _ ?side1 (Kd.R_reads' HO_7.out).2.1 ?side3 (Kd.R_reads' HO_7.out).2.1 A26.out).mono ?_); (case side1 => exact dC (Kd.R_reads' HO_7.out).2.2); (case side3 => exact dC (Kd.R_reads' HO_7.out).2.2); rintro e w38 ⟨v177, rfl, ho0, hb⟩; refine ⟨_, rfl, ?_⟩; have HO178 := aM (Kd.R_lower (nW (nW ho0 HO_0.out) HO_7.out) (below_size dB)); replace HO_0 := oE HO_0.out ho0 hb; replace HO_7 := oE HO_7.out ho0 hb; replace HB := hS HB.out hb; (try clear hb); (try clear ho0); obtain ⟨Ao39, co39, rfl⟩ := Kd.R_slice HO178.out) | ((with_reducible refine gate_callee (f := 13) rfl ?_); refine gL (some 55) Tryd.func13 #[.slice Ao39 t175.length co39, .slice Ao23 t164.length co23] ?_; (with_reducible refine (nat_Mul.calls k1 _ _ t175 _ _ t164 t179 t180 _ ?side1 (Kd.R_reads' HO178.out).2.1 ?side3 (Kd.R_reads' HO_0.out).2.1 A30.out).mono ?_); (case side1 => exact dC (Kd.R_reads' HO178.out).2.2); (case side3 => exact dC (Kd.R_reads' HO_0.out).2.2); rintro e w40 ⟨v181, rfl, ho0, hb⟩; refine ⟨_, rfl, ?_⟩; have HO182 := aM (Kd.R_lower (nW (nW (nW ho0 HO_0.out) HO_7.out) HO178.out) (below_size dB)); replace HO_0 := oE HO_0.out ho0 hb; replace HO_7 := oE HO_7.out ho0 hb; replace HO178 := oE HO178.out ho0 hb; replace HB := hS HB.out hb; (try clear hb); (try clear ho0)))
           go_ret2
           exact ⟨_, by first | rfl | (simp [errW_none, errW_some] <;> rfl) | (simp only [← hji28]; first | rfl | (simp [errW_none, errW_some] <;> rfl)) | (simp [*, errW_none, errW_some] <;> rfl), by first | exact Kd.R_nil _ _ _ _ _ | exact Kd.N_nil _ _ _ _ _ | exact Kd.V_nil _ _ _ _ _ | exact Kd.Q_nil _ _ _ _ _ | exact Kd.S_nil _ _ _ _ _, dB⟩
         ·rw [if_neg c31] at H
          obtain ⟨c31b0, c31b1⟩ := bF c31
          simp only [Option.some.injEq, Prod.mk.injEq] at H
          obtain ⟨rfl, rfl⟩ := H
          obtain ⟨Ao41, co41, rfl⟩ := Kd.R_slice HO_7.out
          go_wp2_with (first | ((with_reducible refine gate_callee (f := 13) rfl ?_); refine gL (some 44) Tryd.func13 #[.slice Ao41 x7_1.length co41, .slice Ao41 x7_1.length co41] ?_; (with_reducible refine (nat_Mul.calls k1 _ _ x7_1 _ _ x7_1 t175 t176 _ ?side1 (Kd.R_reads' HO_7.out).2.1 ?side3 (Kd.R_reads' HO_7.out).2.1 A26.out).mono ?_); (case side1 => exact dC (Kd.R_reads' HO_7.out).2.2); (case side3 => exact dC (Kd.R_reads' HO_7.out).2.2); rintro e w42 ⟨v177, rfl, ho0, hb⟩; refine ⟨_, rfl, ?_⟩; have HO178 := aM (Kd.R_lower (nW (nW ho0 HO_0.out) HO_7.out) (below_size dB)); replace HO_0 := oE HO_0.out ho0 hb; replace HO_7 := oE HO_7.out ho0 hb; replace HB := hS HB.out hb; (try clear hb); (try clear ho0); obtain ⟨Ao43, co43, rfl⟩ := Kd.R_slice HO178.out) | ((with_reducible refine gate_callee (f := 13) rfl ?_); refine gL (some 55) Tryd.func13 #[.slice Ao43 t175.length co43, .slice Ao23 t164.length co23] ?_; (with_reducible refine (nat_Mul.calls k1 _ _ t175 _ _ t164 t179 t180 _ ?side1 (Kd.R_reads' HO178.out).2.1 ?side3 (Kd.R_reads' HO_0.out).2.1 A30.out).mono ?_); (case side1 => exact dC (Kd.R_reads' HO178.out).2.2); (case side3 => exact dC (Kd.R_reads' HO_0.out).2.2); rintro e w44 ⟨v181, rfl, ho0, hb⟩; refine ⟨_, rfl, ?_⟩; have HO182 := aM (Kd.R_lower (nW (nW (nW ho0 HO_0.out) HO_7.out) HO178.out) (below_size dB)); replace HO_0 := oE HO_0.out ho0 hb; replace HO_7 := oE HO_7.out ho0 hb; replace HO178 := oE HO178.out ho0 hb; replace HB := hS HB.out hb; (try clear hb); (try clear ho0)))
          go_ret2
          exact ⟨_, by first | rfl | (simp [errW_none, errW_some] <;> rfl) | (simp only [← hji28]; first | rfl | (simp [errW_none, errW_some] <;> rfl)) | (simp [*, errW_none, errW_some] <;> rfl), by first | exact Kd.R_nil _ _ _ _ _ | exact Kd.N_nil _ _ _ _ _ | exact Kd.V_nil _ _ _ _ _ | exact Kd.Q_nil _ _ _ _ _ | exact Kd.S_nil _ _ _ _ _, dB⟩
        ·rw [if_neg c29] at H
         obtain ⟨c29b0, c29b1⟩ := bF c29
         by_cases c45 : t176 = 0
         ·rw [if_pos c45] at H
          obtain ⟨c45b0, c45b1⟩ := bT c45
          clear c45
          have H' := aM H
          clear H
          obtain ⟨Ao46, co46, rfl⟩ := Kd.R_slice HO_7.out
          go_wp2_with (first | ((with_reducible refine gate_callee (f := 13) rfl ?_); refine gL (some 44) Tryd.func13 #[.slice Ao46 x7_1.length co46, .slice Ao46 x7_1.length co46] ?_; (with_reducible refine (nat_Mul.calls k1 _ _ x7_1 _ _ x7_1 t175 t176 _ ?side1 (Kd.R_reads' HO_7.out).2.1 ?side3 (Kd.R_reads' HO_7.out).2.1 A26.out).mono ?_); (case side1 => exact dC (Kd.R_reads' HO_7.out).2.2); (case side3 => exact dC (Kd.R_reads' HO_7.out).2.2); rintro e w47 ⟨v177, rfl, ho0, hb⟩; refine ⟨_, rfl, ?_⟩; have HO178 := aM (Kd.R_lower (nW (nW ho0 HO_0.out) HO_7.out) (below_size dB)); replace HO_0 := oE HO_0.out ho0 hb; replace HO_7 := oE HO_7.out ho0 hb; replace HB := hS HB.out hb; (try clear hb); (try clear ho0)))
          go_roundg k1
          case measure => have := HK1.out; omega
          case rel => exact ⟨(t175), (wrap64 (x8_1 - 1)), dF, H', ⟨by have := HK1.out; omega⟩, ⟨oM HO_0.out (fun _ hk => hk.2)⟩, ⟨oM HO178.out (fun _ hk => hk.1.2)⟩, ⟨dB⟩⟩
         ·rw [if_neg c45] at H
          obtain ⟨c45b0, c45b1⟩ := bF c45
          simp only [Option.some.injEq, Prod.mk.injEq] at H
          obtain ⟨rfl, rfl⟩ := H
          obtain ⟨Ao48, co48, rfl⟩ := Kd.R_slice HO_7.out
          go_wp2_with (first | ((with_reducible refine gate_callee (f := 13) rfl ?_); refine gL (some 44) Tryd.func13 #[.slice Ao48 x7_1.length co48, .slice Ao48 x7_1.length co48] ?_; (with_reducible refine (nat_Mul.calls k1 _ _ x7_1 _ _ x7_1 t175 t176 _ ?side1 (Kd.R_reads' HO_7.out).2.1 ?side3 (Kd.R_reads' HO_7.out).2.1 A26.out).mono ?_); (case side1 => exact dC (Kd.R_reads' HO_7.out).2.2); (case side3 => exact dC (Kd.R_reads' HO_7.out).2.2); rintro e w49 ⟨v177, rfl, ho0, hb⟩; refine ⟨_, rfl, ?_⟩; have HO178 := aM (Kd.R_lower (nW (nW ho0 HO_0.out) HO_7.out) (below_size dB)); replace HO_0 := oE HO_0.out ho0 hb; replace HO_7 := oE HO_7.out ho0 hb; replace HB := hS HB.out hb; (try clear hb); (try clear ho0)))
          go_ret2
          exact ⟨_, by first | rfl | (simp [errW_none, errW_some] <;> rfl) | (simp only [← hji28]; first | rfl | (simp [errW_none, errW_some] <;> rfl)) | (simp [*, errW_none, errW_some] <;> rfl), by first | exact Kd.R_nil _ _ _ _ _ | exact Kd.N_nil _ _ _ _ _ | exact Kd.V_nil _ _ _ _ _ | exact Kd.Q_nil _ _ _ _ _ | exact Kd.S_nil _ _ _ _ _, dB⟩
       ·rw [if_neg c25] at H
        have c25b0 : decide (0 ≤ x8_1) = false := decide_eq_false c25
        clear c25
        simp only [Option.some.injEq, Prod.mk.injEq] at H
        obtain ⟨rfl, rfl⟩ := H
        go_wp2
        go_ret2
        exact ⟨_, dE, oM HO_7.out (fun _ hk => trivial), dB⟩
def radix_Five.f (k : Nat) (a0 : Int) : Option (List Int × Int) := if a0 > 112899 then (some (([] : List Int), 21)) else ((quot_Pow.f k (([5] : List Int)) a0).bind fun bt186 => (some (bt186.1, bt186.2)))
theorem radix_Five.mono : ∀ a0 k, LeO (radix_Five.f k a0) (radix_Five.f (k + 1) a0) := by
 intro a0 k
 unfold radix_Five.f
 have m0_ := quot_Pow.mono
 exact mX
set_option maxHeartbeats 8000000 in
set_option maxRecDepth 100000 in
theorem radix_Five.calls (k : Nat) (a0 : Int) (r1 : List Int) (r2 : Int) (w : World) (h : radix_Five.f k a0 = some (r1, r2)) :
  Calls Tryd.prog 34 #[.int .i64 a0] w fun e w' => ∃ v0_ : Value, e = .returned (.tuple #[v0_, .int .i64 r2]) ∧ Kd.R (Kd.int .u64) 36 w' w.heap.size (fun _ => True) v0_ r1 ∧ Below w.heap.size w w' := by
 have HB := aM (Below.refl w.heap.size w)
 have H := h
 clear h
 unfold radix_Five.f at H
 by_cases c2 : a0 > 112899
 ·rw [if_pos c2] at H
  have c2b0 : decide (112899 < a0) = true := decide_eq_true c2
  clear c2
  simp only [Option.some.injEq, Prod.mk.injEq] at H
  obtain ⟨rfl, rfl⟩ := H
  go_enter Tryd.func34, Tryd.ntmps34
  go_wp2
  go_ret2
  exact ⟨_, dE, by first | exact Kd.R_nil _ _ _ _ _ | exact Kd.N_nil _ _ _ _ _ | exact Kd.V_nil _ _ _ _ _ | exact Kd.Q_nil _ _ _ _ _ | exact Kd.S_nil _ _ _ _ _, dB⟩
 ·rw [if_neg c2] at H
  have c2b0 : decide (112899 < a0) = false := decide_eq_false c2
  clear c2
  obtain ⟨y183, hy183⟩ : ∃ y_ : List Int, y_ = (([5] : List Int)) := ⟨_, rfl⟩
  replace H : ((quot_Pow.f k y183 a0).bind fun bt186 => (some (bt186.1, bt186.2))) = some (r1, r2) := by first | (rw [hy183]; with_reducible exact H) | (have H2_ := (Option.bind_some _ _).symm.trans H; rw [hy183]; with_reducible exact H2_) | (have H2_ := (Option.bind_some _ _).symm.trans H; with_reducible exact H2_) | with_reducible exact H | (rw [hy183]; exact H) | exact H
  have Ny183 := aM hy183
  clear hy183
  replace H := oA H
  obtain ⟨⟨t186, t187⟩, A3, H⟩ := H
  (try dsimp only at H)
  simp only [Option.some.injEq, Prod.mk.injEq] at H
  obtain ⟨rfl, rfl⟩ := H
  go_enter Tryd.func34, Tryd.ntmps34
  go_wp2_with (first | ((with_reducible refine gate_dst (N := 6) rfl ?_); refine Kd.R_lit (Kd.int .u64) _ 36 ?hg (N := 6) ?hd (xs := ([5] : List Int)) (inner := [.int .u64 5]) (ok := fun _ => True) (okp := fun _ => True) ?hr ?hp (fun _ hk => hk) trivial (Below.refl _ _) (Nat.le_refl _) (by simp) ?_; (case hd => rfl); (case hg => rfl); (case hr => first | (go_simp; done) | (go_simp; rfl)); (case hp => exact (Reps.one (show Kd.M (Kd.int .u64) _ _ _ 5 [.int .u64 5] from rfl) (Reps.none _ _))); intro v184 w4 ho5 hb hg_ hnew_; clear hg_ hnew_; (first | rw [← Ny183.out] at ho5 | (simp only [Int.reduceToNat] at ho5; rw [← Ny183.out] at ho5)); have HO185 := aM (Kd.R_lower ho5 (below_size dB)); replace HB := hS HB.out hb; clear hb ho5; obtain ⟨Ao6, co6, rfl⟩ := Kd.R_slice HO185.out) | ((with_reducible refine gate_callee (f := 39) rfl ?_); refine gL (some 8) Tryd.func39 #[.slice Ao6 y183.length co6, .int .i64 a0] ?_; (with_reducible refine (quot_Pow.calls k _ _ y183 a0 t186 t187 _ ?side1 (Kd.R_reads' HO185.out).2.1 A3.out).mono ?_); (case side1 => exact dC (Kd.R_reads' HO185.out).2.2); rintro e w7 ⟨v188, rfl, ho0, hb⟩; refine ⟨_, rfl, ?_⟩; have HO189 := aM (Kd.R_lower (nW ho0 HO185.out) (below_size dB)); replace HO185 := oE HO185.out ho0 hb; replace HB := hS HB.out hb; (try clear hb); (try clear ho0)))
  go_ret2
  exact ⟨_, dE, oM HO189.out (fun _ hk => trivial), dB⟩
def wide_within.f (a0 : Int) : Option (Int) := some (mn (mx a0 0) 128)
set_option maxHeartbeats 8000000 in
set_option maxRecDepth 100000 in
theorem wide_within.calls (a0 : Int) (r : Int) (w : World) (h : wide_within.f a0 = some r) :
  Calls Tryd.prog 46 #[.int .i64 a0] w fun e w' => e = .returned (.int .i64 r) ∧ Below w.heap.size w w' := by
 have HB := aM (Below.refl w.heap.size w)
 have H := h
 clear h
 unfold wide_within.f at H
 obtain ⟨ji2, hji2⟩ : ∃ j_ : Int, (mx a0 0) = j_ := ⟨_, rfl⟩
 first | rw [hji2] at H | simp only [hji2] at H
 (try (have hji2l : 0 ≤ ji2 := by (rw [← hji2]; unfold mx; (repeat' split) <;> omega)))
 (try (have hji2m : 0 ≤ ji2 := by omega))
 have hji2_ : (if a0 < 0 then 0 else a0) = ji2 := hji2
 obtain ⟨ji3, hji3⟩ : ∃ j_ : Int, (mn (ji2) 128) = j_ := ⟨_, rfl⟩
 first | rw [hji3] at H | simp only [hji3] at H
 have hji3_ : (if 128 < (ji2) then 128 else (ji2)) = ji3 := hji3
 obtain rfl := Option.some.inj H
 go_enter Tryd.func46, Tryd.ntmps46
 go_wp2
 go_ret
 exact ⟨by first | rfl | (simp [errW_none, errW_some] <;> rfl) | (simp only [← hji2, ← hji3]; first | rfl | (simp [errW_none, errW_some] <;> rfl)) | (simp [*, errW_none, errW_some] <;> rfl), dB⟩
def wide_Shl.f (a0 : Int) (a1 : Int) (a2 : Int) : Option (Int × Int) := (wide_within.f a2).bind fun t190 => (if t190 ≥ 64 then (if 0 ≤ (wrap64 (t190 - 64)) then (some (shl .u64 a1 (wrap64 (t190 - 64)), 0)) else (none)) else (if 0 ≤ t190 then (if 0 ≤ (wrap64 (64 - t190)) then (some (Go.bits .or .u64 (shl .u64 a0 t190) (shr .u64 a1 (wrap64 (64 - t190))), shl .u64 a1 t190)) else (none)) else (none)))
set_option maxHeartbeats 8000000 in
set_option maxRecDepth 100000 in
theorem wide_Shl.calls (a0 : Int) (a1 : Int) (a2 : Int) (r1 : Int) (r2 : Int) (w : World) (h : wide_Shl.f a0 a1 a2 = some (r1, r2)) :
  Calls Tryd.prog 40 #[.int .u64 a0, .int .u64 a1, .int .i64 a2] w fun e w' => e = .returned (.tuple #[.int .u64 r1, .int .u64 r2]) ∧ Below w.heap.size w w' := by
 have HB := aM (Below.refl w.heap.size w)
 have H := h
 clear h
 unfold wide_Shl.f at H
 replace H := oA H
 obtain ⟨t190, A4, H⟩ := H
 (try dsimp only at H)
 by_cases c5 : t190 ≥ 64
 ·rw [if_pos c5] at H
  have c5b0 : decide (64 ≤ t190) = true := decide_eq_true c5
  clear c5
  obtain ⟨ji6, hji6⟩ : ∃ j_ : Int, (wrap64 (t190 - 64)) = j_ := ⟨_, rfl⟩
  first | rw [hji6] at H | simp only [hji6] at H
  (try rw [hji6] at A4)
  have hji6w : (IntKind.i64.wrap (t190 - 64)) = ji6 := (i64_w _).trans hji6
  replace H := nO H
  obtain ⟨c7, H⟩ := H
  have c7b0 := eq_true c7
  have c7b1 : decide (0 ≤ (ji6)) = true := decide_eq_true c7
  clear c7
  obtain ⟨ji8, hji8⟩ : ∃ j_ : Int, (shl .u64 a1 (ji6)) = j_ := ⟨_, rfl⟩
  first | rw [hji8] at H | simp only [hji8] at H
  (try rw [hji8] at A4)
  have hji8_ : (IntKind.u64.wrap (a1 * 2 ^ min (ji6).toNat 64)) = ji8 := hji8
  have hji8z : (ji6) ≤ 64 → (IntKind.u64.wrap (a1 * 2 ^ (ji6).toNat)) = ji8 := shl_small hji8
  simp only [Option.some.injEq, Prod.mk.injEq] at H
  obtain ⟨rfl, rfl⟩ := H
  go_enter Tryd.func40, Tryd.ntmps40
  iterate 6 (go_wp2_with (first | (go_at_call 46; (with_reducible refine (wide_within.calls a2 t190 _ A4.out).mono ?_); rintro e w9 ⟨rfl, hb⟩; replace HB := hS HB.out hb; (try clear hb))); try go_quiet (fail))
  go_ret2
  exact ⟨by first | rfl | (simp [errW_none, errW_some] <;> rfl) | (simp only [← hji6, ← hji8]; first | rfl | (simp [errW_none, errW_some] <;> rfl)) | (simp [*, errW_none, errW_some] <;> rfl), dB⟩
 ·rw [if_neg c5] at H
  have c5b0 : decide (64 ≤ t190) = false := decide_eq_false c5
  clear c5
  replace H := nO H
  obtain ⟨c10, H⟩ := H
  have c10b0 := eq_true c10
  have c10b1 : decide (0 ≤ t190) = true := decide_eq_true c10
  clear c10
  obtain ⟨ji11, hji11⟩ : ∃ j_ : Int, (shl .u64 a0 t190) = j_ := ⟨_, rfl⟩
  first | rw [hji11] at H | simp only [hji11] at H
  (try rw [hji11] at A4)
  have hji11_ : (IntKind.u64.wrap (a0 * 2 ^ min t190.toNat 64)) = ji11 := hji11
  have hji11z : t190 ≤ 64 → (IntKind.u64.wrap (a0 * 2 ^ t190.toNat)) = ji11 := shl_small hji11
  obtain ⟨ji12, hji12⟩ : ∃ j_ : Int, (wrap64 (64 - t190)) = j_ := ⟨_, rfl⟩
  first | rw [hji12] at H | simp only [hji12] at H
  (try rw [hji12] at A4)
  have hji12w : (IntKind.i64.wrap (64 - t190)) = ji12 := (i64_w _).trans hji12
  replace H := nO H
  obtain ⟨c13, H⟩ := H
  have c13b0 := eq_true c13
  have c13b1 : decide (0 ≤ (ji12)) = true := decide_eq_true c13
  clear c13
  obtain ⟨ji14, hji14⟩ : ∃ j_ : Int, (shr .u64 a1 (ji12)) = j_ := ⟨_, rfl⟩
  first | rw [hji14] at H | simp only [hji14] at H
  (try rw [hji14] at A4)
  have hji14_ : (a1 / 2 ^ min (ji12).toNat 64) = ji14 := hji14
  have hji14z : (ji12) ≤ 64 → (a1 / 2 ^ (ji12).toNat) = ji14 := shr_small hji14
  have c15b0 := eq_true (of_decide_eq_true dS : 0 ≤ t190)
  obtain ⟨ji16, hji16⟩ : ∃ j_ : Int, (shl .u64 a1 t190) = j_ := ⟨_, rfl⟩
  first | rw [hji16] at H | simp only [hji16] at H
  (try rw [hji16] at A4)
  have hji16_ : (IntKind.u64.wrap (a1 * 2 ^ min t190.toNat 64)) = ji16 := hji16
  have hji16z : t190 ≤ 64 → (IntKind.u64.wrap (a1 * 2 ^ t190.toNat)) = ji16 := shl_small hji16
  simp only [Option.some.injEq, Prod.mk.injEq] at H
  obtain ⟨rfl, rfl⟩ := H
  go_enter Tryd.func40, Tryd.ntmps40
  iterate 6 (go_wp2_with (first | (go_at_call 46; (with_reducible refine (wide_within.calls a2 t190 _ A4.out).mono ?_); rintro e w17 ⟨rfl, hb⟩; replace HB := hS HB.out hb; (try clear hb))); try go_quiet (fail))
  go_ret2
  exact ⟨by first | rfl | (simp [errW_none, errW_some] <;> rfl) | (simp only [← hji11, ← hji12, ← hji14, ← hji16]; first | rfl | (simp [errW_none, errW_some] <;> rfl)) | (simp [*, errW_none, errW_some] <;> rfl), dB⟩
def cpyAt (xs ys : List Int) (q : Nat) : List Int := xs.take q ++ (ys.take (min ys.length (xs.length - q)) ++ xs.drop (q + min ys.length (xs.length - q)))
theorem cpyAt_length {xs ys : List Int} {q : Nat} (h : q ≤ xs.length) : (cpyAt xs ys q).length = xs.length := by
 unfold cpyAt
 rw [List.length_append, List.length_append, List.length_take, List.length_take, List.length_drop]
 omega
theorem shl_copied {yq y z : List Int} {q : Nat} (hl : yq.length = y.length) (h : y = cpyAt yq z q) :
  yq.take q ++ (z.take (min z.length (y.length - q)) ++ yq.drop (q + min z.length (y.length - q))) = y := by
 rw [← hl]
 conv => rhs; rw [h]
 rfl
def nat_Shl.l0 : Nat → Int → List Int → Int → Int → Option (List Int × Int)
 | 0, _, _, _, _ => none
 | k + 1, x1, x6, x7, x8 => if x8 > (wrap64 (Int.tdiv x1 64)) then (if 0 ≤ x8 then (if x8 < (x6.length : Int) then (if 0 ≤ (wrap64 (x8 - 1)) then (if (wrap64 (x8 - 1)) < (x6.length : Int) then ((wide_Shl.f (rd x6 x8) (rd x6 (wrap64 (x8 - 1))) x7).bind fun bt118 => (nat_Shl.l0 k x1 (x6.set (x8 : Int).toNat bt118.1) x7 (wrap64 (x8 - 1)))) else (none)) else (none)) else (none)) else (none)) else (if 0 ≤ (wrap64 (Int.tdiv x1 64)) then (if (wrap64 (Int.tdiv x1 64)) < (x6.length : Int) then (if 0 ≤ x7 then ((nat_bound.f k (x6.set ((wrap64 (Int.tdiv x1 64)) : Int).toNat (shl .u64 (rd x6 (wrap64 (Int.tdiv x1 64))) x7))).bind fun bt123 => (some (bt123.1, bt123.2))) else (none)) else (none)) else (none))
def nat_Shl.f (k : Nat) (l0 : List Int) (a1 : Int) : Option (List Int × Int) := (nat_size.f k l0).bind fun t110 => (if 0 ≤ t110 then (if t110 ≤ (l0.length : Int) then (if a1 < 0 then (some (([] : List Int), 22)) else (if ((l0.take (t110 : Int).toNat).length : Int) = 0 then (some (([] : List Int), 0)) else ((nat_Bits.f k (l0.take (t110 : Int).toNat)).bind fun t112 => (if a1 > (wrap64 (262144 - t112)) then (some (([] : List Int), 21)) else (if 0 ≤ (wrap64 ((wrap64 ((wrap64 (Int.tdiv a1 64)) + ((l0.take (t110 : Int).toNat).length : Int))) + 1)) then (if ((wrap64 ((wrap64 ((wrap64 (Int.tdiv a1 64)) + ((l0.take (t110 : Int).toNat).length : Int))) + 1) : Int).toNat ≤ 35184372088832 ∧ 0 ≤ (wrap64 (Int.tdiv a1 64)) ∧ (wrap64 (Int.tdiv a1 64)).toNat ≤ (wrap64 ((wrap64 ((wrap64 (Int.tdiv a1 64)) + ((l0.take (t110 : Int).toNat).length : Int))) + 1) : Int).toNat) then ((some (cpyAt (List.replicate (wrap64 ((wrap64 ((wrap64 (Int.tdiv a1 64)) + ((l0.take (t110 : Int).toNat).length : Int))) + 1) : Int).toNat 0) (l0.take (t110 : Int).toNat) (wrap64 (Int.tdiv a1 64)).toNat : List Int)).bind fun y113 => (if (Int.tmod a1 64) > 0 then (nat_Shl.l0 k a1 y113 (Int.tmod a1 64) (wrap64 ((y113.length : Int) - 1))) else ((nat_bound.f k y113).bind fun bt127 => (some (bt127.1, bt127.2))))) else (none)) else (none)))))) else (none)) else (none))
theorem nat_Shl.mono_l : ∀ k, (∀ y0 y1 y2 y3, LeO (nat_Shl.l0 k y0 y1 y2 y3) (nat_Shl.l0 (k + 1) y0 y1 y2 y3))
 | 0 => fun _ _ _ _ r h => by simp [nat_Shl.l0] at h
 | k + 1 => by
  have ih0 := nat_Shl.mono_l k
  ·intro y0 y1 y2 y3
   unfold nat_Shl.l0
   have m0_ := nat_Bits.mono
   have m1_ := nat_bound.mono
   have m2_ := nat_size.mono
   exact mX
theorem nat_Shl.mono : ∀ a0 a1 k, LeO (nat_Shl.f k a0 a1) (nat_Shl.f (k + 1) a0 a1) := by
 intro a0 a1 k
 have ih0 := nat_Shl.mono_l k
 unfold nat_Shl.f
 have m0_ := nat_Bits.mono
 have m1_ := nat_bound.mono
 have m2_ := nat_size.mono
 exact mX
def nat_Shl.T15 : Bool × List (List Nat × List Nat) := (true, [([], []), ([], []), ([], []), ([], []), ([2, 3], [2, 3]), ([4], [4]), ([], []), ([], []), ([7], [7]), ([6, 8], [6, 8]), ([9], [9]), ([], []), ([5, 10, 11], [5, 10, 11]), ([12], [12]), ([13], [13]), ([13], [13]), ([0, 1, 0, 1, 2, 3, 4, 5, 6, 7, 8, 9, 10, 11, 12, 13, 14], [0, 1]), ([16, 14, 12, 0, 1, 2, 3, 4, 5, 6, 7, 8, 9, 10, 11, 12, 13, 14], [14, 16])])
def nat_Shl.B15 : List Nat := [0, 0, 0, 0, 12, 28, 0, 0, 128, 448, 960, 0, 4092, 8188, 16380, 16380, 32767, 98303]
theorem nat_Shl.tab15 : rtab .any (opsOf Tryd.f35 15) = nat_Shl.T15 := by kernel_rfl
theorem nat_Shl.bits15 : waitsOk nat_Shl.T15.2 nat_Shl.B15 = true := by kernel_rfl
set_option maxHeartbeats 8000000 in
set_option maxRecDepth 100000 in
theorem nat_Shl.calls (k : Nat) (A0 : Option Addr) (c0 : Nat) (l0 : List Int) (a1 : Int) (r1 : List Int) (r2 : Int) (w : World) (hr0 : Kd.C (Kd.int .u64) w A0 l0.length l0) (hc0 : l0.length ≤ c0) (h : nat_Shl.f k l0 a1 = some (r1, r2)) :
  Calls Tryd.prog 35 #[.slice A0 l0.length c0, .int .i64 a1] w fun e w' => ∃ v0_ : Value, e = .returned (.tuple #[v0_, .int .i64 r2]) ∧ Kd.R (Kd.int .u64) 36 w' w.heap.size (fun _ => True) v0_ r1 ∧ Below w.heap.size w w' := by
 have HR0 := aM hr0
 have HC0 := aM hc0
 clear hr0 hc0
 have HB := aM (Below.refl w.heap.size w)
 have H := h
 clear h
 unfold nat_Shl.f at H
 replace H := oA H
 obtain ⟨t110, A3, H⟩ := H
 (try dsimp only at H)
 replace H := nO H
 obtain ⟨c4, H⟩ := H
 have c4b0 := eq_true c4
 have c4b1 : decide (0 ≤ t110) = true := decide_eq_true c4
 clear c4
 replace H := nO H
 obtain ⟨c5, H⟩ := H
 have c5b0 := eq_true c5
 have c5b1 := decide_eq_true c5
 clear c5
 obtain ⟨z110, Nz1100⟩ : ∃ z_ : List Int, (l0.take (t110 : Int).toNat) = z_ := ⟨_, rfl⟩
 rw [Nz1100] at H
 have Nz110 := aM Nz1100
 clear Nz1100
 by_cases c6 : a1 < 0
 ·rw [if_pos c6] at H
  have c6b0 := decide_eq_true c6
  clear c6
  simp only [Option.some.injEq, Prod.mk.injEq] at H
  obtain ⟨rfl, rfl⟩ := H
  go_enter Tryd.func35, Tryd.ntmps35
  go_wp2_with (first | ((with_reducible refine gate_callee (f := 24) rfl ?_); refine gL (some 11) Tryd.func24 #[.slice A0 l0.length c0] ?_; (with_reducible refine (nat_size.calls k _ _ l0 t110 _ ?side1 HC0.out A3.out).mono ?_); (case side1 => exact dC HR0.out); rintro e w' ⟨rfl, ⟨nd, rfl⟩⟩; refine ⟨_, rfl, ?_⟩; obtain ⟨i07, hi07, _, hsz7, _⟩ := info_parts info36; obtain ⟨hcut7, hA7, hC7⟩ := print_take_of (P := Tryd.prog) (Value.int .u64) 0 22 36 .i64 Tryd.underlying22 hi07 hsz7 A0 c0 l0 t110 (of_decide_eq_true dS) (of_decide_eq_true dS) HC0.out; rw [Nz110.out] at hcut7 hA7 hC7; have HR111 := aM (Kd.C_of_reads (h1 := fun _ => rfl) (hA7 _ (Kd.reads_of_C HR0.out))); have HC111 := aM hC7; clear hA7 hC7 hi07 hsz7))
  go_ret2
  exact ⟨_, dE, by first | exact Kd.R_nil _ _ _ _ _ | exact Kd.N_nil _ _ _ _ _ | exact Kd.V_nil _ _ _ _ _ | exact Kd.Q_nil _ _ _ _ _ | exact Kd.S_nil _ _ _ _ _, dB⟩
 ·rw [if_neg c6] at H
  have c6b0 := decide_eq_false c6
  clear c6
  by_cases c8 : (z110.length : Int) = 0
  ·rw [if_pos c8] at H
   obtain ⟨c8b0, c8b1⟩ := bT c8
   clear c8
   simp only [Option.some.injEq, Prod.mk.injEq] at H
   obtain ⟨rfl, rfl⟩ := H
   go_enter Tryd.func35, Tryd.ntmps35
   go_wp2_with (first | ((with_reducible refine gate_callee (f := 24) rfl ?_); refine gL (some 11) Tryd.func24 #[.slice A0 l0.length c0] ?_; (with_reducible refine (nat_size.calls k _ _ l0 t110 _ ?side1 HC0.out A3.out).mono ?_); (case side1 => exact dC HR0.out); rintro e w' ⟨rfl, ⟨nd, rfl⟩⟩; refine ⟨_, rfl, ?_⟩; obtain ⟨i09, hi09, _, hsz9, _⟩ := info_parts info36; obtain ⟨hcut9, hA9, hC9⟩ := print_take_of (P := Tryd.prog) (Value.int .u64) 0 22 36 .i64 Tryd.underlying22 hi09 hsz9 A0 c0 l0 t110 (of_decide_eq_true dS) (of_decide_eq_true dS) HC0.out; rw [Nz110.out] at hcut9 hA9 hC9; have HR111 := aM (Kd.C_of_reads (h1 := fun _ => rfl) (hA9 _ (Kd.reads_of_C HR0.out))); have HC111 := aM hC9; clear hA9 hC9 hi09 hsz9))
   go_ret2
   exact ⟨_, dE, by first | exact Kd.R_nil _ _ _ _ _ | exact Kd.N_nil _ _ _ _ _ | exact Kd.V_nil _ _ _ _ _ | exact Kd.Q_nil _ _ _ _ _ | exact Kd.S_nil _ _ _ _ _, dB⟩
  ·rw [if_neg c8] at H
   obtain ⟨c8b0, c8b1⟩ := bF c8
   have c8b2 : ¬ (z110 = []) := fun h_ => c8 (by rw [h_]; rfl)
   replace H := oA H
   obtain ⟨t112, A10, H⟩ := H
   (try dsimp only at H)
   by_cases c11 : a1 > (wrap64 (262144 - t112))
   ·rw [if_pos c11] at H
    have c11b0 : decide ((wrap64 (262144 - t112)) < a1) = true := decide_eq_true c11
    clear c11
    simp only [Option.some.injEq, Prod.mk.injEq] at H
    obtain ⟨rfl, rfl⟩ := H
    go_enter Tryd.func35, Tryd.ntmps35
    go_wp2_with (first | ((with_reducible refine gate_callee (f := 24) rfl ?_); refine gL (some 11) Tryd.func24 #[.slice A0 l0.length c0] ?_; (with_reducible refine (nat_size.calls k _ _ l0 t110 _ ?side1 HC0.out A3.out).mono ?_); (case side1 => exact dC HR0.out); rintro e w' ⟨rfl, ⟨nd, rfl⟩⟩; refine ⟨_, rfl, ?_⟩; obtain ⟨i012, hi012, _, hsz12, _⟩ := info_parts info36; obtain ⟨hcut12, hA12, hC12⟩ := print_take_of (P := Tryd.prog) (Value.int .u64) 0 22 36 .i64 Tryd.underlying22 hi012 hsz12 A0 c0 l0 t110 (of_decide_eq_true dS) (of_decide_eq_true dS) HC0.out; rw [Nz110.out] at hcut12 hA12 hC12; have HR111 := aM (Kd.C_of_reads (h1 := fun _ => rfl) (hA12 _ (Kd.reads_of_C HR0.out))); have HC111 := aM hC12; clear hA12 hC12 hi012 hsz12) | ((with_reducible refine gate_callee (f := 25) rfl ?_); refine goesL_ (some 23) rfl rfl Tryd.func25 (by kernel_rfl) rfl #[.slice A0 z110.length c0] rfl (by (try simp only [List.map_toArray, List.map_cons, List.map_nil]); first | done | (rw [show z110.length = t110.toNat from (by rw [← Nz110.out, List.length_take]; have h_ : (t110 : Int) ≤ (l0.length : Int) := of_decide_eq_true dS; omega)] <;> rfl) | rfl | (simp only [List.length_drop, List.length_take]; rfl)) ?_; (with_reducible refine (nat_Bits.calls k _ _ z110 t112 _ ?side1 HC111.out A10.out).mono ?_); (case side1 => exact dC HR111.out); rintro e w' ⟨rfl, ⟨nd, rfl⟩⟩; refine ⟨_, rfl, ?_⟩))
    go_ret2
    exact ⟨_, dE, by first | exact Kd.R_nil _ _ _ _ _ | exact Kd.N_nil _ _ _ _ _ | exact Kd.V_nil _ _ _ _ _ | exact Kd.Q_nil _ _ _ _ _ | exact Kd.S_nil _ _ _ _ _, dB⟩
   ·rw [if_neg c11] at H
    have c11b0 : decide ((wrap64 (262144 - t112)) < a1) = false := decide_eq_false c11
    clear c11
    obtain ⟨ji13, hji13⟩ : ∃ j_ : Int, (wrap64 ((wrap64 ((wrap64 (Int.tdiv a1 64)) + (z110.length : Int))) + 1)) = j_ := ⟨_, rfl⟩
    first | rw [hji13] at H | simp only [hji13] at H
    (try rw [hji13] at A3)
    (try rw [hji13] at A10)
    have hji13w : (IntKind.i64.wrap ((wrap64 ((wrap64 (Int.tdiv a1 64)) + (z110.length : Int))) + 1)) = ji13 := (i64_w _).trans hji13
    replace H := nO H
    obtain ⟨c14, H⟩ := H
    have c14b0 := eq_true c14
    have c14b1 : decide (0 ≤ (ji13)) = true := decide_eq_true c14
    clear c14
    replace H := nO H
    obtain ⟨c15, H⟩ := H
    obtain ⟨c15, cq0, cq1⟩ := c15
    have c15b0 := eq_true c15
    have c15b1 : decide ((ji13 : Int).toNat ≤ 35184372088832) = true := decide_eq_true c15
    clear c15
    obtain ⟨yq, hyq⟩ : ∃ y_ : List Int, y_ = (List.replicate (ji13 : Int).toNat 0) := ⟨_, rfl⟩
    have ylq : yq.length = (ji13 : Int).toNat := by rw [hyq, List.length_replicate]
    rw [← hyq] at H
    have Nyq := aM hyq
    clear hyq
    obtain ⟨y113, hy113⟩ : ∃ y_ : List Int, y_ = (cpyAt yq z110 (wrap64 (Int.tdiv a1 64)).toNat) := ⟨_, rfl⟩
    have yl113 : yq.length = y113.length := by rw [hy113, cpyAt_length (by omega)]
    have cq2 : (wrap64 (Int.tdiv a1 64)) ≤ (y113.length : Int) := by omega
    have Cq := aM (And.intro cq0 (And.intro cq2 (And.intro yl113 hy113)))
    clear cq0 cq1 cq2 ylq yl113
    replace H : (if (Int.tmod a1 64) > 0 then (nat_Shl.l0 k a1 y113 (Int.tmod a1 64) (wrap64 ((y113.length : Int) - 1))) else ((nat_bound.f k y113).bind fun bt127 => (some (bt127.1, bt127.2)))) = some (r1, r2) := by first | (rw [hy113]; with_reducible exact H) | (have H2_ := (Option.bind_some _ _).symm.trans H; rw [hy113]; with_reducible exact H2_) | (have H2_ := (Option.bind_some _ _).symm.trans H; with_reducible exact H2_) | with_reducible exact H | (rw [hy113]; exact H) | exact H
    have Ny113 := aM hy113
    clear hy113
    by_cases c16 : (Int.tmod a1 64) > 0
    ·rw [if_pos c16] at H
     have c16b0 : decide (0 < (Int.tmod a1 64)) = true := decide_eq_true c16
     clear c16
     have H' := aM H
     clear H
     go_enter Tryd.func35, Tryd.ntmps35
     go_wp2_with (first | ((with_reducible refine gate_callee (f := 24) rfl ?_); refine gL (some 11) Tryd.func24 #[.slice A0 l0.length c0] ?_; (with_reducible refine (nat_size.calls k _ _ l0 t110 _ ?side1 HC0.out A3.out).mono ?_); (case side1 => exact dC HR0.out); rintro e w' ⟨rfl, ⟨nd, rfl⟩⟩; refine ⟨_, rfl, ?_⟩; obtain ⟨i017, hi017, _, hsz17, _⟩ := info_parts info36; obtain ⟨hcut17, hA17, hC17⟩ := print_take_of (P := Tryd.prog) (Value.int .u64) 0 22 36 .i64 Tryd.underlying22 hi017 hsz17 A0 c0 l0 t110 (of_decide_eq_true dS) (of_decide_eq_true dS) HC0.out; rw [Nz110.out] at hcut17 hA17 hC17; have HR111 := aM (Kd.C_of_reads (h1 := fun _ => rfl) (hA17 _ (Kd.reads_of_C HR0.out))); have HC111 := aM hC17; clear hA17 hC17 hi017 hsz17) | ((with_reducible refine gate_callee (f := 25) rfl ?_); refine goesL_ (some 23) rfl rfl Tryd.func25 (by kernel_rfl) rfl #[.slice A0 z110.length c0] rfl (by (try simp only [List.map_toArray, List.map_cons, List.map_nil]); first | done | (rw [show z110.length = t110.toNat from (by rw [← Nz110.out, List.length_take]; have h_ : (t110 : Int) ≤ (l0.length : Int) := of_decide_eq_true dS; omega)] <;> rfl) | rfl | (simp only [List.length_drop, List.length_take]; rfl)) ?_; (with_reducible refine (nat_Bits.calls k _ _ z110 t112 _ ?side1 HC111.out A10.out).mono ?_); (case side1 => exact dC HR111.out); rintro e w' ⟨rfl, ⟨nd, rfl⟩⟩; refine ⟨_, rfl, ?_⟩) | ((with_reducible refine gate_dst (N := 32) rfl ?_); refine Kd.R_make (Kd.int .u64) _ 36 rfl (N := 32) rfl 22 _ _ rfl ji13 rfl rfl Tryd.underlying22 (.int .u64 0) 8 info36 rfl (by decide) (by omega) 0 (ok := fun _ => True) (okp := fun _ => True) rfl (fun _ hk => hk) trivial (of_decide_eq_true dS) (Nat.le_trans (Nat.mul_le_mul_right _ (of_decide_eq_true dS : ji13.toNat ≤ 35184372088832)) (by omega)) (Below.refl _ _) (Nat.le_refl _) ?_; intro v114 w18 ho19 hb hg_ hnew_; clear hg_ hnew_; rw [← Nyq.out] at ho19; have HO115 := aM (Kd.R_lower ho19 (below_size dB)); replace HB := hS HB.out hb; clear hb ho19; obtain ⟨Ao20, co20, eo20⟩ := Kd.R_slice HO115.out; rw [Cq.out.2.2.1] at eo20; subst eo20; obtain ⟨i0q, hi0q, _, hszq, _⟩ := info_parts info36; have hcutq := cut_from (P := Tryd.prog) 22 36 .i64 Tryd.underlying22 hi0q 1 hszq Ao20 y113.length co20 (wrap64 (Int.tdiv a1 64)) Cq.out.1 Cq.out.2.1; clear hi0q hszq; obtain ⟨Aq, hAq⟩ : ∃ A_ : Option Addr, A_ = (if co20 = (wrap64 (Int.tdiv a1 64)).toNat then Ao20 else Ao20.map (·.add ((wrap64 (Int.tdiv a1 64)).toNat * 1))) := ⟨_, rfl⟩; rw [← hAq] at hcutq; have NAq := aM hAq; clear hAq) | ((with_reducible refine gate_dst (N := 38) rfl ?_); refine Kd.R_copy_at (enc := Value.int .u64) (h1 := fun _ => rfl) (0 : Int) w.heap.size rfl (.tmp 36) (.tmp 37) 22 22 36 rfl Tryd.underlying22 (by kernel_rfl) Ao20 co20 (wrap64 (Int.tdiv a1 64)).toNat y113.length yq z110 Cq.out.2.2.1 A0 z110.length c0 (fun _ => True) Aq NAq.out rfl rfl (by have := Cq.out.2.1; have := Cq.out.1; omega) HO115.out ?hcr HB.out HB.out.size ?_; (case hcr => exact Kd.C_below HR111.out HB.out); intro wq hoq hbq _; rw [shl_copied Cq.out.2.2.1 Cq.out.2.2.2] at hoq; clear HO115; have HO115 := aM hoq; clear HB; have HB := aM hbq; clear hoq hbq hcutq))
     go_loopg [8] k (fun kq v8 w' => ∃ (x6_1 : List Int) (x8_1 : Int), v8 = .int .i64 x8_1 ∧ Aside0 (nat_Shl.l0 kq a1 x6_1 (Int.tmod a1 64) x8_1 = some (r1, r2)) ∧ Aside0 (kq ≤ k) ∧ Aside0 (Kd.R (Kd.int .u64) 36 w' w.heap.size (fun _ => True) (.slice Ao20 y113.length co20) x6_1) ∧ Aside0 (Below w.heap.size w w'))
     case atStart => exact ⟨(y113), (wrap64 ((y113.length : Int) - 1)), dF, H', ⟨Nat.le_refl _⟩, ⟨dR HO115.out⟩, ⟨dB⟩⟩
     case round =>
      clear H'
      try clear c4
      try clear c4b0 c4b1
      try clear c5
      try clear c5b0 c5b1
      try clear c6
      try clear c6b0
      try clear c8
      try clear c8b0 c8b1
      try clear c8b2
      try clear c11
      try clear c11b0
      try clear c14
      try clear c14b0 c14b1
      try clear c15
      try clear Cq
      try clear Nyq
      try clear Ny113
      try clear c15b0 c15b1
      try clear c16
      try clear c16b0
      obtain ⟨x6_1, x8_1, rfl, HA, HK1, HO_6, HB⟩ := hrel
      have hl6_1 := (Kd.R_reads' HO_6.out).1
      rw [hl6_1] at HO_6
      (try simp only [hl6_1])
      cases gk with
      | zero => exact absurd HA.out (by simp [nat_Shl.l0])
      | succ k1 =>
       have H := HA.out
       clear HA
       simp only [nat_Shl.l0] at H
       by_cases c21 : x8_1 > (wrap64 (Int.tdiv a1 64))
       ·rw [if_pos c21] at H
        have c21b0 : decide ((wrap64 (Int.tdiv a1 64)) < x8_1) = true := decide_eq_true c21
        clear c21
        replace H := nO H
        obtain ⟨c22, H⟩ := H
        have c22b0 : decide (0 ≤ x8_1) = true := decide_eq_true c22
        clear c22
        replace H := nO H
        obtain ⟨c23, H⟩ := H
        have c23b0 := decide_eq_true c23
        clear c23
        obtain ⟨ji24, hji24⟩ : ∃ j_ : Int, (wrap64 (x8_1 - 1)) = j_ := ⟨_, rfl⟩
        first | rw [hji24] at H | simp only [hji24] at H
        have hji24w : (IntKind.i64.wrap (x8_1 - 1)) = ji24 := (i64_w _).trans hji24
        replace H := nO H
        obtain ⟨c25, H⟩ := H
        have c25b0 : decide (0 ≤ (ji24)) = true := decide_eq_true c25
        clear c25
        replace H := nO H
        obtain ⟨c26, H⟩ := H
        have c26b0 := decide_eq_true c26
        clear c26
        replace H := oA H
        obtain ⟨⟨t118, t119⟩, A27, H⟩ := H
        (try dsimp only at H)
        obtain ⟨y120, hy120⟩ : ∃ y_ : List Int, y_ = (x6_1.set (x8_1 : Int).toNat t118) := ⟨_, rfl⟩
        replace H : (nat_Shl.l0 k1 a1 y120 (Int.tmod a1 64) ji24) = some (r1, r2) := by first | (rw [hy120]; with_reducible exact H) | (have H2_ := (Option.bind_some _ _).symm.trans H; rw [hy120]; with_reducible exact H2_) | (have H2_ := (Option.bind_some _ _).symm.trans H; with_reducible exact H2_) | with_reducible exact H | (rw [hy120]; exact H) | exact H
        have Ny120 := aM hy120
        clear hy120
        have H' := aM H
        clear H
        try go_wp2
        replace HO_6 := aM (Kd.R_drew HO_6.out)
        replace HB := aM (below_drew1 HB.out)
        have p116 : 0 ≤ (x8_1 : Int) := of_decide_eq_true dS
        have q116 : x8_1 < (x6_1.length : Int) := of_decide_eq_true dS
        obtain ⟨ad116, e116, hx116_0⟩ := Kd.at_int (Kd.R_reads' HO_6.out).2.2 x8_1 p116 q116
        cases e116
        replace p116 := eq_true p116
        replace q116 := eq_true q116
        have p117 : 0 ≤ ((ji24) : Int) := of_decide_eq_true dS
        have q117 : (ji24) < (x6_1.length : Int) := of_decide_eq_true dS
        obtain ⟨ad117, e117, hx117_0⟩ := Kd.at_int (Kd.R_reads' HO_6.out).2.2 (ji24) p117 q117
        obtain rfl : ad116 = ad117 := (by injection e117)
        replace p117 := eq_true p117
        replace q117 := eq_true q117
        refine start_ (n := 18) (S := fun w' => w'.cell? (ad116.add (x8_1).toNat) = some (.int .u64 (rd x6_1 x8_1)) ∧ w'.cell? (ad116.add ((ji24)).toNat) = some (.int .u64 (rd x6_1 (ji24)))) (ds := [17]) #[false, false, false, false, false, false, false, false, false, false, false, false, false, false, false, false, false, false] (by kernel_rfl) rfl rfl ⟨hx116_0, hx117_0⟩ (fun hHeld => ?_); refine with_tabW nat_Shl.tab15 nat_Shl.bits15 (fun HT_ HW_ => ?_)
        generalize wr.drew = w29 at HO_6 HB hx116_0 hx117_0 hHeld ⊢
        refine pP 0 (some 53) ?_
        refine pP 1 (some 54) ?_
        refine pP 2 (some 55) ?_
        refine pP 3 (some 56) ?_
        refine pP 4 (some 57) ?_
        refine pP 6 (some 59) ?_
        refine pP 7 (some 60) ?_
        refine pP 8 (some 61) ?_
        refine pP 9 (some 62) ?_
        refine pP 11 (some 64) ?_
        refine pH2 5 (some 58) hHeld ?_
        refine pH2 10 (some 63) hHeld ?_
        refine one_ (i := 12) (N := some 65) #[true, true, true, true, true, true, true, true, true, true, true, true, true, false, false, false, false, false] rfl rfl (one_of HT_.out (by kernel_rfl)) (by decide) (fun K hK => ?_)
        refine goes_ Tryd.func40 (by kernel_rfl) rfl #[.int .u64 (rd x6_1 x8_1), .int .u64 (rd x6_1 (ji24)), .int .i64 (Int.tmod a1 64)] (by rfl) rfl rfl (by (try simp only [List.map_toArray, List.map_cons, List.map_nil]); first | done | (simp only [hji24]; rfl) | rfl | (simp only [List.length_drop, List.length_take]; rfl)) ?_
        with_reducible refine (wide_Shl.calls (rd x6_1 x8_1) (rd x6_1 (ji24)) (Int.tmod a1 64) t118 t119 _ A27.out).mono ?_
        rintro e w30 ⟨rfl, hb⟩
        have HS0_ := (hb.cell (World.block_lt_of_cell? _ _ (hHeld.1))).trans (hHeld.1)
        have HS1_ := (hb.cell (World.block_lt_of_cell? _ _ (hHeld.2))).trans (hHeld.2)
        refine ⟨_, rfl, ?_⟩
        replace HO_6 := oB HO_6.out hb
        replace HB := hS HB.out hb
        (try clear hb)
        (try clear hb2)
        (try clear hk)
        (try clear hi)
        have p28 : 0 ≤ (x8_1 : Int) := of_decide_eq_true dS
        have q28 : (x8_1 : Int) < ((x6_1.length : Int) : Int) := of_decide_eq_true dS
        obtain ⟨go28, co28, eo28, gb28, gl28, cl28, HG28⟩ := Kd.R_form HO_6.out (by omega)
        (first | cases eo28 | (injection eo28 with ea_ en_ ec_; (first | subst ea_ | (injection ea_ with ea_; subst ea_)); subst ec_; clear en_))
        have GB28 := aM gb28
        have GG28 := aM HG28
        clear gb28 gl28 HG28
        (first | simp only [add_plain] at hx116_0 | skip)
        (first | simp only [add_plain] at hx117_0 | skip)
        obtain ⟨hx28_0, hf28_0⟩ := Kd.R_celln 0 HO_6.out (x8_1 : Int) p28 q28
        replace p28 := eq_true p28
        replace q28 := eq_true q28
        have HP31 := Kd.R_putn HO_6.out (x8_1 : Int) t118
        rw [← Ny120.out] at HP31
        have HQ31 := aM HP31
        clear HP31
        refine hK.out _ _ ⟨HS0_, HS1_⟩ (fun hHeld => ?_)
        clear hK K
        refine norm_ (a' := ?_) ?_ ?_
        rotate_left
        ·show Act.put _ (some 65) _ = _
         simp only [Act.put, List.setIfInBounds_toArray, List.set_cons_zero, List.set_cons_succ, i64_w, i32_w]
         rfl
        refine pP 13 (some 52) ?_
        refine pP 14 (some 66) ?_
        refine pP 15 (some 67) ?_
        refine pP 16 (some 68) ?_
        refine last_ (i := 17) (N := none) #[true, true, true, true, true, true, true, true, true, true, true, true, true, true, true, true, true, true] rfl rfl (one_of HT_.out (by kernel_rfl)) (by decide) (fun K hK => ?_)
        refine skip_ (w1 := ?_) (by rfl) rfl ?_ ?_
        rotate_left
        ·go_simp
         rfl
        refine hK.out _ _ ?_
        clear hK K
        refine done_ (done_of HT_.out (by kernel_rfl)) ?_
        try go_wp2
        (try simp only [← hl6_1])
        go_roundg k1
        case measure => have := HK1.out; omega
        case rel => exact ⟨(y120), (ji24), (by first | rfl | (simp; done) | (simp only [← hji24] <;> (first | rfl | simp)) | (simp [*]; done)), H', ⟨by have := HK1.out; omega⟩, ⟨by (try simp only [hl6_1]); (with_reducible repeat (first | apply Kd.R_alloc | apply Kd.R_drewN | apply Kd.R_drew)); exact HQ31.out⟩, ⟨by repeat (first | (with_reducible first | exact HB.out | apply below_alloc | apply pw_below_drewN | apply below_drew1 | refine below_set ?_ GB28.out) | exact HB.out)⟩⟩
       ·rw [if_neg c21] at H
        have c21b0 : decide ((wrap64 (Int.tdiv a1 64)) < x8_1) = false := decide_eq_false c21
        clear c21
        obtain ⟨ji32, hji32⟩ : ∃ j_ : Int, (wrap64 (Int.tdiv a1 64)) = j_ := ⟨_, rfl⟩
        first | rw [hji32] at H | simp only [hji32] at H
        (try rw [hji32] at c21b0)
        have hji32w : (IntKind.i64.wrap (Int.tdiv a1 64)) = ji32 := (i64_w _).trans hji32
        replace H := nO H
        obtain ⟨c33, H⟩ := H
        have c33b0 : decide (0 ≤ (ji32)) = true := decide_eq_true c33
        clear c33
        replace H := nO H
        obtain ⟨c34, H⟩ := H
        have c34b0 := decide_eq_true c34
        clear c34
        obtain ⟨ji35, hji35⟩ : ∃ j_ : Int, (Int.tmod a1 64) = j_ := ⟨_, rfl⟩
        first | rw [hji35] at H | simp only [hji35] at H
        (try rw [hji35] at c16b0)
        replace H := nO H
        obtain ⟨c36, H⟩ := H
        have c36b0 := eq_true c36
        have c36b1 : decide (0 ≤ (ji35)) = true := decide_eq_true c36
        clear c36
        obtain ⟨ji37, hji37⟩ : ∃ j_ : Int, (shl .u64 (rd x6_1 (ji32)) (ji35)) = j_ := ⟨_, rfl⟩
        first | rw [hji37] at H | simp only [hji37] at H
        have hji37_ : (IntKind.u64.wrap ((rd x6_1 (ji32)) * 2 ^ min (ji35).toNat 64)) = ji37 := hji37
        have hji37z : (ji35) ≤ 64 → (IntKind.u64.wrap ((rd x6_1 (ji32)) * 2 ^ (ji35).toNat)) = ji37 := shl_small hji37
        obtain ⟨y122, hy122⟩ : ∃ y_ : List Int, y_ = (x6_1.set ((ji32) : Int).toNat (ji37)) := ⟨_, rfl⟩
        replace H : ((nat_bound.f k1 y122).bind fun bt123 => (some (bt123.1, bt123.2))) = some (r1, r2) := by first | (rw [hy122]; with_reducible exact H) | (have H2_ := (Option.bind_some _ _).symm.trans H; rw [hy122]; with_reducible exact H2_) | (have H2_ := (Option.bind_some _ _).symm.trans H; with_reducible exact H2_) | with_reducible exact H | (rw [hy122]; exact H) | exact H
        have Ny122 := aM hy122
        clear hy122
        replace H := oA H
        obtain ⟨⟨t123, t126⟩, A39, H⟩ := H
        (try dsimp only at H)
        simp only [Option.some.injEq, Prod.mk.injEq] at H
        obtain ⟨rfl, rfl⟩ := H
        have p121 : 0 ≤ ((ji32) : Int) := of_decide_eq_true dS
        have q121 : (ji32) < (x6_1.length : Int) := of_decide_eq_true dS
        obtain ⟨ad121, e121, hx121_0⟩ := Kd.at_int (Kd.R_reads' HO_6.out).2.2 (ji32) p121 q121
        cases e121
        replace p121 := eq_true p121
        replace q121 := eq_true q121
        have p38 : 0 ≤ ((ji32) : Int) := of_decide_eq_true dS
        have q38 : ((ji32) : Int) < ((x6_1.length : Int) : Int) := of_decide_eq_true dS
        obtain ⟨go38, co38, eo38, gb38, gl38, cl38, HG38⟩ := Kd.R_form HO_6.out (by omega)
        (first | cases eo38 | (injection eo38 with ea_ en_ ec_; (first | subst ea_ | (injection ea_ with ea_; subst ea_)); subst ec_; clear en_))
        have GB38 := aM gb38
        have GG38 := aM HG38
        clear gb38 gl38 HG38
        (first | simp only [add_plain] at hx121_0 | skip)
        obtain ⟨hx38_0, hf38_0⟩ := Kd.R_celln 0 HO_6.out ((ji32) : Int) p38 q38
        replace p38 := eq_true p38
        replace q38 := eq_true q38
        have HP40 := Kd.R_putg HO_6.out ((ji32) : Int) ji37
        go_wp2_with (first | ((with_reducible refine gate_store (t := 36) (p := 76) rfl ?_); refine store_event (t := 36) (p := 76) (v := ?vo_w41) (w1 := (wr.setCell ⟨go38, ((ji32) : Int).toNat, none⟩ (.int .u64 ji37))) ?hg ?ho ?hn ?hr ?_; (case ho => rfl); (case hg => rfl); (case hn => rfl); (case hr => first | (go_simp; done) | (go_simp; rfl)); intro w41 hw; have hg : wr.grownBy w41 (some go38) := (by rw [hw]; exact HP40.2); have hp_ : Kd.R (Kd.int .u64) 36 w41 w.heap.size (fun _ => True) (.slice (some ⟨go38, 0, none⟩) x6_1.length co20) y122 := (by rw [hw, Ny122.out]; exact HP40.1); clear HP40; replace HO_6 := aM (hp_); replace HB := aM ((by rw [hw]; exact below_set (HB.out) GB38.out : Below w.heap.size w w41)); clear hg hw hp_) | ((with_reducible refine gate_callee (f := 28) rfl ?_); refine gL (some 78) Tryd.func28 #[.slice (some ⟨go38, 0, none⟩) x6_1.length co20] ?_; (with_reducible refine (nat_bound.calls k1 (fun k_ => some k_ = (.slice (some ⟨go38, 0, none⟩) x6_1.length co20 : Value).ownBlock) (.slice (some ⟨go38, 0, none⟩) x6_1.length co20) y122 t123 t126 w _ ?side1 ?side2 A39.out).mono ?_); (case side1 => repeat (first | (with_reducible first | exact HB.out | apply below_alloc | apply pw_below_drewN | apply below_drew1) | exact HB.out)); (case side2 => exact Kd.R_tight rfl HO_6.out); rintro e w42 ⟨v124, rfl, ho0, hb, hkp⟩; refine ⟨_, rfl, ?_⟩; have HO125 := aM (Kd.R_mono (ok' := fun k_ => True) ho0 (fun k_ hk_ => trivial)); replace HB := aM (hb); clear HO_6; (try clear hb); (try clear hkp); (try clear ho0)))
        go_ret2
        exact ⟨_, by first | rfl | (simp [errW_none, errW_some] <;> rfl) | (simp only [← hji13, ← hji32, ← hji35, ← hji37]; first | rfl | (simp [errW_none, errW_some] <;> rfl)) | (simp [*, errW_none, errW_some] <;> rfl), dR HO125.out, dB⟩
    ·rw [if_neg c16] at H
     have c16b0 : decide (0 < (Int.tmod a1 64)) = false := decide_eq_false c16
     clear c16
     replace H := oA H
     obtain ⟨⟨t127, t130⟩, A43, H⟩ := H
     (try dsimp only at H)
     simp only [Option.some.injEq, Prod.mk.injEq] at H
     obtain ⟨rfl, rfl⟩ := H
     go_enter Tryd.func35, Tryd.ntmps35
     go_wp2_with (first | ((with_reducible refine gate_callee (f := 24) rfl ?_); refine gL (some 11) Tryd.func24 #[.slice A0 l0.length c0] ?_; (with_reducible refine (nat_size.calls k _ _ l0 t110 _ ?side1 HC0.out A3.out).mono ?_); (case side1 => exact dC HR0.out); rintro e w' ⟨rfl, ⟨nd, rfl⟩⟩; refine ⟨_, rfl, ?_⟩; obtain ⟨i044, hi044, _, hsz44, _⟩ := info_parts info36; obtain ⟨hcut44, hA44, hC44⟩ := print_take_of (P := Tryd.prog) (Value.int .u64) 0 22 36 .i64 Tryd.underlying22 hi044 hsz44 A0 c0 l0 t110 (of_decide_eq_true dS) (of_decide_eq_true dS) HC0.out; rw [Nz110.out] at hcut44 hA44 hC44; have HR111 := aM (Kd.C_of_reads (h1 := fun _ => rfl) (hA44 _ (Kd.reads_of_C HR0.out))); have HC111 := aM hC44; clear hA44 hC44 hi044 hsz44) | ((with_reducible refine gate_callee (f := 25) rfl ?_); refine goesL_ (some 23) rfl rfl Tryd.func25 (by kernel_rfl) rfl #[.slice A0 z110.length c0] rfl (by (try simp only [List.map_toArray, List.map_cons, List.map_nil]); first | done | (rw [show z110.length = t110.toNat from (by rw [← Nz110.out, List.length_take]; have h_ : (t110 : Int) ≤ (l0.length : Int) := of_decide_eq_true dS; omega)] <;> rfl) | rfl | (simp only [List.length_drop, List.length_take]; rfl)) ?_; (with_reducible refine (nat_Bits.calls k _ _ z110 t112 _ ?side1 HC111.out A10.out).mono ?_); (case side1 => exact dC HR111.out); rintro e w' ⟨rfl, ⟨nd, rfl⟩⟩; refine ⟨_, rfl, ?_⟩) | ((with_reducible refine gate_dst (N := 32) rfl ?_); refine Kd.R_make (Kd.int .u64) _ 36 rfl (N := 32) rfl 22 _ _ rfl ji13 rfl rfl Tryd.underlying22 (.int .u64 0) 8 info36 rfl (by decide) (by omega) 0 (ok := fun _ => True) (okp := fun _ => True) rfl (fun _ hk => hk) trivial (of_decide_eq_true dS) (Nat.le_trans (Nat.mul_le_mul_right _ (of_decide_eq_true dS : ji13.toNat ≤ 35184372088832)) (by omega)) (Below.refl _ _) (Nat.le_refl _) ?_; intro v114 w45 ho46 hb hg_ hnew_; clear hg_ hnew_; rw [← Nyq.out] at ho46; have HO115 := aM (Kd.R_lower ho46 (below_size dB)); replace HB := hS HB.out hb; clear hb ho46; obtain ⟨Ao47, co47, eo47⟩ := Kd.R_slice HO115.out; rw [Cq.out.2.2.1] at eo47; subst eo47; obtain ⟨i0q, hi0q, _, hszq, _⟩ := info_parts info36; have hcutq := cut_from (P := Tryd.prog) 22 36 .i64 Tryd.underlying22 hi0q 1 hszq Ao47 y113.length co47 (wrap64 (Int.tdiv a1 64)) Cq.out.1 Cq.out.2.1; clear hi0q hszq; obtain ⟨Aq, hAq⟩ : ∃ A_ : Option Addr, A_ = (if co47 = (wrap64 (Int.tdiv a1 64)).toNat then Ao47 else Ao47.map (·.add ((wrap64 (Int.tdiv a1 64)).toNat * 1))) := ⟨_, rfl⟩; rw [← hAq] at hcutq; have NAq := aM hAq; clear hAq) | ((with_reducible refine gate_dst (N := 38) rfl ?_); refine Kd.R_copy_at (enc := Value.int .u64) (h1 := fun _ => rfl) (0 : Int) w.heap.size rfl (.tmp 36) (.tmp 37) 22 22 36 rfl Tryd.underlying22 (by kernel_rfl) Ao47 co47 (wrap64 (Int.tdiv a1 64)).toNat y113.length yq z110 Cq.out.2.2.1 A0 z110.length c0 (fun _ => True) Aq NAq.out rfl rfl (by have := Cq.out.2.1; have := Cq.out.1; omega) HO115.out ?hcr HB.out HB.out.size ?_; (case hcr => exact Kd.C_below HR111.out HB.out); intro wq hoq hbq _; rw [shl_copied Cq.out.2.2.1 Cq.out.2.2.2] at hoq; clear HO115; have HO115 := aM hoq; clear HB; have HB := aM hbq; clear hoq hbq hcutq) | ((with_reducible refine gate_callee (f := 28) rfl ?_); refine gL (some 78) Tryd.func28 #[.slice Ao47 y113.length co47] ?_; (with_reducible refine (nat_bound.calls k (fun k_ => some k_ = (.slice Ao47 y113.length co47 : Value).ownBlock) (.slice Ao47 y113.length co47) y113 t127 t130 w _ ?side1 ?side2 A43.out).mono ?_); (case side1 => repeat (first | (with_reducible first | exact HB.out | apply below_alloc | apply pw_below_drewN | apply below_drew1) | exact HB.out)); (case side2 => exact Kd.R_tight rfl HO115.out); rintro e w48 ⟨v128, rfl, ho0, hb, hkp⟩; refine ⟨_, rfl, ?_⟩; have HO129 := aM (Kd.R_mono (ok' := fun k_ => True) ho0 (fun k_ hk_ => trivial)); replace HB := aM (hb); clear HO115; (try clear hb); (try clear hkp); (try clear ho0)))
     go_ret2
     exact ⟨_, by first | rfl | (simp [errW_none, errW_some] <;> rfl) | (simp only [← hji13]; first | rfl | (simp [errW_none, errW_some] <;> rfl)) | (simp [*, errW_none, errW_some] <;> rfl), dR HO129.out, dB⟩
end Go.Proofs.YtjknfppbebfhnaaDoor.PA
