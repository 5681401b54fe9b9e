/- A part of the proof (5). -/
import Derived.Test.YtoefabmlkbhmpaaDoorYKMVKM2
import Derived.Test.YtoefabmlkbhmpaaDoorYKMVKM3
import Derived.Test.YtoefabmlkbhmpaaDoorYKMVKM4
namespace Go.Proofs.YtoefabmlkbhmpaaDoor.PA
open Go.RowKit Go.Proofs.YtoefabmlkbhmpaaDoorW.PrintWords Go.Proofs.YtoefabmlkbhmpaaDoorW.PrintLast Go.Proofs.YtoefabmlkbhmpaaDoorW.PrintMore
attribute [local go_sem] max2_int min2_int max_two min_two max_three min_three max_four min_four
set_option linter.unusedVariables false
set_option linter.unusedSimpArgs false
set_option maxHeartbeats 8000000 in
set_option maxRecDepth 100000 in
theorem quot_give.callsP (U_ : Value) (Us_ : List Int) (j_ : Nat) (k : Nat) (P0_ : Nat → Prop) (u9000_ : Value) (l0 : List Int) (A1 : Option Addr) (c1 : Nat) (l1 : List Int) (r : List Int) (w0 w : World) (hB : Below w0.heap.size w0 w) (ho0 : Pc .u64 U_ Us_ j_ 26 w w0.heap.size P0_ u9000_ l0) (hr1 : ∀ W_, Kept w W_ (fun k_ => P0_ k_) → Kd.C (Kd.int .u64) W_ A1 l1.length l1) (hc1 : l1.length ≤ c1) (h : quot_give.f k l0 l1 = some r) :
  Calls Tryd.prog 117 #[u9000_, .slice A1 l1.length c1] w fun e w' => e = .returned (.tuple #[]) ∧ Pc .u64 U_ Us_ j_ 26 w' w0.heap.size (fun k_ => (P0_ k_ ∨ w.heap.size ≤ k_)) u9000_ r ∧ Below w0.heap.size w0 w' ∧ Kept w w' (fun k_ => P0_ k_) := by
 have HO0 := aM (show Pc .u64 U_ Us_ j_ 26 w w0.heap.size (fun k_ => (P0_ k_ ∨ w.heap.size ≤ k_)) u9000_ l0 from Pc_mono ho0 (fun k_ hk => (.inl hk)))
 have HR1 := aM hr1
 have HC1 := aM hc1
 clear hr1 hc1
 have HK := aM (Kept.refl w (fun k_ => P0_ k_))
 have HW0 := aM hB.size
 have HB := aM hB
 clear hB
 have H := h
 clear h
 unfold quot_give.f at H
 have H' := aM H
 clear H
 go_enter Tryd.func117, Tryd.ntmps117
 go_wp2
 go_loopg [4, 9] k (fun kq v4 v9 w' => ∃ (x0_1 : List Int) (x4_1 : Int) (x9_1 : Int), v4 = .int .u64 x4_1 ∧ v9 = .int .i64 x9_1 ∧ Aside0 (quot_give.l0 kq x0_1 l1 x4_1 l1 (l1.length : Int) x9_1 = some r) ∧ Aside0 (kq ≤ k) ∧ Aside0 (Pc .u64 U_ Us_ j_ 26 w' w0.heap.size (fun k_ => (P0_ k_ ∨ w.heap.size ≤ k_)) u9000_ x0_1) ∧ Aside0 (Kept w w' (fun k_ => P0_ k_)) ∧ Aside0 (Below w0.heap.size w0 w'))
 case atStart => exact ⟨(l0), (0), (0), dF, dF, H', ⟨Nat.le_refl _⟩, ⟨by (with_reducible repeat (first | apply Pc_alloc | apply Pc_drewN | apply Pc_drew)); exact HO0.out⟩, ⟨by repeat (first | (with_reducible first | exact HK.out | apply Kept.alloc | apply Kept.drewN | apply Kept.drew) | exact HK.out)⟩, ⟨dB⟩⟩
 case round =>
  clear H'
  try clear c1
  obtain ⟨x0_1, x4_1, x9_1, rfl, rfl, HA, HK1, HO_0, HK, HB⟩ := hrel
  cases gk with
  | zero => exact absurd HA.out (by simp [quot_give.l0])
  | succ k1 =>
   have H := HA.out
   clear HA
   simp only [quot_give.l0] at H
   by_cases c3 : x9_1 < (l1.length : Int)
   ·rw [if_pos c3] at H
    have c3b0 := decide_eq_true c3
    clear c3
    replace H := nO H
    obtain ⟨c4, H⟩ := H
    have c4b0 : decide (0 ≤ x9_1) = true := decide_eq_true c4
    clear c4
    replace H := nO H
    obtain ⟨c5, H⟩ := H
    have c5b0 := decide_eq_true c5
    clear c5
    replace H := nO H
    obtain ⟨c6, H⟩ := H
    have c6b0 := decide_eq_true c6
    clear c6
    replace H := oA H
    obtain ⟨⟨t223, t224⟩, A7, H⟩ := H
    (try dsimp only at H)
    obtain ⟨y225, hy225⟩ : ∃ y_ : List Int, y_ = (x0_1.set (x9_1 : Int).toNat t223) := ⟨_, rfl⟩
    replace H : (quot_give.l0 k1 y225 l1 t224 l1 (l1.length : Int) (wrap64 (x9_1 + 1))) = some r := by first | (rw [hy225]; with_reducible exact H) | (have H2_ := (Option.bind_some _ _).symm.trans H; rw [hy225]; with_reducible exact H2_) | (have H2_ := (Option.bind_some _ _).symm.trans H; with_reducible exact H2_) | with_reducible exact H | (rw [hy225]; exact H) | exact H
    have Ny225 := aM hy225
    clear hy225
    have H' := aM H
    clear H
    have p221 : 0 ≤ (x9_1 : Int) := of_decide_eq_true dS
    have q221 : x9_1 < (l1.length : Int) := of_decide_eq_true dS
    obtain ⟨ad221, e221, hx221_0⟩ := Kd.at_int (Kd.C_kept_now HR1.out HK.out) x9_1 p221 q221
    cases e221
    replace p221 := eq_true p221
    replace q221 := eq_true q221
    obtain ⟨Ao9, co9, eo9⟩ := Pc_slice HO_0.out
    subst eo9
    have p222 : 0 ≤ (x9_1 : Int) := of_decide_eq_true dS
    have q222 : x9_1 < (x0_1.length : Int) := of_decide_eq_true dS
    obtain ⟨ad222, e222, hx222_0⟩ := Kd.at_int (Pc_reads' HO_0.out).2.2 x9_1 p222 q222
    cases e222
    replace p222 := eq_true p222
    replace q222 := eq_true q222
    go_wp2_with (first | ((with_reducible refine gate_callee (f := 61) rfl ?_); refine gL (some 23) Tryd.func61 #[.int .u64 (rd x0_1 x9_1), .int .u64 (rd l1 x9_1), .int .u64 x4_1] ?_; (with_reducible refine (wide_Add.calls (rd x0_1 x9_1) (rd l1 x9_1) x4_1 t223 t224 _ A7.out).mono ?_); rintro e w' ⟨rfl, ⟨nd, rfl⟩⟩; refine ⟨_, rfl, ?_⟩; (try (rw [drewN_self wr]; generalize hq_ : World.drewN wr _ = wr; have n0_ : Aside0 (Pc .u64 U_ Us_ j_ 26 wr w0.heap.size (fun k_ => (P0_ k_ ∨ w.heap.size ≤ k_)) (.slice (some ad222) x0_1.length co9) x0_1) := ⟨by rw [← hq_]; exact (by (with_reducible repeat (first | apply Pc_alloc | apply Pc_drewN | apply Pc_drew)); exact HO_0.out)⟩; have n1_ : Aside0 (Kept w wr (fun k_ => P0_ k_)) := ⟨by rw [← hq_]; exact (by repeat (first | (with_reducible first | exact HK.out | apply Kept.alloc | apply Kept.drewN | apply Kept.drew) | exact HK.out))⟩; have n2_ : Aside0 (Below w0.heap.size w0 wr) := ⟨by rw [← hq_]; exact dB⟩; clear HO_0 HK HB hq_; have HO_0 := n0_; have HK := n1_; have HB := n2_; clear n0_ n1_ n2_)); have p8 : 0 ≤ (x9_1 : Int) := of_decide_eq_true dS; have q8 : (x9_1 : Int) < ((x0_1.length : Int) : Int) := of_decide_eq_true dS; obtain ⟨go8, co8, eo8, gb8, gl8, cl8, HG8⟩ := Pc_form HO_0.out (by omega); (first | cases eo8 | (injection eo8 with ea_ en_ ec_; (first | subst ea_ | (injection ea_ with ea_; subst ea_)); subst ec_; clear en_)); have GB8 := aM gb8; have GG8 := aM HG8; clear gb8 gl8 HG8; have HMgo8 := aM (show (P0_ go8 ∨ w.heap.size ≤ go8) from (HO_0.out.1 _ rfl)); (first | simp only [add_at] at hx222_0 | skip); obtain ⟨hx8_0, hf8_0⟩ := Pc_celln 0 HO_0.out (x9_1 : Int) p8 q8; (try simp only [Int.toNat_natCast] at hx8_0 hf8_0); replace p8 := eq_true p8; replace q8 := eq_true q8; obtain ⟨hy10_, hz10_⟩ := Pc_celln 0 HO_0.out (x9_1 : Int) (of_decide_eq_true dS) (of_decide_eq_true dS); (try simp only [Int.toNat_natCast] at hy10_ hz10_); have HP10 := Pc_putg HO_0.out (x9_1 : Int) (of_decide_eq_true dS) (of_decide_eq_true dS) t223; (try simp only [Int.toNat_natCast] at HP10)) | ((with_reducible refine gate_store (t := 26) (p := 26) rfl ?_); refine store_event (t := 26) (p := 26) (v := ?vo_w11) (w1 := (wr.setCell ⟨go8, j_ + (x9_1 : Int).toNat, none⟩ (.int .u64 t223))) ?hg ?ho ?hn ?hr ?_; (case ho => rfl); (case hg => rfl); (case hn => rfl); (case hr => first | (go_simp; done) | (go_simp; rfl)); intro w11 hw; have hg : wr.grownBy w11 (some go8) := (by rw [hw]; exact HP10.2); have hp_ : Pc .u64 U_ Us_ j_ 26 w11 w0.heap.size (fun k_ => (P0_ k_ ∨ w.heap.size ≤ k_)) (.slice (some ⟨go8, j_, none⟩) x0_1.length co9) y225 := (by rw [hw, Ny225.out]; exact HP10.1); clear HP10; replace HB := aM ((by rw [hw]; exact below_set (HB.out) GB8.out : Below w0.heap.size w0 w11)); replace HK := aM (Kept.of_grown (S := (fun k_ => P0_ k_)) hg (by repeat (first | (with_reducible first | exact HK.out | apply Kept.alloc | apply Kept.drewN | apply Kept.drew) | exact HK.out)) (fun k_ e_ => (HO_0.out.1 k_ e_))); replace HO_0 := aM (hp_); clear hg hw hp_))
    go_roundg k1
    case measure => have := HK1.out; omega
    case rel => exact ⟨(y225), (t224), (wrap64 (x9_1 + 1)), dF, dF, H', ⟨by have := HK1.out; omega⟩, ⟨by (with_reducible repeat (first | apply Pc_alloc | apply Pc_drewN | apply Pc_drew)); exact HO_0.out⟩, ⟨by repeat (first | (with_reducible first | exact HK.out | apply Kept.alloc | apply Kept.drewN | apply Kept.drew) | exact HK.out)⟩, ⟨dB⟩⟩
   ·rw [if_neg c3] at H
    have c3b0 := decide_eq_false c3
    clear c3
    replace H := nO H
    obtain ⟨c12, H⟩ := H
    have c12b0 : decide (0 ≤ (l1.length : Int)) = true := decide_eq_true c12
    have c12b1 : decide (0 ≤ l1.length) = true := decide_eq_true (by omega)
    clear c12
    replace H := nO H
    obtain ⟨c13, H⟩ := H
    have c13b0 := decide_eq_true c13
    have c13b1 : decide (l1.length < x0_1.length) = true := decide_eq_true (Int.ofNat_lt.mp c13)
    clear c13
    obtain ⟨y227, hy227⟩ : ∃ y_ : List Int, y_ = (x0_1.set ((l1.length : Int) : Int).toNat (IntKind.u64.wrap ((rd x0_1 (l1.length : Int)) + x4_1))) := ⟨_, rfl⟩
    replace H : (some y227) = some r := by first | (rw [hy227]; with_reducible exact H) | (have H2_ := (Option.bind_some _ _).symm.trans H; rw [hy227]; with_reducible exact H2_) | (have H2_ := (Option.bind_some _ _).symm.trans H; with_reducible exact H2_) | with_reducible exact H | (rw [hy227]; exact H) | exact H
    have Ny227 := aM hy227
    clear hy227
    obtain rfl := Option.some.inj H
    obtain ⟨Ao15, co15, eo15⟩ := Pc_slice HO_0.out
    subst eo15
    have p226 : 0 ≤ ((l1.length : Int) : Int) := of_decide_eq_true dS
    have q226 : (l1.length : Int) < (x0_1.length : Int) := of_decide_eq_true dS
    obtain ⟨ad226, e226, hx226_0⟩ := Kd.at_int (Pc_reads' HO_0.out).2.2 (l1.length : Int) p226 q226
    cases e226
    (try simp only [Go.IntWalk.toNatUp] at hx226_0)
    replace p226 := eq_true p226
    replace q226 := eq_true q226
    have p14 : 0 ≤ ((l1.length : Int) : Int) := of_decide_eq_true dS
    have q14 : ((l1.length : Int) : Int) < ((x0_1.length : Int) : Int) := of_decide_eq_true dS
    obtain ⟨go14, co14, eo14, gb14, gl14, cl14, HG14⟩ := Pc_form HO_0.out (by omega)
    (first | cases eo14 | (injection eo14 with ea_ en_ ec_; (first | subst ea_ | (injection ea_ with ea_; subst ea_)); subst ec_; clear en_))
    have GB14 := aM gb14
    have GG14 := aM HG14
    clear gb14 gl14 HG14
    have HMgo14 := aM (show (P0_ go14 ∨ w.heap.size ≤ go14) from (HO_0.out.1 _ rfl))
    (first | simp only [add_at] at hx226_0 | skip)
    obtain ⟨hx14_0, hf14_0⟩ := Pc_celln 0 HO_0.out ((l1.length : Int) : Int) p14 q14; (try simp only [Int.toNat_natCast] at hx14_0 hf14_0); (try simp only [Int.toNat_natCast] at hx14_0 hf14_0)
    replace p14 := eq_true p14
    replace q14 := eq_true q14
    have HP16 := Pc_putg HO_0.out ((l1.length : Int) : Int) (of_decide_eq_true dS) (of_decide_eq_true dS) (IntKind.u64.wrap ((rd x0_1 (l1.length : Int)) + x4_1)); (try simp only [Int.toNat_natCast] at HP16); (try simp only [Int.toNat_natCast] at HP16)
    go_wp2_with (first | ((with_reducible refine gate_store (t := 26) (p := 35) rfl ?_); refine store_event (t := 26) (p := 35) (v := ?vo_w17) (w1 := (wr.setCell ⟨go14, j_ + l1.length, none⟩ (.int .u64 (IntKind.u64.wrap ((rd x0_1 (l1.length : Int)) + x4_1))))) ?hg ?ho ?hn ?hr ?_; (case ho => rfl); (case hg => rfl); (case hn => rfl); (case hr => first | (go_simp; done) | (go_simp; rfl)); intro w17 hw; have hg : wr.grownBy w17 (some go14) := (by rw [hw]; exact HP16.2); have hp_ : Pc .u64 U_ Us_ j_ 26 w17 w0.heap.size (fun k_ => (P0_ k_ ∨ w.heap.size ≤ k_)) (.slice (some ⟨go14, j_, none⟩) x0_1.length co15) y227 := (by rw [hw, Ny227.out]; exact HP16.1); clear HP16; replace HB := aM ((by rw [hw]; exact below_set (HB.out) GB14.out : Below w0.heap.size w0 w17)); replace HK := aM (Kept.of_grown (S := (fun k_ => P0_ k_)) hg (by repeat (first | (with_reducible first | exact HK.out | apply Kept.alloc | apply Kept.drewN | apply Kept.drew) | exact HK.out)) (fun k_ e_ => (HO_0.out.1 k_ e_))); replace HO_0 := aM (hp_); clear hg hw hp_))
    first | go_end0 | ((try simp only [Exit.inBlock, Exit.then]); refine bodyPost_ret (results_none rfl _ _ _) rfl ?_)
    exact ⟨dE, by (with_reducible repeat (first | apply Pc_alloc | apply Pc_drewN | apply Pc_drew)); exact HO_0.out, dB, by repeat (first | (with_reducible first | exact HK.out | apply Kept.alloc | apply Kept.drewN | apply Kept.drew) | exact HK.out)⟩
def quot_giveAt.f (k : Nat) (u : List Int) (j n : Int) (v : List Int) : Option (List Int) :=
 if 0 ≤ j ∧ 0 ≤ n ∧ j + n + 1 ≤ (u.length : Int) then (quot_give.f k ((u.drop j.toNat).take (n.toNat + 1)) v).bind fun y => some (u.take j.toNat ++ y ++ u.drop (j.toNat + (n.toNat + 1))) else none
theorem quot_giveAt.mono : ∀ a0 a1 a2 a3 k, LeO (quot_giveAt.f k a0 a1 a2 a3) (quot_giveAt.f (k + 1) a0 a1 a2 a3) := by
 intro a0 a1 a2 a3 k
 unfold quot_giveAt.f
 exact LeO.ite (LeO.bind (quot_give.mono _ _ _) (fun _ => LeO.refl _)) (LeO.none _)
theorem quot_giveAt.calls (k : Nat) (P0_ : Nat → Prop) (g N c : Nat) (Us : List Int) (j n : Int) (A1 : Option Addr) (c1 : Nat) (l1 : List Int) (r : List Int) (w0 w : World) (hB : Below w0.heap.size w0 w) (ho0 : Kd.R (Kd.int .u64) 26 w w0.heap.size P0_ (.slice (some ⟨g, 0, none⟩) N c) Us) (hr1 : ∀ W_, Kept w W_ (fun k_ => P0_ k_) → Kd.C (Kd.int .u64) W_ A1 l1.length l1) (hc1 : l1.length ≤ c1) (h : quot_giveAt.f k Us j n l1 = some r) :
  Calls Tryd.prog 117 #[.slice (some ⟨g, j.toNat, none⟩) (n.toNat + 1) (c - j.toNat), .slice A1 l1.length c1] w fun e w' => e = .returned (.tuple #[]) ∧ Kd.R (Kd.int .u64) 26 w' w0.heap.size (fun k_ => (P0_ k_ ∨ w.heap.size ≤ k_)) (.slice (some ⟨g, 0, none⟩) N c) r ∧ Below w0.heap.size w0 w' ∧ Kept w w' (fun k_ => P0_ k_) ∧ r.length = Us.length := by
 unfold quot_giveAt.f at h
 split at h
 case isFalse => cases h
 rename_i hh
 replace h := Option.bind_eq_some_iff.mp h
 obtain ⟨y, h1, h⟩ := h
 simp only [Option.some.injEq] at h
 subst h
 have hj : j.toNat + (n.toNat + 1) ≤ Us.length := by omega
 have hp := Pc_of (j := j.toNat) (n := n.toNat + 1) ho0 (by omega) hj
 refine (quot_give.callsP _ Us j.toNat k P0_ _ _ A1 c1 l1 _ w0 w hB hp hr1 hc1 h1).mono ?_
 rintro e w' ⟨rfl, hP, hb, hk⟩
 have hl := piece_whole hP
 have hR := Pc_back hP
 rw [hl] at hR
 refine ⟨rfl, hR, hb, hk, ?_⟩
 rw [List.length_append, List.length_append, List.length_take, List.length_drop, hl]
 omega
def quot_shr.l0 : Nat → List Int → Int → List Int → Int → Int → Option (List Int)
 | 0, _, _, _, _, _ => none
 | k + 1, x0, x1, x5, x6, x7 => if x7 ≥ 0 then (if 0 ≤ x7 then (if x7 < (x0.length : Int) then ((wide_Shr.f x6 (rd x0 x7) x1).bind fun bt169 => (if x7 < (x5.length : Int) then (quot_shr.l0 k x0 x1 (x5.set (x7 : Int).toNat bt169.2.1) (rd x0 x7) (wrap64 (x7 - 1))) else (none))) else (none)) else (none)) else ((nat_Norm.f x5).bind fun t174 => (some t174))
def quot_shr.f (k : Nat) (l0 : List Int) (a1 : Int) : Option (List Int) := if 0 ≤ (l0.length : Int) then (if ((l0.length : Int) : Int).toNat ≤ 35184372088832 then (quot_shr.l0 k l0 a1 (List.replicate ((l0.length : Int) : Int).toNat 0) 0 (wrap64 ((l0.length : Int) - 1))) else (none)) else (none)
theorem quot_shr.mono_l : ∀ k, (∀ y0 y1 y2 y3 y4, LeO (quot_shr.l0 k y0 y1 y2 y3 y4) (quot_shr.l0 (k + 1) y0 y1 y2 y3 y4))
 | 0 => fun _ _ _ _ _ r h => by simp [quot_shr.l0] at h
 | k + 1 => by
  have ih0 := quot_shr.mono_l k
  ·intro y0 y1 y2 y3 y4
   unfold quot_shr.l0
   exact mX
theorem quot_shr.mono : ∀ a0 a1 k, LeO (quot_shr.f k a0 a1) (quot_shr.f (k + 1) a0 a1) := by
 intro a0 a1 k
 have ih0 := quot_shr.mono_l k
 unfold quot_shr.f
 exact mX
set_option maxHeartbeats 8000000 in
set_option maxRecDepth 100000 in
theorem quot_shr.calls (k : Nat) (A0 : Option Addr) (c0 : Nat) (l0 : List Int) (a1 : Int) (r : List Int) (w : World) (hr0 : Kd.C (Kd.int .u64) w A0 l0.length l0) (hc0 : l0.length ≤ c0) (h : quot_shr.f k l0 a1 = some r) :
  Calls Tryd.prog 118 #[.slice A0 l0.length c0, .int .i64 a1] w fun e w' => ∃ v0_ : Value, e = .returned (v0_) ∧ Kd.R (Kd.int .u64) 26 w' w.heap.size (fun _ => True) v0_ r ∧ Below w.heap.size w w' := by
 have HR0 := aM hr0
 have HC0 := aM hc0
 clear hr0 hc0
 have HB := aM (Below.refl w.heap.size w)
 have H := h
 clear h
 unfold quot_shr.f at H
 replace H := nO H
 obtain ⟨c3, H⟩ := H
 have c3b0 := eq_true c3
 have c3b1 : decide (0 ≤ (l0.length : Int)) = true := decide_eq_true c3
 clear c3
 replace H := nO H
 obtain ⟨c4, H⟩ := H
 have c4b0 := eq_true c4
 have c4b1 := decide_eq_true c4
 clear c4
 obtain ⟨y165, hy165⟩ : ∃ y_ : List Int, y_ = (List.replicate ((l0.length : Int) : Int).toNat 0) := ⟨_, rfl⟩
 replace H : (quot_shr.l0 k l0 a1 y165 0 (wrap64 ((l0.length : Int) - 1))) = some r := by first | (rw [hy165]; with_reducible exact H) | (have H2_ := (Option.bind_some _ _).symm.trans H; rw [hy165]; with_reducible exact H2_) | (have H2_ := (Option.bind_some _ _).symm.trans H; with_reducible exact H2_) | with_reducible exact H | (rw [hy165]; exact H) | exact H
 have Ny165 := aM hy165
 clear hy165
 have H' := aM H
 clear H
 go_enter Tryd.func118, Tryd.ntmps118
 go_wp2_with (first | ((with_reducible refine gate_dst (N := 10) rfl ?_); refine Kd.R_make (Kd.int .u64) _ 26 rfl (N := 10) rfl 22 _ _ rfl (l0.length : Int) rfl rfl Tryd.underlying22 (.int .u64 0) 8 info26 rfl (by decide) (by omega) 0 (ok := fun _ => True) (okp := fun _ => True) rfl (fun _ hk => hk) trivial (of_decide_eq_true dS) (Nat.le_trans (Nat.mul_le_mul_right _ (of_decide_eq_true dS : (l0.length : Int).toNat ≤ 35184372088832)) (by omega)) (Below.refl _ _) (Nat.le_refl _) ?_; intro v166 w5 ho6 hb hg_ hnew_; clear hg_ hnew_; (first | rw [← Ny165.out] at ho6 | (simp only [Int.reduceToNat] at ho6; rw [← Ny165.out] at ho6)); have HO167 := aM (Kd.R_lower ho6 (below_size dB)); replace HB := hS HB.out hb; clear hb ho6))
 go_loopg [6, 7] k (fun kq v6 v7 w' => ∃ (x5_1 : List Int) (x6_1 : Int) (x7_1 : Int), v6 = .int .u64 x6_1 ∧ v7 = .int .i64 x7_1 ∧ Aside0 (quot_shr.l0 kq l0 a1 x5_1 x6_1 x7_1 = some r) ∧ Aside0 (kq ≤ k) ∧ Aside0 (Kd.R (Kd.int .u64) 26 w' w.heap.size (fun _ => True) v166 x5_1) ∧ Aside0 (Below w.heap.size w w'))
 case atStart => exact ⟨(y165), (0), (wrap64 ((l0.length : Int) - 1)), dF, dF, H', ⟨Nat.le_refl _⟩, ⟨dR HO167.out⟩, ⟨dB⟩⟩
 case round =>
  clear H'
  try clear c3
  try clear c3b0 c3b1
  try clear c4
  try clear c4b0 c4b1
  obtain ⟨x5_1, x6_1, x7_1, rfl, rfl, HA, HK1, HO_5, HB⟩ := hrel
  cases gk with
  | zero => exact absurd HA.out (by simp [quot_shr.l0])
  | succ k1 =>
   have H := HA.out
   clear HA
   simp only [quot_shr.l0] at H
   by_cases c7 : x7_1 ≥ 0
   ·rw [if_pos c7] at H
    have c7b0 : decide (0 ≤ x7_1) = true := decide_eq_true c7
    clear c7
    replace H := nO H
    obtain ⟨c8, H⟩ := H
    have c8b0 : decide (0 ≤ x7_1) = true := decide_eq_true c8
    clear c8
    replace H := nO H
    obtain ⟨c9, H⟩ := H
    have c9b0 := decide_eq_true c9
    clear c9
    replace H := oA H
    obtain ⟨⟨t169, t170, t171⟩, A10, H⟩ := H
    (try dsimp only at H)
    replace H := nO H
    obtain ⟨c11, H⟩ := H
    have c11b0 := decide_eq_true c11
    clear c11
    obtain ⟨y172, hy172⟩ : ∃ y_ : List Int, y_ = (x5_1.set (x7_1 : Int).toNat t170) := ⟨_, rfl⟩
    replace H : (quot_shr.l0 k1 l0 a1 y172 (rd l0 x7_1) (wrap64 (x7_1 - 1))) = some r := by first | (rw [hy172]; with_reducible exact H) | (have H2_ := (Option.bind_some _ _).symm.trans H; rw [hy172]; with_reducible exact H2_) | (have H2_ := (Option.bind_some _ _).symm.trans H; with_reducible exact H2_) | with_reducible exact H | (rw [hy172]; exact H) | exact H
    have Ny172 := aM hy172
    clear hy172
    have H' := aM H
    clear H
    have p168 : 0 ≤ (x7_1 : Int) := of_decide_eq_true dS
    have q168 : x7_1 < (l0.length : Int) := of_decide_eq_true dS
    obtain ⟨ad168, e168, hx168_0⟩ := Kd.at_int HR0.out x7_1 p168 q168
    cases e168
    replace hx168_0 := (HB.out.cell (World.block_lt_of_cell? w _ hx168_0)).trans hx168_0
    replace p168 := eq_true p168
    replace q168 := eq_true q168
    go_wp2_with (first | ((with_reducible refine gate_callee (f := 82) rfl ?_); refine gL (some 27) Tryd.func82 #[.int .u64 x6_1, .int .u64 (rd l0 x7_1), .int .i64 a1] ?_; (with_reducible refine (wide_Shr.calls x6_1 (rd l0 x7_1) a1 t169 t170 t171 _ A10.out).mono ?_); rintro e w13 ⟨rfl, hb⟩; refine ⟨_, rfl, ?_⟩; replace HO_5 := oB HO_5.out hb; replace HB := hS HB.out hb; (try clear hb); have p12 : 0 ≤ (x7_1 : Int) := of_decide_eq_true dS; have q12 : (x7_1 : Int) < ((x5_1.length : Int) : Int) := of_decide_eq_true dS; obtain ⟨go12, co12, eo12, gb12, gl12, cl12, HG12⟩ := Kd.R_form HO_5.out (by omega); (first | cases eo12 | (injection eo12 with ea_ en_ ec_; (first | subst ea_ | (injection ea_ with ea_; subst ea_)); subst ec_; clear en_)); have GB12 := aM gb12; have GG12 := aM HG12; clear gb12 gl12 HG12; obtain ⟨hx12_0, hf12_0⟩ := Kd.R_celln 0 HO_5.out (x7_1 : Int) p12 q12; replace p12 := eq_true p12; replace q12 := eq_true q12; obtain ⟨hy14_, hz14_⟩ := Kd.R_celln 0 HO_5.out (x7_1 : Int) (of_decide_eq_true dS) (of_decide_eq_true dS); have HP14 := Kd.R_putg HO_5.out (x7_1 : Int) t170) | ((with_reducible refine gate_store (t := 26) (p := 31) rfl ?_); refine store_event (t := 26) (p := 31) (v := ?vo_w15) (w1 := (w13.setCell ⟨go12, (x7_1 : Int).toNat, none⟩ (.int .u64 t170))) ?hg ?ho ?hn ?hr ?_; (case ho => rfl); (case hg => rfl); (case hn => rfl); (case hr => first | (go_simp; done) | (go_simp; rfl)); intro w15 hw; have hg : w13.grownBy w15 (some go12) := (by rw [hw]; exact HP14.2); have hp_ : Kd.R (Kd.int .u64) 26 w15 w.heap.size (fun _ => True) (.slice (some ⟨go12, 0, none⟩) x5_1.length co12) y172 := (by rw [hw, Ny172.out]; exact HP14.1); clear HP14; replace HO_5 := aM (hp_); replace HB := aM ((by rw [hw]; exact below_set (HB.out) GB12.out : Below w.heap.size w w15)); clear hg hw hp_; have p173 : 0 ≤ (x7_1 : Int) := of_decide_eq_true dS; have q173 : x7_1 < (l0.length : Int) := of_decide_eq_true dS; obtain ⟨ad173, e173, hx173_0⟩ := Kd.at_int HR0.out x7_1 p173 q173; obtain rfl : ad168 = ad173 := (by injection e173); replace hx173_0 := (HB.out.cell (World.block_lt_of_cell? w _ hx173_0)).trans hx173_0; replace p173 := eq_true p173; replace q173 := eq_true q173))
    go_roundg k1
    case measure => have := HK1.out; omega
    case rel => exact ⟨(y172), (rd l0 x7_1), (wrap64 (x7_1 - 1)), dF, dF, H', ⟨by have := HK1.out; omega⟩, ⟨dR HO_5.out⟩, ⟨dB⟩⟩
   ·rw [if_neg c7] at H
    have c7b0 : decide (0 ≤ x7_1) = false := decide_eq_false c7
    clear c7
    replace H := oA H
    obtain ⟨t174, A16, H⟩ := H
    (try dsimp only at H)
    obtain rfl := Option.some.inj H
    obtain ⟨Ao17, co17, rfl⟩ := Kd.R_slice HO_5.out
    go_wp2_with (first | ((with_reducible refine gate_callee (f := 51) rfl ?_); refine gL (some 37) Tryd.func51 #[.slice Ao17 x5_1.length co17] ?_; (with_reducible refine (nat_Norm.calls _ _ x5_1 t174 _ ?side1 (Kd.R_reads' HO_5.out).2.1 A16.out).mono ?_); (case side1 => exact dC (Kd.R_reads' HO_5.out).2.2); rintro e w18 ⟨v175, rfl, ho0, hb⟩; refine ⟨_, rfl, ?_⟩; have HO176 := aM (Kd.R_lower (Kd.R_new' ho0 (Kd.R_lt (dR HO_5.out))) (below_size dB)); replace HO_5 := oE HO_5.out ho0 hb; replace HB := hS HB.out hb; (try clear hb); (try clear ho0)))
    go_ret
    exact ⟨_, dE, oM HO176.out (fun _ hk => trivial), dB⟩
end Go.Proofs.YtoefabmlkbhmpaaDoor.PA
