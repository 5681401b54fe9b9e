/- A part of the proof (8). -/
import Derived.Test.YtiogfeeaepkkmaaYKGVKG2
import Derived.Test.YtiogfeeaepkkmaaYKGVKG3
import Derived.Test.YtiogfeeaepkkmaaYKGVKG7
namespace Go.Proofs.Ytiogfeeaepkkmaa.PA
open Go.RowKit Go.Proofs.YtiogfeeaepkkmaaW.PrintWords Go.Proofs.YtiogfeeaepkkmaaW.PrintLast Go.Proofs.YtiogfeeaepkkmaaW.PrintMore
attribute [local go_sem] max2_int min2_int max_two min_two max_three min_three max_four min_four
set_option linter.unusedVariables false
set_option linter.unusedSimpArgs false
def nat_sum.f (l0 : List Int) (l1 : List Int) : Option (List Int) := if wsB l0 = true ∧ wsB l1 = true ∧ l0.length < 35184372088832 ∧ l1.length < 35184372088832 then some (wn (max l0.length l1.length + 1) (nv l0 + nv l1)) else none
mutual
def nat_sum.l0 : Nat → List Int → List Int → Int → List Int → Int → Int → Option (List Int)
 | 0, _, _, _, _, _, _ => none
 | k + 1, x1, x5, x6, x24, x25, x26 => if x26 < x25 then (if 0 ≤ x26 then (if x26 < (x24.length : Int) then (if x26 < (x5.length : Int) then ((wide_Add.f (rd x5 x26) (rd x24 x26) x6).bind fun bt111 => (nat_sum.l0 k x1 (x5.set (x26 : Int).toNat bt111.1) bt111.2 x24 x25 (wrap64 (x26 + 1)))) else (none)) else (none)) else (none)) else (nat_sum.l1 k x5 x6 (x1.length : Int))
def nat_sum.l1 : Nat → List Int → Int → Int → Option (List Int)
 | 0, _, _, _ => none
 | k + 1, x5, x6, x9 => if x6 > 0 then (if 0 ≤ x9 then (if x9 < (x5.length : Int) then ((wide_Add.f (rd x5 x9) 0 x6).bind fun bt115 => (nat_sum.l1 k (x5.set (x9 : Int).toNat bt115.1) bt115.2 (wrap64 (x9 + 1)))) else (none)) else (none)) else (some x5)
end
theorem sum_copied {l0 : List Int} : l0.take (min l0.length (List.replicate (l0.length + 1) (0 : Int)).length) ++ (List.replicate (l0.length + 1) (0 : Int)).drop (min l0.length (List.replicate (l0.length + 1) (0 : Int)).length) = l0 ++ [0] := by
 rw [List.length_replicate, Nat.min_eq_left (by omega), List.take_length, List.drop_replicate]
 simp
set_option maxHeartbeats 8000000 in
set_option maxRecDepth 100000 in
theorem nat_sum.coreA (k : Nat) (A0 : Option Addr) (c0 : Nat) (l0 : List Int) (A1 : Option Addr) (c1 : Nat) (l1 : List Int) (r : List Int) (w : World) (hr0 : Kd.C (Kd.int .u64) w A0 l0.length l0) (hr1 : Kd.C (Kd.int .u64) w A1 l1.length l1) (hlen : l0.length < 35184372088832) (g : decide (l0.length < l1.length) = false) (h : nat_sum.l0 k l1 (l0 ++ [0]) 0 l1 (l1.length : Int) 0 = some r) :
  Calls Try.prog 57 #[.slice A0 l0.length c0, .slice A1 l1.length c1] w fun e w' => ∃ v0_ : Value, e = .returned (v0_) ∧ Kd.R (Kd.int .u64) 44 w' w.heap.size (fun _ => True) v0_ r ∧ Below w.heap.size w w' := by
 have HR0 := Aside0.mk hr0
 have HR1 := Aside0.mk hr1
 clear hr0 hr1
 have H' := Aside0.mk h
 clear h
 go_enter Try.func57, Try.ntmps57
 go_wp2_with (first
  | ((with_reducible refine gate_dst (N := 20) rfl ?_); refine Kd.R_make (Kd.int .u64) _ 44 rfl (N := 20) rfl 22 _ _ rfl ((l0.length : Int) + 1) rfl rfl Try.underlying22 (.int .u64 0) 8 info44 rfl (by decide) (by omega) 0 (ok := fun _ => True) (okp := fun _ => True) rfl (fun _ hk => hk) trivial (by omega) (by omega) (Below.refl _ _) (Nat.le_refl _) ?_; intro v107 w6 ho7 hb hg_ hnew_; clear hg_ hnew_; have HO107 := Aside0.mk (show Kd.R (Kd.int .u64) 44 w6 w.heap.size (fun _ => True) v107 (List.replicate (l0.length + 1) 0) from ho7); have HB := Aside0.mk hb; clear hb ho7)
  | ((with_reducible refine gate_dst (N := 23) rfl ?_); refine Kd.R_copy (enc := Value.int .u64) (h1 := fun _ => rfl) (0 : Int) w.heap.size rfl (.tmp 21) (.tmp 22) 22 22 44 rfl Try.underlying22 (by kernel_rfl) v107 (List.replicate (l0.length + 1) 0) l0 A0 l0.length c0 (fun _ => True) rfl rfl HO107.out (Kd.C_below HR0.out HB.out) HB.out HB.out.size ?_; intro w7 ho8 hb _; rw [sum_copied] at ho8; have HO108 := Aside0.mk ho8; clear HO107 HB; have HB := Aside0.mk hb; clear hb ho8))
 go_loopg [6, 26] k (fun kq v6 v26 w' => ∃ (x5_1 : List Int) (x6_1 : Int) (x26_1 : Int), v6 = .int .u64 x6_1 ∧ v26 = .int .i64 x26_1 ∧ Aside0 (nat_sum.l0 kq l1 x5_1 x6_1 l1 (l1.length : Int) x26_1 = some r) ∧ Aside0 (kq ≤ k) ∧ Aside0 (Kd.R (Kd.int .u64) 44 w' w.heap.size (fun _ => True) v107 x5_1) ∧ Aside0 (Below w.heap.size w w'))
 case atStart => exact ⟨(l0 ++ [0]), (0), (0), dF, dF, H', ⟨Nat.le_refl _⟩, ⟨dR HO108.out⟩, ⟨dB⟩⟩
 case round =>
  clear H'
  try clear c1
  try clear p2
  try clear c4
  try clear c4b0
  try clear c4b1
  try clear c5
  try clear c5b0
  try clear c5b1
  try clear p6
  obtain ⟨x5_1, x6_1, x26_1, rfl, rfl, HA, HK1, HO_5, HB⟩ := hrel
  cases gk with
  | zero => exact absurd HA.out (by simp [nat_sum.l0])
  | succ k1 =>
   have H := HA.out
   clear HA
   simp only [nat_sum.l0] at H
   by_cases c8 : x26_1 < (l1.length : Int)
   ·rw [if_pos c8] at H
    have c8b0 : decide (x26_1 < (l1.length : Int)) = true := decide_eq_true c8
    clear c8
    by_cases c9 : (0 : Int) ≤ x26_1
    ·rw [if_pos c9] at H
     have c9b0 : decide (0 ≤ x26_1) = true := decide_eq_true c9
     clear c9
     by_cases c10 : x26_1 < (l1.length : Int)
     ·rw [if_pos c10] at H
      have c10b0 : decide (x26_1 < (l1.length : Int)) = true := decide_eq_true c10
      clear c10
      by_cases c11 : x26_1 < (x5_1.length : Int)
      ·rw [if_pos c11] at H
       have c11b0 : decide (x26_1 < (x5_1.length : Int)) = true := decide_eq_true c11
       clear c11
       replace H := obe H
       obtain ⟨⟨t111, t112⟩, A120, H⟩ := H
       replace H : (nat_sum.l0 k1 l1 (x5_1.set (x26_1 : Int).toNat t111) t112 l1 (l1.length : Int) (wrap64 (x26_1 + 1))) = some r := H
       have A12 := Aside0.mk A120
       clear A120
       obtain ⟨y113, hy113⟩ : ∃ y_ : List Int, y_ = (x5_1.set (x26_1 : Int).toNat t111) := ⟨_, rfl⟩
       replace H : (nat_sum.l0 k1 l1 y113 t112 l1 (l1.length : Int) (wrap64 (x26_1 + 1))) = some r := by first | (rw [hy113]; with_reducible exact H) | (have H2_ := (Option.bind_some _ _).symm.trans H; rw [hy113]; with_reducible exact H2_) | (have H2_ := (Option.bind_some _ _).symm.trans H; with_reducible exact H2_) | with_reducible exact H | (rw [hy113]; exact H) | exact H
       have Ny113 := Aside0.mk hy113
       clear hy113
       have H' := Aside0.mk H
       clear H
       have p109 : 0 ≤ (x26_1 : Int) := of_decide_eq_true dS
       have q109 : x26_1 < (l1.length : Int) := of_decide_eq_true dS
       obtain ⟨ad109, e109, hx109_0⟩ := Kd.at_int HR1.out x26_1 p109 q109
       cases e109
       replace hx109_0 := (HB.out.cell (World.block_lt_of_cell? w _ hx109_0)).trans hx109_0
       replace p109 := eq_true p109
       replace q109 := eq_true q109
       obtain ⟨Ao14, co14, eo14⟩ := Kd.R_slice HO_5.out
       subst eo14
       have p110 : 0 ≤ (x26_1 : Int) := of_decide_eq_true dS
       have q110 : x26_1 < (x5_1.length : Int) := of_decide_eq_true dS
       obtain ⟨ad110, e110, hx110_0⟩ := Kd.at_int (Kd.R_reads' HO_5.out).2.2 x26_1 p110 q110
       cases e110
       replace p110 := eq_true p110
       replace q110 := eq_true q110
       go_wp2_with (first | ((with_reducible refine gate_callee (f := 61) rfl ?_); refine gL (some 40) Try.func61 #[.int .u64 (rd x5_1 x26_1), .int .u64 (rd l1 x26_1), .int .u64 x6_1] ?_; (with_reducible refine (wide_Add.calls (rd x5_1 x26_1) (rd l1 x26_1) x6_1 t111 t112 _ A12.out).mono ?_); rintro e w' ⟨rfl, ⟨nd, rfl⟩⟩; refine ⟨_, rfl, ?_⟩; (try (rw [drewN_self wr]; generalize hq_ : World.drewN wr _ = wr; have n0_ : Aside0 (Kd.R (Kd.int .u64) 44 wr w.heap.size (fun _ => True) (.slice (some ad110) x5_1.length co14) x5_1) := ⟨by rw [← hq_]; exact (dR HO_5.out)⟩; have n1_ : Aside0 (Below w.heap.size w wr) := ⟨by rw [← hq_]; exact dB⟩; clear HO_5 HB hq_; have HO_5 := n0_; have HB := n1_; clear n0_ n1_)); have p13 : 0 ≤ (x26_1 : Int) := of_decide_eq_true dS; have q13 : (x26_1 : Int) < ((x5_1.length : Int) : Int) := of_decide_eq_true dS; obtain ⟨go13, co13, eo13, gb13, gl13, cl13, HG13⟩ := Kd.R_form HO_5.out (by omega); (first | cases eo13 | (injection eo13 with ea_ en_ ec_; (first | subst ea_ | (injection ea_ with ea_; subst ea_)); subst ec_; clear en_)); have GB13 := Aside0.mk gb13; have GG13 := Aside0.mk HG13; clear gb13 gl13 HG13; (first | simp only [add_plain] at hx110_0 | skip); obtain ⟨hx13_0, hf13_0⟩ := Kd.R_celln 0 HO_5.out (x26_1 : Int) p13 q13; replace p13 := eq_true p13; replace q13 := eq_true q13; obtain ⟨hy15_, hz15_⟩ := Kd.R_celln 0 HO_5.out (x26_1 : Int) (of_decide_eq_true dS) (of_decide_eq_true dS); have HP15 := Kd.R_putg HO_5.out (x26_1 : Int) t111) | ((with_reducible refine gate_store (t := 44) (p := 43) rfl ?_); refine store_event (t := 44) (p := 43) (v := ?vo_w16) (w1 := (wr.setCell ⟨go13, (x26_1 : Int).toNat, none⟩ (.int .u64 t111))) ?hg ?ho ?hn ?hr ?_; (case ho => rfl); (case hg => rfl); (case hn => rfl); (case hr => first | (go_simp; done) | (go_simp; rfl)); intro w16 hw; have hg : wr.grownBy w16 (some go13) := (by rw [hw]; exact HP15.2); have hp_ : Kd.R (Kd.int .u64) 44 w16 w.heap.size (fun _ => True) (.slice (some ⟨go13, 0, none⟩) x5_1.length co14) y113 := (by rw [hw, Ny113.out]; exact HP15.1); clear HP15; replace HO_5 := Aside0.mk (hp_); replace HB := Aside0.mk ((by rw [hw]; exact below_set (HB.out) GB13.out : Below w.heap.size w w16)); clear hg hw hp_))
       go_roundg k1
       case measure => have := HK1.out; omega
       case rel => exact ⟨(y113), (t112), (wrap64 (x26_1 + 1)), dF, dF, H', ⟨by have := HK1.out; omega⟩, ⟨dR HO_5.out⟩, ⟨dB⟩⟩
      ·rw [if_neg c11] at H
       exact absurd H (by simp)
     ·rw [if_neg c10] at H
      exact absurd H (by simp)
    ·rw [if_neg c9] at H
     exact absurd H (by simp)
   ·rw [if_neg c8] at H
    have c8b0 : decide (x26_1 < (l1.length : Int)) = false := decide_eq_false c8
    clear c8
    have H' := Aside0.mk H
    clear H
    go_wp2
    go_loopg [6, 9] k1 (fun kq v6 v9 w' => ∃ (x5_2 : List Int) (x6_2 : Int) (x9_2 : Int), v6 = .int .u64 x6_2 ∧ v9 = .int .i64 x9_2 ∧ Aside0 (nat_sum.l1 kq x5_2 x6_2 x9_2 = some r) ∧ Aside0 (kq ≤ k1) ∧ Aside0 (Kd.R (Kd.int .u64) 44 w' w.heap.size (fun _ => True) v107 x5_2) ∧ Aside0 (Below w.heap.size w w'))
    case atStart => exact ⟨(x5_1), (x6_1), ((l1.length : Int)), dF, dF, H', ⟨Nat.le_refl _⟩, ⟨dR HO_5.out⟩, ⟨dB⟩⟩
    case round =>
     clear H'
     try clear c1
     try clear p1
     try clear q1
     try clear hx1
     try clear p2
     try clear c4
     try clear c4b0
     try clear c4b1
     try clear c5
     try clear c5b0
     try clear c5b1
     try clear p6
     try clear c8
     try clear c8b0
     try clear c9
     try clear c9b0
     try clear c10
     try clear c10b0
     try clear p10
     try clear q10
     try clear hx10
     try clear c11
     try clear c11b0
     try clear p11
     try clear q11
     try clear hx11
     try clear p13
     try clear q13
     try clear hx13
     try clear hf13
     try clear hx109_0
     try clear hx110_0
     try clear hx13_0
     try clear p109
     try clear p110
     try clear p13
     try clear p2
     try clear p6
     try clear q109
     try clear q110
     try clear q13
     obtain ⟨x5_2, x6_2, x9_2, rfl, rfl, HA, HK2, HO_5, HB⟩ := hrel
     cases gk with
     | zero => exact absurd HA.out (by simp [nat_sum.l1])
     | succ k2 =>
      have H := HA.out
      clear HA
      simp only [nat_sum.l1] at H
      by_cases c17 : x6_2 > 0
      ·rw [if_pos c17] at H
       have c17b0 : decide (0 < x6_2) = true := decide_eq_true c17
       clear c17
       by_cases c18 : (0 : Int) ≤ x9_2
       ·rw [if_pos c18] at H
        have c18b0 : decide (0 ≤ x9_2) = true := decide_eq_true c18
        clear c18
        by_cases c19 : x9_2 < (x5_2.length : Int)
        ·rw [if_pos c19] at H
         have c19b0 : decide (x9_2 < (x5_2.length : Int)) = true := decide_eq_true c19
         clear c19
         replace H := obe H
         obtain ⟨⟨t115, t116⟩, A200, H⟩ := H
         replace H : (nat_sum.l1 k2 (x5_2.set (x9_2 : Int).toNat t115) t116 (wrap64 (x9_2 + 1))) = some r := H
         have A20 := Aside0.mk A200
         clear A200
         obtain ⟨y117, hy117⟩ : ∃ y_ : List Int, y_ = (x5_2.set (x9_2 : Int).toNat t115) := ⟨_, rfl⟩
         replace H : (nat_sum.l1 k2 y117 t116 (wrap64 (x9_2 + 1))) = some r := by first | (rw [hy117]; with_reducible exact H) | (have H2_ := (Option.bind_some _ _).symm.trans H; rw [hy117]; with_reducible exact H2_) | (have H2_ := (Option.bind_some _ _).symm.trans H; with_reducible exact H2_) | with_reducible exact H | (rw [hy117]; exact H) | exact H
         have Ny117 := Aside0.mk hy117
         clear hy117
         have H' := Aside0.mk H
         clear H
         obtain ⟨Ao22, co22, eo22⟩ := Kd.R_slice HO_5.out
         subst eo22
         have p114 : 0 ≤ (x9_2 : Int) := of_decide_eq_true dS
         have q114 : x9_2 < (x5_2.length : Int) := of_decide_eq_true dS
         obtain ⟨ad114, e114, hx114_0⟩ := Kd.at_int (Kd.R_reads' HO_5.out).2.2 x9_2 p114 q114
         cases e114
         replace p114 := eq_true p114
         replace q114 := eq_true q114
         go_wp2_with (first | ((with_reducible refine gate_callee (f := 61) rfl ?_); refine gL (some 59) Try.func61 #[.int .u64 (rd x5_2 x9_2), .int .u64 0, .int .u64 x6_2] ?_; (with_reducible refine (wide_Add.calls (rd x5_2 x9_2) 0 x6_2 t115 t116 _ A20.out).mono ?_); rintro e w' ⟨rfl, ⟨nd, rfl⟩⟩; refine ⟨_, rfl, ?_⟩; (try (rw [drewN_self wr]; generalize hq_ : World.drewN wr _ = wr; have n0_ : Aside0 (Kd.R (Kd.int .u64) 44 wr w.heap.size (fun _ => True) (.slice (some ad114) x5_2.length co22) x5_2) := ⟨by rw [← hq_]; exact (dR HO_5.out)⟩; have n1_ : Aside0 (Below w.heap.size w wr) := ⟨by rw [← hq_]; exact dB⟩; clear HO_5 HB hq_; have HO_5 := n0_; have HB := n1_; clear n0_ n1_)); have p21 : 0 ≤ (x9_2 : Int) := of_decide_eq_true dS; have q21 : (x9_2 : Int) < ((x5_2.length : Int) : Int) := of_decide_eq_true dS; obtain ⟨go21, co21, eo21, gb21, gl21, cl21, HG21⟩ := Kd.R_form HO_5.out (by omega); (first | cases eo21 | (injection eo21 with ea_ en_ ec_; (first | subst ea_ | (injection ea_ with ea_; subst ea_)); subst ec_; clear en_)); have GB21 := Aside0.mk gb21; have GG21 := Aside0.mk HG21; clear gb21 gl21 HG21; (first | simp only [add_plain] at hx114_0 | skip); obtain ⟨hx21_0, hf21_0⟩ := Kd.R_celln 0 HO_5.out (x9_2 : Int) p21 q21; replace p21 := eq_true p21; replace q21 := eq_true q21; obtain ⟨hy23_, hz23_⟩ := Kd.R_celln 0 HO_5.out (x9_2 : Int) (of_decide_eq_true dS) (of_decide_eq_true dS); have HP23 := Kd.R_putg HO_5.out (x9_2 : Int) t115) | ((with_reducible refine gate_store (t := 44) (p := 62) rfl ?_); refine store_event (t := 44) (p := 62) (v := ?vo_w24) (w1 := (wr.setCell ⟨go21, (x9_2 : Int).toNat, none⟩ (.int .u64 t115))) ?hg ?ho ?hn ?hr ?_; (case ho => rfl); (case hg => rfl); (case hn => rfl); (case hr => first | (go_simp; done) | (go_simp; rfl)); intro w24 hw; have hg : wr.grownBy w24 (some go21) := (by rw [hw]; exact HP23.2); have hp_ : Kd.R (Kd.int .u64) 44 w24 w.heap.size (fun _ => True) (.slice (some ⟨go21, 0, none⟩) x5_2.length co22) y117 := (by rw [hw, Ny117.out]; exact HP23.1); clear HP23; replace HO_5 := Aside0.mk (hp_); replace HB := Aside0.mk ((by rw [hw]; exact below_set (HB.out) GB21.out : Below w.heap.size w w24)); clear hg hw hp_))
         go_roundg k2
         case measure => have := HK1.out; have := HK2.out; omega
         case rel => exact ⟨(y117), (t116), (wrap64 (x9_2 + 1)), dF, dF, H', ⟨by have := HK1.out; have := HK2.out; omega⟩, ⟨dR HO_5.out⟩, ⟨dB⟩⟩
        ·rw [if_neg c19] at H
         exact absurd H (by simp)
       ·rw [if_neg c18] at H
        exact absurd H (by simp)
      ·rw [if_neg c17] at H
       have c17b0 : decide (0 < x6_2) = false := decide_eq_false c17
       clear c17
       obtain rfl := Option.some.inj H
       go_wp2
       go_ret
       exact ⟨_, by first | rfl | (simp [errW_none, errW_some] <;> rfl) | (simp only [← hji3]; first | rfl | (simp [errW_none, errW_some] <;> rfl)) | (simp [*, errW_none, errW_some] <;> rfl), dR HO_5.out, dB⟩
set_option maxHeartbeats 8000000 in
set_option maxRecDepth 100000 in
theorem nat_sum.coreB (k : Nat) (A0 : Option Addr) (c0 : Nat) (l0 : List Int) (A1 : Option Addr) (c1 : Nat) (l1 : List Int) (r : List Int) (w : World) (hr0 : Kd.C (Kd.int .u64) w A0 l0.length l0) (hr1 : Kd.C (Kd.int .u64) w A1 l1.length l1) (hlen : l0.length < 35184372088832) (g : decide (l1.length < l0.length) = true) (h : nat_sum.l0 k l1 (l0 ++ [0]) 0 l1 (l1.length : Int) 0 = some r) :
  Calls Try.prog 57 #[.slice A1 l1.length c1, .slice A0 l0.length c0] w fun e w' => ∃ v0_ : Value, e = .returned (v0_) ∧ Kd.R (Kd.int .u64) 44 w' w.heap.size (fun _ => True) v0_ r ∧ Below w.heap.size w w' := by
 have HR0 := Aside0.mk hr0
 have HR1 := Aside0.mk hr1
 clear hr0 hr1
 have H' := Aside0.mk h
 clear h
 go_enter Try.func57, Try.ntmps57
 go_wp2_with (first
  | ((with_reducible refine gate_dst (N := 20) rfl ?_); refine Kd.R_make (Kd.int .u64) _ 44 rfl (N := 20) rfl 22 _ _ rfl ((l0.length : Int) + 1) rfl rfl Try.underlying22 (.int .u64 0) 8 info44 rfl (by decide) (by omega) 0 (ok := fun _ => True) (okp := fun _ => True) rfl (fun _ hk => hk) trivial (by omega) (by omega) (Below.refl _ _) (Nat.le_refl _) ?_; intro v107 w6 ho7 hb hg_ hnew_; clear hg_ hnew_; have HO107 := Aside0.mk (show Kd.R (Kd.int .u64) 44 w6 w.heap.size (fun _ => True) v107 (List.replicate (l0.length + 1) 0) from ho7); have HB := Aside0.mk hb; clear hb ho7)
  | ((with_reducible refine gate_dst (N := 23) rfl ?_); refine Kd.R_copy (enc := Value.int .u64) (h1 := fun _ => rfl) (0 : Int) w.heap.size rfl (.tmp 21) (.tmp 22) 22 22 44 rfl Try.underlying22 (by kernel_rfl) v107 (List.replicate (l0.length + 1) 0) l0 A0 l0.length c0 (fun _ => True) rfl rfl HO107.out (Kd.C_below HR0.out HB.out) HB.out HB.out.size ?_; intro w7 ho8 hb _; rw [sum_copied] at ho8; have HO108 := Aside0.mk ho8; clear HO107 HB; have HB := Aside0.mk hb; clear hb ho8))
 go_loopg [6, 26] k (fun kq v6 v26 w' => ∃ (x5_1 : List Int) (x6_1 : Int) (x26_1 : Int), v6 = .int .u64 x6_1 ∧ v26 = .int .i64 x26_1 ∧ Aside0 (nat_sum.l0 kq l1 x5_1 x6_1 l1 (l1.length : Int) x26_1 = some r) ∧ Aside0 (kq ≤ k) ∧ Aside0 (Kd.R (Kd.int .u64) 44 w' w.heap.size (fun _ => True) v107 x5_1) ∧ Aside0 (Below w.heap.size w w'))
 case atStart => exact ⟨(l0 ++ [0]), (0), (0), dF, dF, H', ⟨Nat.le_refl _⟩, ⟨dR HO108.out⟩, ⟨dB⟩⟩
 case round =>
  clear H'
  try clear c1
  try clear p2
  try clear c4
  try clear c4b0
  try clear c4b1
  try clear c5
  try clear c5b0
  try clear c5b1
  try clear p6
  obtain ⟨x5_1, x6_1, x26_1, rfl, rfl, HA, HK1, HO_5, HB⟩ := hrel
  cases gk with
  | zero => exact absurd HA.out (by simp [nat_sum.l0])
  | succ k1 =>
   have H := HA.out
   clear HA
   simp only [nat_sum.l0] at H
   by_cases c8 : x26_1 < (l1.length : Int)
   ·rw [if_pos c8] at H
    have c8b0 : decide (x26_1 < (l1.length : Int)) = true := decide_eq_true c8
    clear c8
    by_cases c9 : (0 : Int) ≤ x26_1
    ·rw [if_pos c9] at H
     have c9b0 : decide (0 ≤ x26_1) = true := decide_eq_true c9
     clear c9
     by_cases c10 : x26_1 < (l1.length : Int)
     ·rw [if_pos c10] at H
      have c10b0 : decide (x26_1 < (l1.length : Int)) = true := decide_eq_true c10
      clear c10
      by_cases c11 : x26_1 < (x5_1.length : Int)
      ·rw [if_pos c11] at H
       have c11b0 : decide (x26_1 < (x5_1.length : Int)) = true := decide_eq_true c11
       clear c11
       replace H := obe H
       obtain ⟨⟨t111, t112⟩, A120, H⟩ := H
       replace H : (nat_sum.l0 k1 l1 (x5_1.set (x26_1 : Int).toNat t111) t112 l1 (l1.length : Int) (wrap64 (x26_1 + 1))) = some r := H
       have A12 := Aside0.mk A120
       clear A120
       obtain ⟨y113, hy113⟩ : ∃ y_ : List Int, y_ = (x5_1.set (x26_1 : Int).toNat t111) := ⟨_, rfl⟩
       replace H : (nat_sum.l0 k1 l1 y113 t112 l1 (l1.length : Int) (wrap64 (x26_1 + 1))) = some r := by first | (rw [hy113]; with_reducible exact H) | (have H2_ := (Option.bind_some _ _).symm.trans H; rw [hy113]; with_reducible exact H2_) | (have H2_ := (Option.bind_some _ _).symm.trans H; with_reducible exact H2_) | with_reducible exact H | (rw [hy113]; exact H) | exact H
       have Ny113 := Aside0.mk hy113
       clear hy113
       have H' := Aside0.mk H
       clear H
       have p109 : 0 ≤ (x26_1 : Int) := of_decide_eq_true dS
       have q109 : x26_1 < (l1.length : Int) := of_decide_eq_true dS
       obtain ⟨ad109, e109, hx109_0⟩ := Kd.at_int HR1.out x26_1 p109 q109
       cases e109
       replace hx109_0 := (HB.out.cell (World.block_lt_of_cell? w _ hx109_0)).trans hx109_0
       replace p109 := eq_true p109
       replace q109 := eq_true q109
       obtain ⟨Ao14, co14, eo14⟩ := Kd.R_slice HO_5.out
       subst eo14
       have p110 : 0 ≤ (x26_1 : Int) := of_decide_eq_true dS
       have q110 : x26_1 < (x5_1.length : Int) := of_decide_eq_true dS
       obtain ⟨ad110, e110, hx110_0⟩ := Kd.at_int (Kd.R_reads' HO_5.out).2.2 x26_1 p110 q110
       cases e110
       replace p110 := eq_true p110
       replace q110 := eq_true q110
       go_wp2_with (first | ((with_reducible refine gate_callee (f := 61) rfl ?_); refine gL (some 40) Try.func61 #[.int .u64 (rd x5_1 x26_1), .int .u64 (rd l1 x26_1), .int .u64 x6_1] ?_; (with_reducible refine (wide_Add.calls (rd x5_1 x26_1) (rd l1 x26_1) x6_1 t111 t112 _ A12.out).mono ?_); rintro e w' ⟨rfl, ⟨nd, rfl⟩⟩; refine ⟨_, rfl, ?_⟩; (try (rw [drewN_self wr]; generalize hq_ : World.drewN wr _ = wr; have n0_ : Aside0 (Kd.R (Kd.int .u64) 44 wr w.heap.size (fun _ => True) (.slice (some ad110) x5_1.length co14) x5_1) := ⟨by rw [← hq_]; exact (dR HO_5.out)⟩; have n1_ : Aside0 (Below w.heap.size w wr) := ⟨by rw [← hq_]; exact dB⟩; clear HO_5 HB hq_; have HO_5 := n0_; have HB := n1_; clear n0_ n1_)); have p13 : 0 ≤ (x26_1 : Int) := of_decide_eq_true dS; have q13 : (x26_1 : Int) < ((x5_1.length : Int) : Int) := of_decide_eq_true dS; obtain ⟨go13, co13, eo13, gb13, gl13, cl13, HG13⟩ := Kd.R_form HO_5.out (by omega); (first | cases eo13 | (injection eo13 with ea_ en_ ec_; (first | subst ea_ | (injection ea_ with ea_; subst ea_)); subst ec_; clear en_)); have GB13 := Aside0.mk gb13; have GG13 := Aside0.mk HG13; clear gb13 gl13 HG13; (first | simp only [add_plain] at hx110_0 | skip); obtain ⟨hx13_0, hf13_0⟩ := Kd.R_celln 0 HO_5.out (x26_1 : Int) p13 q13; replace p13 := eq_true p13; replace q13 := eq_true q13; obtain ⟨hy15_, hz15_⟩ := Kd.R_celln 0 HO_5.out (x26_1 : Int) (of_decide_eq_true dS) (of_decide_eq_true dS); have HP15 := Kd.R_putg HO_5.out (x26_1 : Int) t111) | ((with_reducible refine gate_store (t := 44) (p := 43) rfl ?_); refine store_event (t := 44) (p := 43) (v := ?vo_w16) (w1 := (wr.setCell ⟨go13, (x26_1 : Int).toNat, none⟩ (.int .u64 t111))) ?hg ?ho ?hn ?hr ?_; (case ho => rfl); (case hg => rfl); (case hn => rfl); (case hr => first | (go_simp; done) | (go_simp; rfl)); intro w16 hw; have hg : wr.grownBy w16 (some go13) := (by rw [hw]; exact HP15.2); have hp_ : Kd.R (Kd.int .u64) 44 w16 w.heap.size (fun _ => True) (.slice (some ⟨go13, 0, none⟩) x5_1.length co14) y113 := (by rw [hw, Ny113.out]; exact HP15.1); clear HP15; replace HO_5 := Aside0.mk (hp_); replace HB := Aside0.mk ((by rw [hw]; exact below_set (HB.out) GB13.out : Below w.heap.size w w16)); clear hg hw hp_))
       go_roundg k1
       case measure => have := HK1.out; omega
       case rel => exact ⟨(y113), (t112), (wrap64 (x26_1 + 1)), dF, dF, H', ⟨by have := HK1.out; omega⟩, ⟨dR HO_5.out⟩, ⟨dB⟩⟩
      ·rw [if_neg c11] at H
       exact absurd H (by simp)
     ·rw [if_neg c10] at H
      exact absurd H (by simp)
    ·rw [if_neg c9] at H
     exact absurd H (by simp)
   ·rw [if_neg c8] at H
    have c8b0 : decide (x26_1 < (l1.length : Int)) = false := decide_eq_false c8
    clear c8
    have H' := Aside0.mk H
    clear H
    go_wp2
    go_loopg [6, 9] k1 (fun kq v6 v9 w' => ∃ (x5_2 : List Int) (x6_2 : Int) (x9_2 : Int), v6 = .int .u64 x6_2 ∧ v9 = .int .i64 x9_2 ∧ Aside0 (nat_sum.l1 kq x5_2 x6_2 x9_2 = some r) ∧ Aside0 (kq ≤ k1) ∧ Aside0 (Kd.R (Kd.int .u64) 44 w' w.heap.size (fun _ => True) v107 x5_2) ∧ Aside0 (Below w.heap.size w w'))
    case atStart => exact ⟨(x5_1), (x6_1), ((l1.length : Int)), dF, dF, H', ⟨Nat.le_refl _⟩, ⟨dR HO_5.out⟩, ⟨dB⟩⟩
    case round =>
     clear H'
     try clear c1
     try clear p1
     try clear q1
     try clear hx1
     try clear p2
     try clear c4
     try clear c4b0
     try clear c4b1
     try clear c5
     try clear c5b0
     try clear c5b1
     try clear p6
     try clear c8
     try clear c8b0
     try clear c9
     try clear c9b0
     try clear c10
     try clear c10b0
     try clear p10
     try clear q10
     try clear hx10
     try clear c11
     try clear c11b0
     try clear p11
     try clear q11
     try clear hx11
     try clear p13
     try clear q13
     try clear hx13
     try clear hf13
     try clear hx109_0
     try clear hx110_0
     try clear hx13_0
     try clear p109
     try clear p110
     try clear p13
     try clear p2
     try clear p6
     try clear q109
     try clear q110
     try clear q13
     obtain ⟨x5_2, x6_2, x9_2, rfl, rfl, HA, HK2, HO_5, HB⟩ := hrel
     cases gk with
     | zero => exact absurd HA.out (by simp [nat_sum.l1])
     | succ k2 =>
      have H := HA.out
      clear HA
      simp only [nat_sum.l1] at H
      by_cases c17 : x6_2 > 0
      ·rw [if_pos c17] at H
       have c17b0 : decide (0 < x6_2) = true := decide_eq_true c17
       clear c17
       by_cases c18 : (0 : Int) ≤ x9_2
       ·rw [if_pos c18] at H
        have c18b0 : decide (0 ≤ x9_2) = true := decide_eq_true c18
        clear c18
        by_cases c19 : x9_2 < (x5_2.length : Int)
        ·rw [if_pos c19] at H
         have c19b0 : decide (x9_2 < (x5_2.length : Int)) = true := decide_eq_true c19
         clear c19
         replace H := obe H
         obtain ⟨⟨t115, t116⟩, A200, H⟩ := H
         replace H : (nat_sum.l1 k2 (x5_2.set (x9_2 : Int).toNat t115) t116 (wrap64 (x9_2 + 1))) = some r := H
         have A20 := Aside0.mk A200
         clear A200
         obtain ⟨y117, hy117⟩ : ∃ y_ : List Int, y_ = (x5_2.set (x9_2 : Int).toNat t115) := ⟨_, rfl⟩
         replace H : (nat_sum.l1 k2 y117 t116 (wrap64 (x9_2 + 1))) = some r := by first | (rw [hy117]; with_reducible exact H) | (have H2_ := (Option.bind_some _ _).symm.trans H; rw [hy117]; with_reducible exact H2_) | (have H2_ := (Option.bind_some _ _).symm.trans H; with_reducible exact H2_) | with_reducible exact H | (rw [hy117]; exact H) | exact H
         have Ny117 := Aside0.mk hy117
         clear hy117
         have H' := Aside0.mk H
         clear H
         obtain ⟨Ao22, co22, eo22⟩ := Kd.R_slice HO_5.out
         subst eo22
         have p114 : 0 ≤ (x9_2 : Int) := of_decide_eq_true dS
         have q114 : x9_2 < (x5_2.length : Int) := of_decide_eq_true dS
         obtain ⟨ad114, e114, hx114_0⟩ := Kd.at_int (Kd.R_reads' HO_5.out).2.2 x9_2 p114 q114
         cases e114
         replace p114 := eq_true p114
         replace q114 := eq_true q114
         go_wp2_with (first | ((with_reducible refine gate_callee (f := 61) rfl ?_); refine gL (some 59) Try.func61 #[.int .u64 (rd x5_2 x9_2), .int .u64 0, .int .u64 x6_2] ?_; (with_reducible refine (wide_Add.calls (rd x5_2 x9_2) 0 x6_2 t115 t116 _ A20.out).mono ?_); rintro e w' ⟨rfl, ⟨nd, rfl⟩⟩; refine ⟨_, rfl, ?_⟩; (try (rw [drewN_self wr]; generalize hq_ : World.drewN wr _ = wr; have n0_ : Aside0 (Kd.R (Kd.int .u64) 44 wr w.heap.size (fun _ => True) (.slice (some ad114) x5_2.length co22) x5_2) := ⟨by rw [← hq_]; exact (dR HO_5.out)⟩; have n1_ : Aside0 (Below w.heap.size w wr) := ⟨by rw [← hq_]; exact dB⟩; clear HO_5 HB hq_; have HO_5 := n0_; have HB := n1_; clear n0_ n1_)); have p21 : 0 ≤ (x9_2 : Int) := of_decide_eq_true dS; have q21 : (x9_2 : Int) < ((x5_2.length : Int) : Int) := of_decide_eq_true dS; obtain ⟨go21, co21, eo21, gb21, gl21, cl21, HG21⟩ := Kd.R_form HO_5.out (by omega); (first | cases eo21 | (injection eo21 with ea_ en_ ec_; (first | subst ea_ | (injection ea_ with ea_; subst ea_)); subst ec_; clear en_)); have GB21 := Aside0.mk gb21; have GG21 := Aside0.mk HG21; clear gb21 gl21 HG21; (first | simp only [add_plain] at hx114_0 | skip); obtain ⟨hx21_0, hf21_0⟩ := Kd.R_celln 0 HO_5.out (x9_2 : Int) p21 q21; replace p21 := eq_true p21; replace q21 := eq_true q21; obtain ⟨hy23_, hz23_⟩ := Kd.R_celln 0 HO_5.out (x9_2 : Int) (of_decide_eq_true dS) (of_decide_eq_true dS); have HP23 := Kd.R_putg HO_5.out (x9_2 : Int) t115) | ((with_reducible refine gate_store (t := 44) (p := 62) rfl ?_); refine store_event (t := 44) (p := 62) (v := ?vo_w24) (w1 := (wr.setCell ⟨go21, (x9_2 : Int).toNat, none⟩ (.int .u64 t115))) ?hg ?ho ?hn ?hr ?_; (case ho => rfl); (case hg => rfl); (case hn => rfl); (case hr => first | (go_simp; done) | (go_simp; rfl)); intro w24 hw; have hg : wr.grownBy w24 (some go21) := (by rw [hw]; exact HP23.2); have hp_ : Kd.R (Kd.int .u64) 44 w24 w.heap.size (fun _ => True) (.slice (some ⟨go21, 0, none⟩) x5_2.length co22) y117 := (by rw [hw, Ny117.out]; exact HP23.1); clear HP23; replace HO_5 := Aside0.mk (hp_); replace HB := Aside0.mk ((by rw [hw]; exact below_set (HB.out) GB21.out : Below w.heap.size w w24)); clear hg hw hp_))
         go_roundg k2
         case measure => have := HK1.out; have := HK2.out; omega
         case rel => exact ⟨(y117), (t116), (wrap64 (x9_2 + 1)), dF, dF, H', ⟨by have := HK1.out; have := HK2.out; omega⟩, ⟨dR HO_5.out⟩, ⟨dB⟩⟩
        ·rw [if_neg c19] at H
         exact absurd H (by simp)
       ·rw [if_neg c18] at H
        exact absurd H (by simp)
      ·rw [if_neg c17] at H
       have c17b0 : decide (0 < x6_2) = false := decide_eq_false c17
       clear c17
       obtain rfl := Option.some.inj H
       go_wp2
       go_ret
       exact ⟨_, by first | rfl | (simp [errW_none, errW_some] <;> rfl) | (simp only [← hji3]; first | rfl | (simp [errW_none, errW_some] <;> rfl)) | (simp [*, errW_none, errW_some] <;> rfl), dR HO_5.out, dB⟩
theorem rd_eq (xs : List Int) (n : Nat) : rd xs (n : Int) = xs.getD n 0 := rfl
theorem nat_sum.l1_eq (N : Int) (m : Nat) (hN : N < 2 ^ (64 * m)) : ∀ (d k : Nat) (os : List Int) (c : Int) (i : Nat), d = m - i → d < k → m < 35184372088833 → i ≤ m → os.length = m → Ws os → 0 ≤ c → c ≤ 1 → nv os + c * 2 ^ (64 * i) = N →
  nat_sum.l1 k os c i = some (wn m N) := by
 intro d
 induction d with
 | zero =>
  intro k os c i hd hk hm hi hl hw hc0 hc1 hv
  obtain ⟨k, rfl⟩ : ∃ j, k = j + 1 := ⟨k - 1, by omega⟩
  obtain rfl : i = m := by omega
  have hn := nv_nonneg hw
  have hc : c = 0 := by
   apply Classical.byContradiction
   intro h
   have : c = 1 := by omega
   subst this
   omega
  subst hc
  simp only [nat_sum.l1]
  rw [if_neg (by omega)]
  congr 1
  rw [Int.zero_mul, Int.add_zero] at hv
  rw [← hv]
  exact eq_wn hw hl
 | succ d ih =>
  intro k os c i hd hk hm hi hl hw hc0 hc1 hv
  obtain ⟨k, rfl⟩ : ∃ j, k = j + 1 := ⟨k - 1, by omega⟩
  simp only [nat_sum.l1]
  by_cases hc : c = 0
  ·subst hc
   rw [if_neg (by omega)]
   congr 1
   rw [Int.zero_mul, Int.add_zero] at hv
   rw [← hv]
   exact eq_wn hw hl
  ·have h1 : c = 1 := by omega
   subst h1
   have ho := hw.getD i
   rw [if_pos (by omega), if_pos (by omega), if_pos (by omega), rd_eq, wide_Add.f_eq ho.1 ho.2 (by omega) (by omega) (by omega) (by omega)]
   simp only [Option.bind_some]
   have ew : wrap64 ((i : Int) + 1) = ((i + 1 : Nat) : Int) := by unfold wrap64; omega
   rw [ew, Int.toNat_natCast]
   clear ew
   refine ih k _ _ _ (by omega) (by omega) hm (by omega) (by rw [List.length_set, hl]) (hw.set _ (by omega) (by omega)) (by omega) (by omega) ?_
   rw [nv_set (by omega), pow64, ← hv]
   generalize (2 : Int) ^ (64 * i) = p
   generalize os.getD i 0 = o at *
   have e : (o + 0 + 1) % 18446744073709551616 + 18446744073709551616 * ((o + 0 + 1) / 18446744073709551616) = o + 1 := by omega
   generalize (o + 0 + 1) % 18446744073709551616 = u at *
   generalize (o + 0 + 1) / 18446744073709551616 = v at *
   obtain rfl : u = o + 1 - 18446744073709551616 * v := by omega
   grind
theorem nat_sum.l0_eq (l1 : List Int) (N : Int) (m : Nat) (hN : N < 2 ^ (64 * m)) (hm : m < 35184372088833) (h1 : Ws l1) (hlm : l1.length < m) : ∀ (d k : Nat) (os : List Int) (c : Int) (i : Nat), d = l1.length - i → d + m + 1 < k → i ≤ l1.length → os.length = m → Ws os → 0 ≤ c → c ≤ 1 → nv os + c * 2 ^ (64 * i) + nv l1 = N + nv (l1.take i) →
  nat_sum.l0 k l1 os c l1 (l1.length : Int) i = some (wn m N) := by
 intro d
 induction d with
 | zero =>
  intro k os c i hd hk hi hl hw hc0 hc1 hv
  obtain ⟨k, rfl⟩ : ∃ j, k = j + 1 := ⟨k - 1, by omega⟩
  obtain rfl : i = l1.length := by omega
  rw [List.take_length] at hv
  simp only [nat_sum.l0]
  rw [if_neg (by omega)]
  exact nat_sum.l1_eq N m hN (m - l1.length) k os c l1.length rfl (by omega) hm (by omega) hl hw hc0 hc1 (by omega)
 | succ d ih =>
  intro k os c i hd hk hi hl hw hc0 hc1 hv
  obtain ⟨k, rfl⟩ : ∃ j, k = j + 1 := ⟨k - 1, by omega⟩
  simp only [nat_sum.l0]
  have ho := hw.getD i
  have hy := h1.getD i
  rw [if_pos (by omega), if_pos (by omega), if_pos (by omega), if_pos (by omega), rd_eq, rd_eq, wide_Add.f_eq ho.1 ho.2 hy.1 hy.2 hc0 hc1]
  simp only [Option.bind_some]
  have ew : wrap64 ((i : Int) + 1) = ((i + 1 : Nat) : Int) := by unfold wrap64; omega
  rw [ew, Int.toNat_natCast]
  clear ew
  refine ih k _ _ _ (by omega) (by omega) (by omega) (by rw [List.length_set, hl]) (hw.set _ (by omega) (by omega)) (by omega) (by omega) ?_
  rw [nv_set (by omega), pow64, nv_take_succ (by omega)]
  generalize (2 : Int) ^ (64 * i) = p at *
  generalize os.getD i 0 = o at *
  generalize l1.getD i 0 = y at *
  have e : (o + y + c) % 18446744073709551616 + 18446744073709551616 * ((o + y + c) / 18446744073709551616) = o + y + c := by omega
  generalize (o + y + c) % 18446744073709551616 = u at *
  generalize (o + y + c) / 18446744073709551616 = v at *
  obtain rfl : u = o + y + c - 18446744073709551616 * v := by omega
  grind
theorem nat_sum.go {l0 l1 : List Int} (h0 : Ws l0) (h1 : Ws l1) (hl : l1.length ≤ l0.length) (hb : l0.length < 35184372088832) :
  ∃ k, nat_sum.l0 k l1 (l0 ++ [0]) 0 l1 (l1.length : Int) 0 = some (wn (l0.length + 1) (nv l0 + nv l1)) := by
 have e0 := nv_lt h0
 have e1 := nv_lt h1
 have ep : (2 : Int) ^ (64 * l1.length) ≤ 2 ^ (64 * l0.length) := by
  rw [p2cast, p2cast]; exact Int.ofNat_le.2 (Nat.pow_le_pow_right (by omega) (by omega))
 have hp := pow64 l0.length
 have hp0 := two_pow_pos (64 * l0.length)
 refine ⟨l1.length + (l0.length + 1) + 2, ?_⟩
 refine nat_sum.l0_eq l1 _ (l0.length + 1) (by omega) (by omega) h1 (by omega) l1.length _ (l0 ++ [0]) 0 0 (by omega) (by omega) (by omega) (by simp) (h0.append (Ws.cons (by omega) (by omega) Ws.nil)) (by omega) (by omega) ?_
 rw [nv_append]
 simp [nv]
theorem nat_sum.calls (A0 : Option Addr) (c0 : Nat) (l0 : List Int) (A1 : Option Addr) (c1 : Nat) (l1 : List Int) (r : List Int) (w : World) (hr0 : Kd.C (Kd.int .u64) w A0 l0.length l0) (hc0 : l0.length ≤ c0) (hr1 : Kd.C (Kd.int .u64) w A1 l1.length l1) (hc1 : l1.length ≤ c1) (h : nat_sum.f l0 l1 = some r) :
  Calls Try.prog 57 #[.slice A0 l0.length c0, .slice A1 l1.length c1] w fun e w' => ∃ v0_ : Value, e = .returned (v0_) ∧ Kd.R (Kd.int .u64) 44 w' w.heap.size (fun _ => True) v0_ r ∧ Below w.heap.size w w' := by
 unfold nat_sum.f at h
 split at h
 case isFalse => cases h
 rename_i hh
 rw [wsB_iff, wsB_iff] at hh
 obtain ⟨h0, h1, hb0, hb1⟩ := hh
 injection h with h
 subst h
 by_cases hl : l1.length ≤ l0.length
 ·obtain ⟨k, hk⟩ := nat_sum.go h0 h1 hl hb0
  rw [Nat.max_eq_left hl]
  exact nat_sum.coreA k A0 c0 l0 A1 c1 l1 _ w hr0 hr1 hb0 (decide_eq_false (by omega)) hk
 ·obtain ⟨k, hk⟩ := nat_sum.go h1 h0 (by omega) hb1
  rw [Nat.max_eq_right (by omega), Int.add_comm]
  exact nat_sum.coreB k A1 c1 l1 A0 c0 l0 _ w hr1 hr0 hb1 (decide_eq_true (by omega)) hk
def nat_Add.f (k : Nat) (l0 : List Int) (l1 : List Int) : Option (List Int × Int) := (nat_sum.f l0 l1).bind fun t292 => ((nat_bound.f k t292).bind fun bt295 => (some (bt295.1, bt295.2)))
theorem nat_Add.mono : ∀ a0 a1 k, LeO (nat_Add.f k a0 a1) (nat_Add.f (k + 1) a0 a1) := by
 intro a0 a1 k
 unfold nat_Add.f
 have m0_ := nat_bound.mono
 exact mX
set_option maxHeartbeats 8000000 in
set_option maxRecDepth 100000 in
theorem nat_Add.calls (k : Nat) (A0 : Option Addr) (c0 : Nat) (l0 : List Int) (A1 : Option Addr) (c1 : Nat) (l1 : List Int) (r1 : List Int) (r2 : Int) (w : World) (hr0 : Kd.C (Kd.int .u64) w A0 l0.length l0) (hc0 : l0.length ≤ c0) (hr1 : Kd.C (Kd.int .u64) w A1 l1.length l1) (hc1 : l1.length ≤ c1) (h : nat_Add.f k l0 l1 = some (r1, r2)) :
  Calls Try.prog 38 #[.slice A0 l0.length c0, .slice A1 l1.length c1] w fun e w' => ∃ v0_ : Value, e = .returned (.tuple #[v0_, .int .i64 r2]) ∧ Kd.R (Kd.int .u64) 44 w' w.heap.size (fun _ => True) v0_ r1 ∧ Below w.heap.size w w' := by
 have HR0 := aM hr0
 have HC0 := aM hc0
 clear hr0 hc0
 have HR1 := aM hr1
 have HC1 := aM hc1
 clear hr1 hc1
 have HB := aM (Below.refl w.heap.size w)
 have H := h
 clear h
 unfold nat_Add.f at H
 replace H := oA H
 obtain ⟨t292, A3, H⟩ := H
 (try dsimp only at H)
 replace H := oA H
 obtain ⟨⟨t295, t298⟩, A4, H⟩ := H
 (try dsimp only at H)
 simp only [Option.some.injEq, Prod.mk.injEq] at H
 obtain ⟨rfl, rfl⟩ := H
 go_enter Try.func38, Try.ntmps38
 go_wp2_with (first | ((with_reducible refine gate_callee (f := 57) rfl ?_); refine gL (some 8) Try.func57 #[.slice A0 l0.length c0, .slice A1 l1.length c1] ?_; (with_reducible refine (nat_sum.calls _ _ l0 _ _ l1 t292 _ ?side1 HC0.out ?side3 HC1.out A3.out).mono ?_); (case side1 => exact dC HR0.out); (case side3 => exact dC HR1.out); rintro e w5 ⟨v293, rfl, ho0, hb⟩; refine ⟨_, rfl, ?_⟩; have HO294 := aM (Kd.R_lower ho0 (below_size dB)); replace HB := hS HB.out hb; (try clear hb); (try clear ho0); obtain ⟨Ao6, co6, rfl⟩ := Kd.R_slice HO294.out) | ((with_reducible refine gate_callee (f := 56) rfl ?_); refine gL (some 9) Try.func56 #[.slice Ao6 t292.length co6] ?_; (with_reducible refine (nat_bound.calls k (fun k_ => some k_ = (.slice Ao6 t292.length co6 : Value).ownBlock) (.slice Ao6 t292.length co6) t292 t295 t298 w _ ?side1 ?side2 A4.out).mono ?_); (case side1 => repeat (first | (with_reducible first | exact HB.out | apply below_alloc | apply pw_below_drewN | apply below_drew1) | exact HB.out)); (case side2 => exact Kd.R_tight rfl HO294.out); rintro e w7 ⟨v296, rfl, ho0, hb, hkp⟩; refine ⟨_, rfl, ?_⟩; have HO297 := aM (Kd.R_mono (ok' := fun k_ => True) ho0 (fun k_ hk_ => trivial)); replace HB := aM (hb); clear HO294; (try clear hb); (try clear hkp); (try clear ho0)))
 go_ret2
 exact ⟨_, dE, dR HO297.out, dB⟩
def nat_Sub.l0 : Nat → List Int → List Int → Int → Int → Int → Option (List Int × Int)
 | 0, _, _, _, _, _ => none
 | k + 1, x1, x6, x7, x17, x18 => if x18 < x17 then (if x18 < (x1.length : Int) then (if 0 ≤ x18 then (if x18 < (x6.length : Int) then ((wide_Sub.f (rd x6 x18) (rd x1 x18) x7).bind fun bt305 => (nat_Sub.l0 k x1 (x6.set (x18 : Int).toNat bt305.1) bt305.2 x17 (wrap64 (x18 + 1)))) else (none)) else (none)) else (if 0 ≤ x18 then (if x18 < (x6.length : Int) then ((wide_Sub.f (rd x6 x18) 0 x7).bind fun bt309 => (nat_Sub.l0 k x1 (x6.set (x18 : Int).toNat bt309.1) bt309.2 x17 (wrap64 (x18 + 1)))) else (none)) else (none))) else ((nat_bound.f k x6).bind fun bt312 => (some (bt312.1, bt312.2)))
def nat_Sub.f (k : Nat) (l0 : List Int) (l1 : List Int) : Option (List Int × Int) := (nat_Cmp.f k l0 l1).bind fun t299 => (if t299 < 0 then (some (([] : List Int), 20)) else ((nat_Norm.f l0).bind fun t300 => (nat_Sub.l0 k l1 t300 0 (t300.length : Int) 0)))
theorem nat_Sub.mono_l : ∀ k, (∀ y0 y1 y2 y3 y4, LeO (nat_Sub.l0 k y0 y1 y2 y3 y4) (nat_Sub.l0 (k + 1) y0 y1 y2 y3 y4))
 | 0 => fun _ _ _ _ _ r h => by simp [nat_Sub.l0] at h
 | k + 1 => by
  have ih0 := nat_Sub.mono_l k
  ·intro y0 y1 y2 y3 y4
   unfold nat_Sub.l0
   have m0_ := nat_Cmp.mono
   have m1_ := nat_bound.mono
   exact mX
theorem nat_Sub.mono : ∀ a0 a1 k, LeO (nat_Sub.f k a0 a1) (nat_Sub.f (k + 1) a0 a1) := by
 intro a0 a1 k
 have ih0 := nat_Sub.mono_l k
 unfold nat_Sub.f
 have m0_ := nat_Cmp.mono
 have m1_ := nat_bound.mono
 exact mX
set_option maxHeartbeats 8000000 in
set_option maxRecDepth 100000 in
theorem nat_Sub.calls (k : Nat) (A0 : Option Addr) (c0 : Nat) (l0 : List Int) (A1 : Option Addr) (c1 : Nat) (l1 : List Int) (r1 : List Int) (r2 : Int) (w : World) (hr0 : Kd.C (Kd.int .u64) w A0 l0.length l0) (hc0 : l0.length ≤ c0) (hr1 : Kd.C (Kd.int .u64) w A1 l1.length l1) (hc1 : l1.length ≤ c1) (h : nat_Sub.f k l0 l1 = some (r1, r2)) :
  Calls Try.prog 43 #[.slice A0 l0.length c0, .slice A1 l1.length c1] w fun e w' => ∃ v0_ : Value, e = .returned (.tuple #[v0_, .int .i64 r2]) ∧ Kd.R (Kd.int .u64) 44 w' w.heap.size (fun _ => True) v0_ r1 ∧ Below w.heap.size w w' := by
 have HR0 := aM hr0
 have HC0 := aM hc0
 clear hr0 hc0
 have HR1 := aM hr1
 have HC1 := aM hc1
 clear hr1 hc1
 have HB := aM (Below.refl w.heap.size w)
 have H := h
 clear h
 unfold nat_Sub.f at H
 replace H := oA H
 obtain ⟨t299, A3, H⟩ := H
 (try dsimp only at H)
 by_cases c4 : t299 < 0
 ·rw [if_pos c4] at H
  have c4b0 := decide_eq_true c4
  clear c4
  simp only [Option.some.injEq, Prod.mk.injEq] at H
  obtain ⟨rfl, rfl⟩ := H
  go_enter Try.func43, Try.ntmps43
  go_wp2_with (first | ((with_reducible refine gate_callee (f := 32) rfl ?_); refine gL (some 12) Try.func32 #[.slice A0 l0.length c0, .slice A1 l1.length c1] ?_; (with_reducible refine (nat_Cmp.calls k _ _ l0 _ _ l1 t299 _ ?side1 HC0.out ?side3 HC1.out A3.out).mono ?_); (case side1 => exact dC HR0.out); (case side3 => exact dC HR1.out); rintro e w' ⟨rfl, ⟨nd, rfl⟩⟩; refine ⟨_, rfl, ?_⟩))
  go_ret2
  exact ⟨_, dE, by first | exact Kd.R_nil _ _ _ _ _ | exact Kd.N_nil _ _ _ _ _ | exact Kd.V_nil _ _ _ _ _ | exact Kd.Q_nil _ _ _ _ _ | exact Kd.S_nil _ _ _ _ _, dB⟩
 ·rw [if_neg c4] at H
  have c4b0 := decide_eq_false c4
  clear c4
  replace H := oA H
  obtain ⟨t300, A5, H⟩ := H
  (try dsimp only at H)
  have H' := aM H
  clear H
  go_enter Try.func43, Try.ntmps43
  go_wp2_with (first | ((with_reducible refine gate_callee (f := 32) rfl ?_); refine gL (some 12) Try.func32 #[.slice A0 l0.length c0, .slice A1 l1.length c1] ?_; (with_reducible refine (nat_Cmp.calls k _ _ l0 _ _ l1 t299 _ ?side1 HC0.out ?side3 HC1.out A3.out).mono ?_); (case side1 => exact dC HR0.out); (case side3 => exact dC HR1.out); rintro e w' ⟨rfl, ⟨nd, rfl⟩⟩; refine ⟨_, rfl, ?_⟩) | ((with_reducible refine gate_callee (f := 46) rfl ?_); refine gL (some 15) Try.func46 #[.slice A0 l0.length c0] ?_; (with_reducible refine (nat_Norm.calls _ _ l0 t300 _ ?side1 HC0.out A5.out).mono ?_); (case side1 => exact dC HR0.out); rintro e w6 ⟨v301, rfl, ho0, hb⟩; refine ⟨_, rfl, ?_⟩; have HO302 := aM (Kd.R_lower ho0 (below_size dB)); replace HB := hS HB.out hb; (try clear hb); (try clear ho0); obtain ⟨Ao7, co7, rfl⟩ := Kd.R_slice HO302.out))
  go_loopg [7, 18] k (fun kq v7 v18 w' => ∃ (x6_1 : List Int) (x7_1 : Int) (x18_1 : Int), v7 = .int .u64 x7_1 ∧ v18 = .int .i64 x18_1 ∧ Aside0 (nat_Sub.l0 kq l1 x6_1 x7_1 (t300.length : Int) x18_1 = some (r1, r2)) ∧ Aside0 (kq ≤ k) ∧ Aside0 (Kd.R (Kd.int .u64) 44 w' w.heap.size (fun _ => True) (.slice Ao7 t300.length co7) x6_1) ∧ Aside0 (Below w.heap.size w w'))
  case atStart => exact ⟨(t300), (0), (0), dF, dF, H', ⟨Nat.le_refl _⟩, ⟨dR HO302.out⟩, ⟨dB⟩⟩
  case round =>
   clear H'
   try clear c1
   try clear c4
   try clear c4b0
   obtain ⟨x6_1, x7_1, x18_1, rfl, rfl, HA, HK1, HO_6, HB⟩ := hrel
   have hl6_1 := (Kd.R_reads' HO_6.out).1
   rw [hl6_1] at HO_6
   (try simp only [hl6_1])
   cases gk with
   | zero => exact absurd HA.out (by simp [nat_Sub.l0])
   | succ k1 =>
    have H := HA.out
    clear HA
    simp only [nat_Sub.l0] at H
    by_cases c8 : x18_1 < (t300.length : Int)
    ·rw [if_pos c8] at H
     have c8b0 := decide_eq_true c8
     clear c8
     by_cases c9 : x18_1 < (l1.length : Int)
     ·rw [if_pos c9] at H
      have c9b0 := decide_eq_true c9
      clear c9
      replace H := nO H
      obtain ⟨c10, H⟩ := H
      have c10b0 : decide (0 ≤ x18_1) = true := decide_eq_true c10
      clear c10
      replace H := nO H
      obtain ⟨c11, H⟩ := H
      have c11b0 := decide_eq_true c11
      clear c11
      replace H := oA H
      obtain ⟨⟨t305, t306⟩, A12, H⟩ := H
      (try dsimp only at H)
      obtain ⟨y307, hy307⟩ : ∃ y_ : List Int, y_ = (x6_1.set (x18_1 : Int).toNat t305) := ⟨_, rfl⟩
      replace H : (nat_Sub.l0 k1 l1 y307 t306 (t300.length : Int) (wrap64 (x18_1 + 1))) = some (r1, r2) := by first | (rw [hy307]; with_reducible exact H) | (have H2_ := (Option.bind_some _ _).symm.trans H; rw [hy307]; with_reducible exact H2_) | (have H2_ := (Option.bind_some _ _).symm.trans H; with_reducible exact H2_) | with_reducible exact H | (rw [hy307]; exact H) | exact H
      have Ny307 := aM hy307
      clear hy307
      have H' := aM H
      clear H
      have p303 : 0 ≤ (x18_1 : Int) := of_decide_eq_true dS
      have q303 : x18_1 < (l1.length : Int) := of_decide_eq_true dS
      obtain ⟨ad303, e303, hx303_0⟩ := Kd.at_int HR1.out x18_1 p303 q303
      cases e303
      replace hx303_0 := (HB.out.cell (World.block_lt_of_cell? w _ hx303_0)).trans hx303_0
      replace p303 := eq_true p303
      replace q303 := eq_true q303
      have p304 : 0 ≤ (x18_1 : Int) := of_decide_eq_true dS
      have q304 : x18_1 < (x6_1.length : Int) := of_decide_eq_true dS
      obtain ⟨ad304, e304, hx304_0⟩ := Kd.at_int (Kd.R_reads' HO_6.out).2.2 x18_1 p304 q304
      cases e304
      replace p304 := eq_true p304
      replace q304 := eq_true q304
      go_wp2_with (first | ((with_reducible refine gate_callee (f := 58) rfl ?_); refine gL (some 38) Try.func58 #[.int .u64 (rd x6_1 x18_1), .int .u64 (rd l1 x18_1), .int .u64 x7_1] ?_; (with_reducible refine (wide_Sub.calls (rd x6_1 x18_1) (rd l1 x18_1) x7_1 t305 t306 _ A12.out).mono ?_); rintro e w' ⟨rfl, ⟨nd, rfl⟩⟩; refine ⟨_, rfl, ?_⟩; (try (rw [drewN_self wr]; generalize hq_ : World.drewN wr _ = wr; have n0_ : Aside0 (Kd.R (Kd.int .u64) 44 wr w.heap.size (fun _ => True) (.slice (some ad304) x6_1.length co7) x6_1) := ⟨by rw [← hq_]; exact (dR HO_6.out)⟩; have n1_ : Aside0 (Below w.heap.size w wr) := ⟨by rw [← hq_]; exact dB⟩; clear HO_6 HB hq_; have HO_6 := n0_; have HB := n1_; clear n0_ n1_)); have p13 : 0 ≤ (x18_1 : Int) := of_decide_eq_true dS; have q13 : (x18_1 : Int) < ((x6_1.length : Int) : Int) := of_decide_eq_true dS; obtain ⟨go13, co13, eo13, gb13, gl13, cl13, HG13⟩ := Kd.R_form HO_6.out (by omega); (first | cases eo13 | (injection eo13 with ea_ en_ ec_; (first | subst ea_ | (injection ea_ with ea_; subst ea_)); subst ec_; clear en_)); have GB13 := aM gb13; have GG13 := aM HG13; clear gb13 gl13 HG13; (first | simp only [add_plain] at hx304_0 | skip); obtain ⟨hx13_0, hf13_0⟩ := Kd.R_celln 0 HO_6.out (x18_1 : Int) p13 q13; replace p13 := eq_true p13; replace q13 := eq_true q13; obtain ⟨hy14_, hz14_⟩ := Kd.R_celln 0 HO_6.out (x18_1 : Int) (of_decide_eq_true dS) (of_decide_eq_true dS); have HP14 := Kd.R_putg HO_6.out (x18_1 : Int) t305) | ((with_reducible refine gate_store (t := 44) (p := 41) rfl ?_); refine store_event (t := 44) (p := 41) (v := ?vo_w15) (w1 := (wr.setCell ⟨go13, (x18_1 : Int).toNat, none⟩ (.int .u64 t305))) ?hg ?ho ?hn ?hr ?_; (case ho => rfl); (case hg => rfl); (case hn => rfl); (case hr => first | (go_simp; done) | (go_simp; rfl)); intro w15 hw; have hg : wr.grownBy w15 (some go13) := (by rw [hw]; exact HP14.2); have hp_ : Kd.R (Kd.int .u64) 44 w15 w.heap.size (fun _ => True) (.slice (some ⟨go13, 0, none⟩) x6_1.length co7) y307 := (by rw [hw, Ny307.out]; exact HP14.1); clear HP14; replace HO_6 := aM (hp_); replace HB := aM ((by rw [hw]; exact below_set (HB.out) GB13.out : Below w.heap.size w w15)); clear hg hw hp_))
      (try simp only [← hl6_1])
      go_roundg k1
      case measure => have := HK1.out; omega
      case rel => exact ⟨(y307), (t306), (wrap64 (x18_1 + 1)), dF, dF, H', ⟨by have := HK1.out; omega⟩, ⟨by (try simp only [hl6_1]); (with_reducible repeat (first | apply Kd.R_alloc | apply Kd.R_drewN | apply Kd.R_drew)); exact HO_6.out⟩, ⟨dB⟩⟩
     ·rw [if_neg c9] at H
      have c9b0 := decide_eq_false c9
      clear c9
      replace H := nO H
      obtain ⟨c16, H⟩ := H
      have c16b0 : decide (0 ≤ x18_1) = true := decide_eq_true c16
      clear c16
      replace H := nO H
      obtain ⟨c17, H⟩ := H
      have c17b0 := decide_eq_true c17
      clear c17
      replace H := oA H
      obtain ⟨⟨t309, t310⟩, A18, H⟩ := H
      (try dsimp only at H)
      obtain ⟨y311, hy311⟩ : ∃ y_ : List Int, y_ = (x6_1.set (x18_1 : Int).toNat t309) := ⟨_, rfl⟩
      replace H : (nat_Sub.l0 k1 l1 y311 t310 (t300.length : Int) (wrap64 (x18_1 + 1))) = some (r1, r2) := by first | (rw [hy311]; with_reducible exact H) | (have H2_ := (Option.bind_some _ _).symm.trans H; rw [hy311]; with_reducible exact H2_) | (have H2_ := (Option.bind_some _ _).symm.trans H; with_reducible exact H2_) | with_reducible exact H | (rw [hy311]; exact H) | exact H
      have Ny311 := aM hy311
      clear hy311
      have H' := aM H
      clear H
      have p308 : 0 ≤ (x18_1 : Int) := of_decide_eq_true dS
      have q308 : x18_1 < (x6_1.length : Int) := of_decide_eq_true dS
      obtain ⟨ad308, e308, hx308_0⟩ := Kd.at_int (Kd.R_reads' HO_6.out).2.2 x18_1 p308 q308
      cases e308
      replace p308 := eq_true p308
      replace q308 := eq_true q308
      go_wp2_with (first | ((with_reducible refine gate_callee (f := 58) rfl ?_); refine gL (some 38) Try.func58 #[.int .u64 (rd x6_1 x18_1), .int .u64 0, .int .u64 x7_1] ?_; (with_reducible refine (wide_Sub.calls (rd x6_1 x18_1) 0 x7_1 t309 t310 _ A18.out).mono ?_); rintro e w' ⟨rfl, ⟨nd, rfl⟩⟩; refine ⟨_, rfl, ?_⟩; (try (rw [drewN_self wr]; generalize hq_ : World.drewN wr _ = wr; have n0_ : Aside0 (Kd.R (Kd.int .u64) 44 wr w.heap.size (fun _ => True) (.slice (some ad308) x6_1.length co7) x6_1) := ⟨by rw [← hq_]; exact (dR HO_6.out)⟩; have n1_ : Aside0 (Below w.heap.size w wr) := ⟨by rw [← hq_]; exact dB⟩; clear HO_6 HB hq_; have HO_6 := n0_; have HB := n1_; clear n0_ n1_)); have p19 : 0 ≤ (x18_1 : Int) := of_decide_eq_true dS; have q19 : (x18_1 : Int) < ((x6_1.length : Int) : Int) := of_decide_eq_true dS; obtain ⟨go19, co19, eo19, gb19, gl19, cl19, HG19⟩ := Kd.R_form HO_6.out (by omega); (first | cases eo19 | (injection eo19 with ea_ en_ ec_; (first | subst ea_ | (injection ea_ with ea_; subst ea_)); subst ec_; clear en_)); have GB19 := aM gb19; have GG19 := aM HG19; clear gb19 gl19 HG19; (first | simp only [add_plain] at hx308_0 | skip); obtain ⟨hx19_0, hf19_0⟩ := Kd.R_celln 0 HO_6.out (x18_1 : Int) p19 q19; replace p19 := eq_true p19; replace q19 := eq_true q19; obtain ⟨hy20_, hz20_⟩ := Kd.R_celln 0 HO_6.out (x18_1 : Int) (of_decide_eq_true dS) (of_decide_eq_true dS); have HP20 := Kd.R_putg HO_6.out (x18_1 : Int) t309) | ((with_reducible refine gate_store (t := 44) (p := 41) rfl ?_); refine store_event (t := 44) (p := 41) (v := ?vo_w21) (w1 := (wr.setCell ⟨go19, (x18_1 : Int).toNat, none⟩ (.int .u64 t309))) ?hg ?ho ?hn ?hr ?_; (case ho => rfl); (case hg => rfl); (case hn => rfl); (case hr => first | (go_simp; done) | (go_simp; rfl)); intro w21 hw; have hg : wr.grownBy w21 (some go19) := (by rw [hw]; exact HP20.2); have hp_ : Kd.R (Kd.int .u64) 44 w21 w.heap.size (fun _ => True) (.slice (some ⟨go19, 0, none⟩) x6_1.length co7) y311 := (by rw [hw, Ny311.out]; exact HP20.1); clear HP20; replace HO_6 := aM (hp_); replace HB := aM ((by rw [hw]; exact below_set (HB.out) GB19.out : Below w.heap.size w w21)); clear hg hw hp_))
      (try simp only [← hl6_1])
      go_roundg k1
      case measure => have := HK1.out; omega
      case rel => exact ⟨(y311), (t310), (wrap64 (x18_1 + 1)), dF, dF, H', ⟨by have := HK1.out; omega⟩, ⟨by (try simp only [hl6_1]); (with_reducible repeat (first | apply Kd.R_alloc | apply Kd.R_drewN | apply Kd.R_drew)); exact HO_6.out⟩, ⟨dB⟩⟩
    ·rw [if_neg c8] at H
     have c8b0 := decide_eq_false c8
     try have c8x0 : decide (x18_1 < (x6_1.length : Int)) = false := by first | (rw [hl6_1]; exact c8b0) | (rw [← hl6_1]; exact c8b0)
     clear c8
     replace H := oA H
     obtain ⟨⟨t312, t315⟩, A22, H⟩ := H
     (try dsimp only at H)
     simp only [Option.some.injEq, Prod.mk.injEq] at H
     obtain ⟨rfl, rfl⟩ := H
     go_wp2_with (first | ((with_reducible refine gate_callee (f := 56) rfl ?_); refine gL (some 44) Try.func56 #[.slice Ao7 x6_1.length co7] ?_; (with_reducible refine (nat_bound.calls k1 (fun k_ => some k_ = (.slice Ao7 x6_1.length co7 : Value).ownBlock) (.slice Ao7 x6_1.length co7) x6_1 t312 t315 w _ ?side1 ?side2 A22.out).mono ?_); (case side1 => repeat (first | (with_reducible first | exact HB.out | apply below_alloc | apply pw_below_drewN | apply below_drew1) | exact HB.out)); (case side2 => exact Kd.R_tight rfl HO_6.out); rintro e w23 ⟨v313, rfl, ho0, hb, hkp⟩; refine ⟨_, rfl, ?_⟩; have HO314 := aM (Kd.R_mono (ok' := fun k_ => True) ho0 (fun k_ hk_ => trivial)); replace HB := aM (hb); clear HO_6; (try clear hb); (try clear hkp); (try clear ho0)))
     go_ret2
     exact ⟨_, dE, dR HO314.out, dB⟩
end Go.Proofs.Ytiogfeeaepkkmaa.PA
