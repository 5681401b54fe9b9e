/- A part of the proof (12). -/
import Derived.Test.YtiogfeeaepkkmaaYKFVKF2
import Derived.Test.YtiogfeeaepkkmaaYKFVKF6
import Derived.Test.YtiogfeeaepkkmaaYKFVKF7
import Derived.Test.YtiogfeeaepkkmaaYKFVKF10
import Derived.Test.YtiogfeeaepkkmaaYKFVKF11
namespace Go.Proofs.Ytiogfeeaepkkmaa.PA
open Go.RowKit Go.Proofs.YtiogfeeaepkkmaaW.PrintWords Go.Proofs.YtiogfeeaepkkmaaW.PrintLast Go.Proofs.YtiogfeeaepkkmaaW.PrintMore
attribute [local go_sem] max2_int min2_int max_two min_two max_three min_three max_four min_four
set_option linter.unusedVariables false
set_option linter.unusedSimpArgs false
def plumblaw05_RatFloor.j0 : Nat → Bool → Bool → List Int → List Int → Option (Bool)
 | 0, _, _, _, _ => none
 | k + 1, x24, x553000, x553001, x553002 => if x24 = true then (none) else ((rat_Floor.f k x553000 x553001 x553002).bind fun bt554 => ((rat_Int.f 1).bind fun bt563 => ((plumblaw05_add.f k bt554.1 bt554.2.1 bt554.2.2.1 bt563.1 bt563.2.1 bt563.2.2).bind fun bt570 => ((rat_Cmp.f k bt554.1 bt554.2.1 bt554.2.2.1 x553000 x553001 x553002).bind fun bt579 => ((rat_Cmp.f k x553000 x553001 x553002 bt570.1 bt570.2.1 bt570.2.2.1).bind fun bt581 => ((rat_Floor.f k bt554.1 bt554.2.1 bt554.2.2.1).bind fun bt583 => (if bt554.2.2.2 = 0 then (if bt570.2.2.2 = true then (if bt579.2 = 0 then (if bt581.2 = 0 then (if bt583.2.2.2 = 0 then ((rat_Check.f k bt554.1 bt554.2.1 bt554.2.2.1).bind fun t592 => (if t592 = 0 then ((plumblaw05_same.f k bt554.2.2.1 (([1] : List Int))).bind fun t596 => (if t596 = true then (if bt579.1 ≤ 0 then (if bt581.1 < 0 then ((plumblaw05_one.f k bt583.1 bt583.2.1 bt583.2.2.1 bt554.1 bt554.2.1 bt554.2.2.1).bind fun t597 => (some t597)) else (none)) else (none)) else (none))) else (none))) else (none)) else (none)) else (none)) else (none)) else (none))))))))
def plumblaw05_RatFloor.f (k : Nat) (a0_0 : Bool) (l0_1 : List Int) (l0_2 : List Int) : Option (Bool) := (plumblaw05_Part_made.f k a0_0 l0_1 l0_2).bind fun bt544 => (if bt544.2.2.2 = true then ((plumblaw05_alive.f k).bind fun t553 => (plumblaw05_RatFloor.j0 k (!t553) bt544.1 bt544.2.1 bt544.2.2.1)) else (none))
def plumblaw05_RatFloor.T5 : Bool × List (List Nat × List Nat) := (true, [([], []), ([], []), ([0, 1, 1], [0, 1]), ([2], [2]), ([3], [3]), ([3], [3]), ([], []), ([6, 4, 2, 0, 1, 2, 3, 4, 6], [4, 6]), ([5, 7, 0, 1, 2, 3, 4, 5, 6, 7], [5])])
def plumblaw05_RatFloor.B5 : List Nat := [0, 0, 3, 7, 15, 15, 0, 95, 255]
theorem plumblaw05_RatFloor.tab5 : rtab .any (opsOf Try.f5 5) = plumblaw05_RatFloor.T5 := by kernel_rfl
theorem plumblaw05_RatFloor.bits5 : waitsOk plumblaw05_RatFloor.T5.2 plumblaw05_RatFloor.B5 = true := by kernel_rfl
set_option maxHeartbeats 8000000 in
set_option maxRecDepth 100000 in
theorem plumblaw05_RatFloor.calls (k : Nat) (a0_0 : Bool) (A0_1 : Option Addr) (c0_1 : Nat) (l0_1 : List Int) (A0_2 : Option Addr) (c0_2 : Nat) (l0_2 : List Int) (r : Bool) (w : World) (hr0_1 : Kd.C (Kd.int .u64) w A0_1 l0_1.length l0_1) (hc0_1 : l0_1.length ≤ c0_1) (hr0_2 : Kd.C (Kd.int .u64) w A0_2 l0_2.length l0_2) (hc0_2 : l0_2.length ≤ c0_2) (h : plumblaw05_RatFloor.f k a0_0 l0_1 l0_2 = some r) :
    Calls Try.prog 5 #[.agg #[.bool a0_0, .slice A0_1 l0_1.length c0_1, .slice A0_2 l0_2.length c0_2]] w fun e w' => e = .returned (.bool r) ∧ Below w.heap.size w w' := by
  have hu24 := Try.underlying24
  have hu25 := Try.underlying25
  have HR0_1 := aM hr0_1
  have HC0_1 := aM hc0_1
  clear hr0_1 hc0_1
  have HR0_2 := aM hr0_2
  have HC0_2 := aM hc0_2
  clear hr0_2 hc0_2
  have HB := aM (Below.refl w.heap.size w)
  have H := h
  clear h
  unfold plumblaw05_RatFloor.f at H
  replace H := oA H
  obtain ⟨⟨t544, t545, t548, t551⟩, A2, H⟩ := H
  (try dsimp only at H)
  have HC3 := aM H
  clear H
  go_enter Try.func5, Try.ntmps5
  go_upto_region 2 with (first | ((with_reducible refine gate_dst (N := 1) rfl ?_); (try (refine gate_guard (by rfl) ?_; dsimp only)); refine bE 1 #[.bool a0_0, .slice A0_1 l0_1.length c0_1, .slice A0_2 l0_2.length c0_2] 24 ?_; intro gb543 hg w4 hbox hb; have BK543 := aM (hbox); have GW543 : Aside0 (w.heap.size ≤ gb543) := gE hg; have GE543 : Aside0 (w.heap.size ≤ gb543) := gE hg; replace HB := hS HB.out hb; clear hb hbox hg; obtain ⟨hcz5_0, hcz5_1, hcz5_2⟩ := cz3 BK543.out; obtain ⟨hfz5_0, hfz5_1, hfz5_2⟩ := fz3 BK543.out) | ((with_reducible refine gate_callee (f := 16) rfl ?_); refine gL (some 16) Try.func16 #[.agg #[.bool a0_0, .slice A0_1 l0_1.length c0_1, .slice A0_2 l0_2.length c0_2]] ?_; (with_reducible refine (plumblaw05_Part_made.calls k a0_0 _ _ l0_1 _ _ l0_2 t544 t545 t548 t551 _ ?side1 HC0_1.out ?side3 HC0_2.out A2.out).mono ?_); (case side1 => exact dC (Kd.C_below HR0_1.out HB.out)); (case side3 => exact dC (Kd.C_below HR0_2.out HB.out)); rintro e w6 ⟨v546, v549, rfl, ho0, ho1, hb⟩; refine ⟨_, rfl, ?_⟩; have HO547 := aM (Kd.R_lower ho0 (below_size eB)); have HO550 := aM (Kd.R_lower ho1 (below_size eB)); replace BK543 := bB BK543.out hb; replace HB := hS HB.out hb; (try clear hb); (try clear ho0); (try clear ho1)) | ((with_reducible refine gate_dst (N := 3) rfl ?_); (try (refine gate_guard (by rfl) ?_; dsimp only)); refine bE 3 #[.bool false, .slice none 0 0, .slice none 0 0] 25 ?_; intro gb552 hg w7 hbox hb; replace HO547 := oB HO547.out hb; replace HO550 := oB HO550.out hb; have BK552 := aM (hbox); have GW552 : Aside0 (w.heap.size ≤ gb552) := gE hg; have GE552 : Aside0 (w.heap.size ≤ gb552) := gE hg; replace HB := hS HB.out hb; have NB543_552 := nL hg BK543.out; have NB552_543 := nG hg BK543.out; replace BK543 := bB BK543.out hb; clear hb hbox hg; have hnb8 := NB552_543.out; have hnc8 := NB543_552.out; obtain ⟨hcz9_0, hcz9_1, hcz9_2⟩ := cz3 BK552.out; obtain ⟨hfz9_0, hfz9_1, hfz9_2⟩ := fz3 BK552.out; obtain ⟨Ao10, co10, rfl⟩ := Kd.R_slice HO547.out; obtain ⟨Ao11, co11, rfl⟩ := Kd.R_slice HO550.out))
  (try simp only [Act.put, List.setIfInBounds_toArray, List.set_cons_zero, List.set_cons_succ])
  go_cut [24] (fun v24 wc => ∃ (kq : Nat) (x24_2 : Bool), v24 = .bool x24_2 ∧ Aside0 (plumblaw05_RatFloor.j0 kq x24_2 t544 t545 t548 = some r) ∧ Aside0 (kq ≤ k) ∧ Aside0 (Kd.R (Kd.int .u64) 44 wc w.heap.size (fun k_ => oN Ao11 t548 co11 k_) (.slice Ao10 t545.length co10) t545) ∧ Aside0 (Kd.R (Kd.int .u64) 44 wc w.heap.size (fun k_ => oN Ao10 t545 co10 k_) (.slice Ao11 t548.length co11) t548) ∧ Aside0 (wc.heap[gb543]? = some (.cells #[.bool a0_0, (.slice A0_1 l0_1.length c0_1), (.slice A0_2 l0_2.length c0_2)] 24 (0, 0))) ∧ Aside0 (wc.heap[gb552]? = some (.cells #[.bool t544, (.slice Ao10 t545.length co10), (.slice Ao11 t548.length co11)] 25 (0, 0))) ∧ Aside0 (Below w.heap.size w wc))
  case first =>
   as_aux_lemma =>
    have H := HC3.out
    clear HC3
    replace H := nO H
    obtain ⟨rfl, H⟩ := H
    (try dsimp only at H)
    replace H := oA H
    obtain ⟨t553, A13, H⟩ := H
    (try dsimp only at H)
    have H' := aM H
    clear H
    go_wp2_with (first | (go_at_call 17; (with_reducible refine (plumblaw05_alive.calls k  t553 _ A13.out).mono ?_); rintro e w14 ⟨rfl, hb⟩; replace HO547 := oX HO547.out BK552.out hb; replace HO550 := oX HO550.out BK552.out hb; replace BK543 := aM (blk_below (g := gb543) (o := .cells #[.bool a0_0, .slice A0_1 l0_1.length c0_1, .slice A0_2 l0_2.length c0_2] 24 (0, 0)) (dQ1 BK543.out NB543_552.out) hb); replace BK552 := aM (blk_below (g := gb552) (o := .cells #[.bool t544, .slice Ao10 t545.length co10, .slice Ao11 t548.length co11] 25 (0, 0)) (dP BK552.out) hb); replace HB := hS HB.out hb; (try clear hb)))
    go_meet
    case rel => exact ⟨_, (!t553), dF, H', ⟨dN⟩, ⟨dR HO547.out⟩, ⟨dR HO550.out⟩, ⟨dK BK543.out⟩, ⟨dK BK552.out⟩, ⟨eB⟩⟩
  case rest =>
   as_aux_lemma =>
    clear HC3
    try clear hcz5_0 hcz5_1 hcz5_2
    try clear hcz9_0 hcz9_1 hcz9_2
    try clear hfz5_0 hfz5_1 hfz5_2
    try clear hfz9_0 hfz9_1 hfz9_2
    obtain ⟨kq, x24_2, rfl, HA, HJ2, HO_553001, HO_553002, BK543, BK552, HB⟩ := hcut
    cases kq with
    | zero => exact absurd HA.out (by simp [plumblaw05_RatFloor.j0])
    | succ kj2 =>
      have H := HA.out
      clear HA
      simp only [plumblaw05_RatFloor.j0] at H
      replace H := nR H
      obtain ⟨rfl, H⟩ := H
      (try dsimp only at H)
      replace H := oA H
      obtain ⟨⟨t554, t555, t558, t561⟩, A16, H⟩ := H
      (try dsimp only at H)
      replace H := oA H
      obtain ⟨⟨t563, t564, t567⟩, A17, H⟩ := H
      (try dsimp only at H)
      replace H := oA H
      obtain ⟨⟨t570, t571, t574, t577⟩, A18, H⟩ := H
      (try dsimp only at H)
      replace H := oA H
      obtain ⟨⟨t579, t580⟩, A19, H⟩ := H
      (try dsimp only at H)
      replace H := oA H
      obtain ⟨⟨t581, t582⟩, A20, H⟩ := H
      (try dsimp only at H)
      replace H := oA H
      obtain ⟨⟨t583, t584, t587, t590⟩, A21, H⟩ := H
      (try dsimp only at H)
      replace H := nO H
      obtain ⟨c22, H⟩ := H
      obtain ⟨c22b0, c22b1⟩ := bT c22
      clear c22
      replace H := nO H
      obtain ⟨rfl, H⟩ := H
      (try dsimp only at H)
      replace H := nO H
      obtain ⟨c24, H⟩ := H
      obtain ⟨c24b0, c24b1⟩ := bT c24
      clear c24
      replace H := nO H
      obtain ⟨c25, H⟩ := H
      obtain ⟨c25b0, c25b1⟩ := bT c25
      clear c25
      replace H := nO H
      obtain ⟨c26, H⟩ := H
      obtain ⟨c26b0, c26b1⟩ := bT c26
      clear c26
      replace H := oA H
      obtain ⟨t592, A27, H⟩ := H
      (try dsimp only at H)
      replace H := nO H
      obtain ⟨c28, H⟩ := H
      obtain ⟨c28b0, c28b1⟩ := bT c28
      clear c28
      obtain ⟨y593, hy593⟩ : ∃ y_ : List Int, y_ = (([1] : List Int)) := ⟨_, rfl⟩
      replace H : ((plumblaw05_same.f kj2 t558 y593).bind fun t596 => (if t596 = true then (if t579 ≤ 0 then (if t581 < 0 then ((plumblaw05_one.f kj2 t583 t584 t587 t554 t555 t558).bind fun t597 => (some t597)) else (none)) else (none)) else (none))) = some r := by first | (rw [hy593]; with_reducible exact H) | (have H2_ := (Option.bind_some _ _).symm.trans H; rw [hy593]; with_reducible exact H2_) | (have H2_ := (Option.bind_some _ _).symm.trans H; with_reducible exact H2_) | with_reducible exact H | (rw [hy593]; exact H) | exact H
      have Ny593 := aM hy593
      clear hy593
      replace H := oA H
      obtain ⟨t596, A29, H⟩ := H
      (try dsimp only at H)
      replace H := nO H
      obtain ⟨rfl, H⟩ := H
      (try dsimp only at H)
      replace H := nO H
      obtain ⟨c31, H⟩ := H
      have c31b0 := decide_eq_true c31
      clear c31
      replace H := nO H
      obtain ⟨c32, H⟩ := H
      have c32b0 := decide_eq_true c32
      clear c32
      replace H := oA H
      obtain ⟨t597, A33, H⟩ := H
      (try dsimp only at H)
      obtain rfl := Option.some.inj H
      have hnb34 := NB552_543.out
      have hnc34 := NB543_552.out
      obtain ⟨hcz35_0, hcz35_1, hcz35_2⟩ := cz3 BK552.out
      obtain ⟨hfz35_0, hfz35_1, hfz35_2⟩ := fz3 BK552.out
      try go_wp2_with (first | ((with_reducible refine gate_callee (f := 18) rfl ?_); refine gL (some 27) Try.func18 #[.agg #[.bool t544, .slice Ao10 t545.length co10, .slice Ao11 t548.length co11]] ?_; (with_reducible refine (rat_Floor.calls kj2 t544 _ _ t545 _ _ t548 t554 t555 t558 t561 _ ?side1 (Kd.R_reads' HO_553001.out).2.1 ?side3 (Kd.R_reads' HO_553002.out).2.1 A16.out).mono ?_); (case side1 => exact dC (Kd.R_reads' HO_553001.out).2.2); (case side3 => exact dC (Kd.R_reads' HO_553002.out).2.2); rintro e w36 ⟨v556, v559, rfl, ho0, ho1, hb⟩; refine ⟨_, rfl, ?_⟩; have HO557 := aM (Kd.R_lower (Kd.R_new' (Kd.R_new' ho0 (Kd.R_lt (dR HO_553001.out))) (Kd.R_lt (dR HO_553002.out))) (below_size eB)); have HO560 := aM (Kd.R_lower (Kd.R_new' (Kd.R_new' ho1 (Kd.R_lt (dR HO_553001.out))) (Kd.R_lt (dR HO_553002.out))) (below_size eB)); replace HO_553001 := aM (Kd.R_mono (Kd.R_told (Kd.R_told (Kd.R_old (dR HO_553001.out) hb) (Kd.R_base ho0)) (Kd.R_base ho1)) (fun _ h_ => h_.1)); replace HO_553002 := aM (Kd.R_mono (Kd.R_told (Kd.R_told (Kd.R_old (dR HO_553002.out) hb) (Kd.R_base ho0)) (Kd.R_base ho1)) (fun _ h_ => h_.1)); replace BK543 := bB BK543.out hb; replace BK552 := bB BK552.out hb; replace HB := hS HB.out hb; (try clear hb); (try clear ho0); (try clear ho1)) | ((with_reducible refine gate_dst (N := 5) rfl ?_); (try (refine gate_guard (by rfl) ?_; dsimp only)); refine bE 5 #[.bool false, .slice none 0 0, .slice none 0 0] 25 ?_; intro gb562 hg w37 hbox hb; replace HO_553001 := oB HO_553001.out hb; replace HO_553002 := oB HO_553002.out hb; replace HO557 := oB HO557.out hb; replace HO560 := oB HO560.out hb; have BK562 := aM (hbox); have GW562 : Aside0 (w.heap.size ≤ gb562) := gE hg; have GE562 : Aside0 (w.heap.size ≤ gb562) := gE hg; replace HB := hS HB.out hb; have NB543_562 := nL hg BK543.out; have NB562_543 := nG hg BK543.out; replace BK543 := bB BK543.out hb; have NB552_562 := nL hg BK552.out; have NB562_552 := nG hg BK552.out; replace BK552 := bB BK552.out hb; clear hb hbox hg; have hnb38 := NB562_543.out; have hnc38 := NB543_562.out; have hnb39 := NB562_552.out; have hnc39 := NB552_562.out; obtain ⟨hcz40_0, hcz40_1, hcz40_2⟩ := cz3 BK562.out; obtain ⟨hfz40_0, hfz40_1, hfz40_2⟩ := fz3 BK562.out; obtain ⟨Ao41, co41, rfl⟩ := Kd.R_slice HO557.out; obtain ⟨Ao42, co42, rfl⟩ := Kd.R_slice HO560.out))
      have n0_ : Aside0 (Kd.R (Kd.int .u64) 44 (((w37.setCell ⟨gb562, 0, none⟩ (.bool t554)).setCell ⟨gb562, 1, none⟩ (.slice Ao41 t555.length co41)).setCell ⟨gb562, 2, none⟩ (.slice Ao42 t558.length co42)) w.heap.size (fun k_ => oN Ao11 t548 co11 k_ ∧ oN Ao41 t555 co41 k_ ∧ oN Ao42 t558 co42 k_) (.slice Ao10 t545.length co10) t545) := ⟨by (with_reducible repeat (first | apply Kd.R_alloc | apply Kd.R_drewN | apply Kd.R_drew)); exact Kd.R_mono (Kd.R_far (p := ⟨gb562, 2, none⟩) (Kd.R_far (p := ⟨gb562, 1, none⟩) (Kd.R_far (p := ⟨gb562, 0, none⟩) (Kd.R_types HO_553001.out BK562.out (by decide)) (fun _ hk => hk.2) (.bool t554)) (fun _ hk => hk.2) (.slice Ao41 t555.length co41)) (fun _ hk => hk.2) (.slice Ao42 t558.length co42)) (fun _ hk => ⟨hk.1.1.1, ⟨hk.1.1.2, hk.1.2⟩⟩)⟩
      have n1_ : Aside0 (Kd.R (Kd.int .u64) 44 (((w37.setCell ⟨gb562, 0, none⟩ (.bool t554)).setCell ⟨gb562, 1, none⟩ (.slice Ao41 t555.length co41)).setCell ⟨gb562, 2, none⟩ (.slice Ao42 t558.length co42)) w.heap.size (fun k_ => oN Ao10 t545 co10 k_ ∧ oN Ao41 t555 co41 k_ ∧ oN Ao42 t558 co42 k_) (.slice Ao11 t548.length co11) t548) := ⟨by (with_reducible repeat (first | apply Kd.R_alloc | apply Kd.R_drewN | apply Kd.R_drew)); exact Kd.R_mono (Kd.R_far (p := ⟨gb562, 2, none⟩) (Kd.R_far (p := ⟨gb562, 1, none⟩) (Kd.R_far (p := ⟨gb562, 0, none⟩) (Kd.R_types HO_553002.out BK562.out (by decide)) (fun _ hk => hk.2) (.bool t554)) (fun _ hk => hk.2) (.slice Ao41 t555.length co41)) (fun _ hk => hk.2) (.slice Ao42 t558.length co42)) (fun _ hk => ⟨hk.1.1.1, ⟨hk.1.1.2, hk.1.2⟩⟩)⟩
      have n2_ : Aside0 (Kd.R (Kd.int .u64) 44 (((w37.setCell ⟨gb562, 0, none⟩ (.bool t554)).setCell ⟨gb562, 1, none⟩ (.slice Ao41 t555.length co41)).setCell ⟨gb562, 2, none⟩ (.slice Ao42 t558.length co42)) w.heap.size (fun k_ => oN Ao10 t545 co10 k_ ∧ oN Ao11 t548 co11 k_ ∧ oN Ao42 t558 co42 k_) (.slice Ao41 t555.length co41) t555) := ⟨by (with_reducible repeat (first | apply Kd.R_alloc | apply Kd.R_drewN | apply Kd.R_drew)); exact Kd.R_mono (Kd.R_far (p := ⟨gb562, 2, none⟩) (Kd.R_far (p := ⟨gb562, 1, none⟩) (Kd.R_far (p := ⟨gb562, 0, none⟩) (Kd.R_types HO557.out BK562.out (by decide)) (fun _ hk => hk.2) (.bool t554)) (fun _ hk => hk.2) (.slice Ao41 t555.length co41)) (fun _ hk => hk.2) (.slice Ao42 t558.length co42)) (fun _ hk => ⟨hk.1.1.2, ⟨hk.1.2, hk.1.1.1⟩⟩)⟩
      have n3_ : Aside0 (Kd.R (Kd.int .u64) 44 (((w37.setCell ⟨gb562, 0, none⟩ (.bool t554)).setCell ⟨gb562, 1, none⟩ (.slice Ao41 t555.length co41)).setCell ⟨gb562, 2, none⟩ (.slice Ao42 t558.length co42)) w.heap.size (fun k_ => oN Ao10 t545 co10 k_ ∧ oN Ao11 t548 co11 k_ ∧ oN Ao41 t555 co41 k_) (.slice Ao42 t558.length co42) t558) := ⟨by (with_reducible repeat (first | apply Kd.R_alloc | apply Kd.R_drewN | apply Kd.R_drew)); exact Kd.R_mono (Kd.R_far (p := ⟨gb562, 2, none⟩) (Kd.R_far (p := ⟨gb562, 1, none⟩) (Kd.R_far (p := ⟨gb562, 0, none⟩) (Kd.R_types HO560.out BK562.out (by decide)) (fun _ hk => hk.2) (.bool t554)) (fun _ hk => hk.2) (.slice Ao41 t555.length co41)) (fun _ hk => hk.2) (.slice Ao42 t558.length co42)) (fun _ hk => ⟨hk.1.1.2, ⟨hk.1.2, hk.1.1.1⟩⟩)⟩
      have n4_ : Aside0 ((((w37.setCell ⟨gb562, 0, none⟩ (.bool t554)).setCell ⟨gb562, 1, none⟩ (.slice Ao41 t555.length co41)).setCell ⟨gb562, 2, none⟩ (.slice Ao42 t558.length co42)).heap[gb543]? = some (.cells #[.bool a0_0, .slice A0_1 l0_1.length c0_1, .slice A0_2 l0_2.length c0_2] 24 (0, 0))) := ⟨dQ1 BK543.out NB543_562.out⟩
      have n5_ : Aside0 ((((w37.setCell ⟨gb562, 0, none⟩ (.bool t554)).setCell ⟨gb562, 1, none⟩ (.slice Ao41 t555.length co41)).setCell ⟨gb562, 2, none⟩ (.slice Ao42 t558.length co42)).heap[gb552]? = some (.cells #[.bool t544, .slice Ao10 t545.length co10, .slice Ao11 t548.length co11] 25 (0, 0))) := ⟨dQ1 BK552.out NB552_562.out⟩
      have n6_ : Aside0 ((((w37.setCell ⟨gb562, 0, none⟩ (.bool t554)).setCell ⟨gb562, 1, none⟩ (.slice Ao41 t555.length co41)).setCell ⟨gb562, 2, none⟩ (.slice Ao42 t558.length co42)).heap[gb562]? = some (.cells #[.bool t554, .slice Ao41 t555.length co41, .slice Ao42 t558.length co42] 25 (0, 0))) := ⟨dP BK562.out⟩
      have n7_ : Aside0 (Below w.heap.size w (((w37.setCell ⟨gb562, 0, none⟩ (.bool t554)).setCell ⟨gb562, 1, none⟩ (.slice Ao41 t555.length co41)).setCell ⟨gb562, 2, none⟩ (.slice Ao42 t558.length co42))) := ⟨eB⟩
      (try clear HO_553001)
      (try clear HO_553002)
      (try clear HO557)
      (try clear HO560)
      (try clear BK543)
      (try clear BK552)
      (try clear BK562)
      (try clear HB)
      generalize (((w37.setCell ⟨gb562, 0, none⟩ (.bool t554)).setCell ⟨gb562, 1, none⟩ (.slice Ao41 t555.length co41)).setCell ⟨gb562, 2, none⟩ (.slice Ao42 t558.length co42)) = w43 at n0_ n1_ n2_ n3_ n4_ n5_ n6_ n7_ ⊢
      have HO_553001 := n0_
      have HO_553002 := n1_
      have HO557 := n2_
      have HO560 := n3_
      have BK543 := n4_
      have BK552 := n5_
      have BK562 := n6_
      have HB := n7_
      clear n0_ n1_ n2_ n3_ n4_ n5_ n6_ n7_
      replace HO_553001 := aM (Kd.R_drew HO_553001.out)
      replace HO_553002 := aM (Kd.R_drew HO_553002.out)
      replace HO557 := aM (Kd.R_drew HO557.out)
      replace HO560 := aM (Kd.R_drew HO560.out)
      replace BK543 := aM (blk_drew BK543.out)
      replace BK552 := aM (blk_drew BK552.out)
      replace BK562 := aM (blk_drew BK562.out)
      replace HB := aM (below_drew1 HB.out)
      refine start_ (n := 9) (S := fun w' => w'.cell? ⟨gb562, 0, none⟩ = some (.bool t554) ∧ w'.cell? ⟨gb562, 1, none⟩ = some (.slice Ao41 t555.length co41) ∧ w'.cell? ⟨gb562, 2, none⟩ = some (.slice Ao42 t558.length co42)) (ds := []) #[false, false, false, false, false, false, false, false, false] (by kernel_rfl) rfl rfl (cz3 BK562.out) (fun hHeld => ?_); refine with_tabW plumblaw05_RatFloor.tab5 plumblaw05_RatFloor.bits5 (fun HT_ HW_ => ?_)
      generalize w43.drew = w44 at HO_553001 HO_553002 HO557 HO560 BK543 BK552 BK562 HB hHeld ⊢
      refine take_ (i := 0) (N := some 31) (v := ?_) (a' := ?_) #[true, false, false, false, false, false, false, false, false] rfl rfl (take_ofW HT_.out HW_.out (by kernel_rfl)) (fun _ _ _ h => h) (Or.inl ⟨by rfl, ?_⟩) hHeld ?_ ?_
      rotate_left
      · rintro w' ⟨s0, s1, s2⟩
        go_simp
        with_reducible rfl
      rotate_left
      · simp only [Act.put, List.setIfInBounds_toArray, List.set_cons_zero, List.set_cons_succ, i64_w, i32_w]
        rfl
      refine join_ (σ := Value × Value × Value × Value × Nat) 2 #[true, true, true, true, true, true, true, false, false] (fun s_ => [(32, .agg #[.bool t563, s_.1, s_.2.1]), (33, .tuple #[.agg #[.bool t570, s_.2.2.1, s_.2.2.2.1], .bool true]), (7, .pointer (some ⟨s_.2.2.2.2, 0, none⟩)), (30, .tuple #[.agg #[.bool t570, s_.2.2.1, s_.2.2.2.1], .bool true]), (34, .agg #[.bool t570, s_.2.2.1, s_.2.2.2.1]), (35, .bool true)]) (fun s_ w' => (w'.cell? ⟨gb562, 0, none⟩ = some (.bool t554) ∧ w'.cell? ⟨gb562, 1, none⟩ = some (.slice Ao41 t555.length co41) ∧ w'.cell? ⟨gb562, 2, none⟩ = some (.slice Ao42 t558.length co42)) ∧ (Kd.R (Kd.int .u64) 44 w' w.heap.size (fun k_ => oN Ao42 t558 co42 k_ ∧ some k_ ≠ (s_.1 : Value).ownBlock ∧ some k_ ≠ (s_.2.1 : Value).ownBlock ∧ some k_ ≠ (s_.2.2.1 : Value).ownBlock ∧ some k_ ≠ (s_.2.2.2.1 : Value).ownBlock ∧ oN Ao10 t545 co10 k_ ∧ oN Ao11 t548 co11 k_) (.slice Ao41 t555.length co41) t555) ∧ (Kd.R (Kd.int .u64) 44 w' w.heap.size (fun k_ => oN Ao41 t555 co41 k_ ∧ some k_ ≠ (s_.1 : Value).ownBlock ∧ some k_ ≠ (s_.2.1 : Value).ownBlock ∧ some k_ ≠ (s_.2.2.1 : Value).ownBlock ∧ some k_ ≠ (s_.2.2.2.1 : Value).ownBlock ∧ oN Ao10 t545 co10 k_ ∧ oN Ao11 t548 co11 k_) (.slice Ao42 t558.length co42) t558) ∧ (Kd.R (Kd.int .u64) 44 w' w.heap.size (fun k_ => oN Ao41 t555 co41 k_ ∧ oN Ao42 t558 co42 k_ ∧ some k_ ≠ (s_.2.1 : Value).ownBlock ∧ some k_ ≠ (s_.2.2.1 : Value).ownBlock ∧ some k_ ≠ (s_.2.2.2.1 : Value).ownBlock ∧ oN Ao10 t545 co10 k_ ∧ oN Ao11 t548 co11 k_) s_.1 t564) ∧ (Kd.R (Kd.int .u64) 44 w' w.heap.size (fun k_ => oN Ao41 t555 co41 k_ ∧ oN Ao42 t558 co42 k_ ∧ some k_ ≠ (s_.1 : Value).ownBlock ∧ some k_ ≠ (s_.2.2.1 : Value).ownBlock ∧ some k_ ≠ (s_.2.2.2.1 : Value).ownBlock ∧ oN Ao10 t545 co10 k_ ∧ oN Ao11 t548 co11 k_) s_.2.1 t567) ∧ (Kd.R (Kd.int .u64) 44 w' w.heap.size (fun k_ => oN Ao41 t555 co41 k_ ∧ oN Ao42 t558 co42 k_ ∧ some k_ ≠ (s_.1 : Value).ownBlock ∧ some k_ ≠ (s_.2.1 : Value).ownBlock ∧ some k_ ≠ (s_.2.2.2.1 : Value).ownBlock ∧ oN Ao10 t545 co10 k_ ∧ oN Ao11 t548 co11 k_) s_.2.2.1 t571) ∧ (Kd.R (Kd.int .u64) 44 w' w.heap.size (fun k_ => oN Ao41 t555 co41 k_ ∧ oN Ao42 t558 co42 k_ ∧ some k_ ≠ (s_.1 : Value).ownBlock ∧ some k_ ≠ (s_.2.1 : Value).ownBlock ∧ some k_ ≠ (s_.2.2.1 : Value).ownBlock ∧ oN Ao10 t545 co10 k_ ∧ oN Ao11 t548 co11 k_) s_.2.2.2.1 t574) ∧ (Kd.R (Kd.int .u64) 44 w' w.heap.size (fun k_ => oN Ao41 t555 co41 k_ ∧ oN Ao42 t558 co42 k_ ∧ some k_ ≠ (s_.1 : Value).ownBlock ∧ some k_ ≠ (s_.2.1 : Value).ownBlock ∧ some k_ ≠ (s_.2.2.1 : Value).ownBlock ∧ some k_ ≠ (s_.2.2.2.1 : Value).ownBlock ∧ oN Ao11 t548 co11 k_) (.slice Ao10 t545.length co10) t545) ∧ (Kd.R (Kd.int .u64) 44 w' w.heap.size (fun k_ => oN Ao41 t555 co41 k_ ∧ oN Ao42 t558 co42 k_ ∧ some k_ ≠ (s_.1 : Value).ownBlock ∧ some k_ ≠ (s_.2.1 : Value).ownBlock ∧ some k_ ≠ (s_.2.2.1 : Value).ownBlock ∧ some k_ ≠ (s_.2.2.2.1 : Value).ownBlock ∧ oN Ao10 t545 co10 k_) (.slice Ao11 t548.length co11) t548) ∧ (w'.heap[gb543]? = some (.cells #[.bool a0_0, .slice A0_1 l0_1.length c0_1, .slice A0_2 l0_2.length c0_2] 24 (0, 0))) ∧ (w'.heap[gb552]? = some (.cells #[.bool t544, .slice Ao10 t545.length co10, .slice Ao11 t548.length co11] 25 (0, 0))) ∧ (w'.heap[gb562]? = some (.cells #[.bool t554, .slice Ao41 t555.length co41, .slice Ao42 t558.length co42] 25 (0, 0))) ∧ (w'.heap[s_.2.2.2.2]? = some (.cells #[.bool false, .slice none 0 0, .slice none 0 0] 25 (0, 0))) ∧ (w.heap.size ≤ s_.2.2.2.2) ∧ (w.heap.size ≤ s_.2.2.2.2) ∧ (gb543 ≠ s_.2.2.2.2) ∧ (s_.2.2.2.2 ≠ gb543) ∧ (gb552 ≠ s_.2.2.2.2) ∧ (s_.2.2.2.2 ≠ gb552) ∧ (gb562 ≠ s_.2.2.2.2) ∧ (s_.2.2.2.2 ≠ gb562) ∧ (Below w.heap.size w w')) ?_ ?_
      rotate_left
      · intro hCont
        refine two_ (i := 1) (j := 6) (Ni := some 32) (Nj := some 7) #[true, true, false, false, false, false, false, false, false] #[true, false, false, false, false, false, true, false, false] rfl rfl rfl rfl (two_of HT_.out (by kernel_rfl)) (by decide) (by decide) (fun K hK => ?_) (fun K hK => ?_)
        · skip
          refine goes_ Try.func11 (by kernel_rfl) rfl #[.int .i64 1] (by rfl) rfl rfl dA ?_
          with_reducible refine (rat_Int.calls 1 t563 t564 t567 _ A17.out).mono ?_
          rintro e w45 ⟨v565, v568, rfl, ho0, ho1, hb⟩
          refine ⟨_, rfl, ?_⟩
          have HO566 := aM (Kd.R_lower (Kd.R_new' (Kd.R_new' (Kd.R_new' (Kd.R_new' ho0 (Kd.R_lt (dR HO_553001.out))) (Kd.R_lt (dR HO_553002.out))) (Kd.R_lt (dR HO557.out))) (Kd.R_lt (dR HO560.out))) (below_size eB))
          have HO569 := aM (Kd.R_lower (Kd.R_new' (Kd.R_new' (Kd.R_new' (Kd.R_new' ho1 (Kd.R_lt (dR HO_553001.out))) (Kd.R_lt (dR HO_553002.out))) (Kd.R_lt (dR HO557.out))) (Kd.R_lt (dR HO560.out))) (below_size eB))
          replace HO_553001 := aM (Kd.R_mono (Kd.R_told (Kd.R_told (Kd.R_old (dR HO_553001.out) hb) (Kd.R_base ho0)) (Kd.R_base ho1)) (fun _ h_ => h_.1))
          replace HO_553002 := aM (Kd.R_mono (Kd.R_told (Kd.R_told (Kd.R_old (dR HO_553002.out) hb) (Kd.R_base ho0)) (Kd.R_base ho1)) (fun _ h_ => h_.1))
          replace HO557 := aM (Kd.R_mono (Kd.R_told (Kd.R_told (Kd.R_old (dR HO557.out) hb) (Kd.R_base ho0)) (Kd.R_base ho1)) (fun _ h_ => h_.1))
          replace HO560 := aM (Kd.R_mono (Kd.R_told (Kd.R_told (Kd.R_old (dR HO560.out) hb) (Kd.R_base ho0)) (Kd.R_base ho1)) (fun _ h_ => h_.1))
          replace BK543 := bB BK543.out hb
          replace BK552 := bB BK552.out hb
          replace BK562 := bB BK562.out hb
          replace HB := hS HB.out hb
          (try clear hb)
          (try clear hb2)
          (try clear hk)
          (try clear hi)
          (try clear ho0)
          (try clear ho1)
          obtain ⟨Ao46, co46, eo46⟩ := Kd.R_slice HO566.out
          (first | subst eo46 | (injection eo46 with f1_ f2_ f3_; have f4_ := f1_.symm; have f5_ := f3_.symm; clear f1_ f2_ f3_; subst f4_; subst f5_))
          obtain ⟨Ao47, co47, eo47⟩ := Kd.R_slice HO569.out
          (first | subst eo47 | (injection eo47 with f1_ f2_ f3_; have f4_ := f1_.symm; have f5_ := f3_.symm; clear f1_ f2_ f3_; subst f4_; subst f5_))
          refine hK.out _ _ (cz3 BK562.out) (fun hHeld => ?_)
          clear hK K
          refine norm_ (a' := ?_) ?_ ?_
          rotate_left
          · show Act.put _ (some 32) _ = _
            simp only [Act.put, List.setIfInBounds_toArray, List.set_cons_zero, List.set_cons_succ, i64_w, i32_w]
            rfl
          refine two_ (i := 2) (j := 6) (Ni := some 33) (Nj := some 7) #[true, true, true, false, false, false, false, false, false] #[true, true, false, false, false, false, true, false, false] rfl rfl rfl rfl (two_of HT_.out (by kernel_rfl)) (by decide) (by decide) (fun K hK => ?_) (fun K hK => ?_)
          · skip
            refine goes_ Try.func7 (by kernel_rfl) rfl #[.agg #[.bool t554, .slice Ao41 t555.length co41, .slice Ao42 t558.length co42], .agg #[.bool t563, .slice Ao46 t564.length co46, .slice Ao47 t567.length co47]] (by rfl) rfl rfl dA ?_
            with_reducible refine (plumblaw05_add.calls kj2 t554 _ _ t555 _ _ t558 t563 _ _ t564 _ _ t567 t570 t571 t574 true _ ?side1 (Kd.R_reads' HO557.out).2.1 ?side3 (Kd.R_reads' HO560.out).2.1 ?side5 (Kd.R_reads' HO566.out).2.1 ?side7 (Kd.R_reads' HO569.out).2.1 A18.out).mono ?_
            (case side1 => exact dC (Kd.R_reads' HO557.out).2.2)
            (case side3 => exact dC (Kd.R_reads' HO560.out).2.2)
            (case side5 => exact dC (Kd.R_reads' HO566.out).2.2)
            (case side7 => exact dC (Kd.R_reads' HO569.out).2.2)
            rintro e w48 ⟨v572, v575, rfl, ho0, ho1, hb⟩
            refine ⟨_, rfl, ?_⟩
            have HO573 := aM (Kd.R_lower (Kd.R_new' (Kd.R_new' (Kd.R_new' (Kd.R_new' (Kd.R_new' (Kd.R_new' ho0 (Kd.R_lt (dR HO_553001.out))) (Kd.R_lt (dR HO_553002.out))) (Kd.R_lt (dR HO557.out))) (Kd.R_lt (dR HO560.out))) (Kd.R_lt (dR HO566.out))) (Kd.R_lt (dR HO569.out))) (below_size eB))
            have HO576 := aM (Kd.R_lower (Kd.R_new' (Kd.R_new' (Kd.R_new' (Kd.R_new' (Kd.R_new' (Kd.R_new' ho1 (Kd.R_lt (dR HO_553001.out))) (Kd.R_lt (dR HO_553002.out))) (Kd.R_lt (dR HO557.out))) (Kd.R_lt (dR HO560.out))) (Kd.R_lt (dR HO566.out))) (Kd.R_lt (dR HO569.out))) (below_size eB))
            replace HO_553001 := aM (Kd.R_mono (Kd.R_told (Kd.R_told (Kd.R_old (dR HO_553001.out) hb) (Kd.R_base ho0)) (Kd.R_base ho1)) (fun _ h_ => h_.1))
            replace HO_553002 := aM (Kd.R_mono (Kd.R_told (Kd.R_told (Kd.R_old (dR HO_553002.out) hb) (Kd.R_base ho0)) (Kd.R_base ho1)) (fun _ h_ => h_.1))
            replace HO557 := aM (Kd.R_mono (Kd.R_told (Kd.R_told (Kd.R_old (dR HO557.out) hb) (Kd.R_base ho0)) (Kd.R_base ho1)) (fun _ h_ => h_.1))
            replace HO560 := aM (Kd.R_mono (Kd.R_told (Kd.R_told (Kd.R_old (dR HO560.out) hb) (Kd.R_base ho0)) (Kd.R_base ho1)) (fun _ h_ => h_.1))
            replace HO566 := aM (Kd.R_mono (Kd.R_told (Kd.R_told (Kd.R_old (dR HO566.out) hb) (Kd.R_base ho0)) (Kd.R_base ho1)) (fun _ h_ => h_.1))
            replace HO569 := aM (Kd.R_mono (Kd.R_told (Kd.R_told (Kd.R_old (dR HO569.out) hb) (Kd.R_base ho0)) (Kd.R_base ho1)) (fun _ h_ => h_.1))
            replace BK543 := bB BK543.out hb
            replace BK552 := bB BK552.out hb
            replace BK562 := bB BK562.out hb
            replace HB := hS HB.out hb
            (try clear hb)
            (try clear hb2)
            (try clear hk)
            (try clear hi)
            (try clear ho0)
            (try clear ho1)
            refine hK.out _ _ (cz3 BK562.out) (fun hHeld => ?_)
            clear hK K
            refine norm_ (a' := ?_) ?_ ?_
            rotate_left
            · show Act.put _ (some 33) _ = _
              simp only [Act.put, List.setIfInBounds_toArray, List.set_cons_zero, List.set_cons_succ, i64_w, i32_w]
              rfl
            refine pure_ (i := 3) (N := some 30) (v := ?_) (a' := ?_) #[true, true, true, true, false, false, false, false, false] rfl rfl dT (fun _ _ _ h => h) (Or.inl ⟨by rfl, ?_⟩) ?_ ?_
            rotate_left
            · intro w'
              go_simp
              with_reducible rfl
            rotate_left
            · simp only [Act.put, List.setIfInBounds_toArray, List.set_cons_zero, List.set_cons_succ, i64_w, i32_w]
              rfl
            refine pure_ (i := 4) (N := some 34) (v := ?_) (a' := ?_) #[true, true, true, true, true, false, false, false, false] rfl rfl dT (fun _ _ _ h => h) (Or.inl ⟨by rfl, ?_⟩) ?_ ?_
            rotate_left
            · intro w'
              go_simp
              with_reducible rfl
            rotate_left
            · simp only [Act.put, List.setIfInBounds_toArray, List.set_cons_zero, List.set_cons_succ, i64_w, i32_w]
              rfl
            refine pure_ (i := 5) (N := some 35) (v := ?_) (a' := ?_) #[true, true, true, true, true, true, false, false, false] rfl rfl dT (fun _ _ _ h => h) (Or.inl ⟨by rfl, ?_⟩) ?_ ?_
            rotate_left
            · intro w'
              go_simp
              with_reducible rfl
            rotate_left
            · simp only [Act.put, List.setIfInBounds_toArray, List.set_cons_zero, List.set_cons_succ, i64_w, i32_w]
              rfl
            refine one_ (i := 6) (N := some 7) #[true, true, true, true, true, true, true, false, false] rfl rfl (one_of HT_.out (by kernel_rfl)) (by decide) (fun K hK => ?_)
            refine box_step ?hg (N := 7) ?hd (cs := #[.bool false, .slice none 0 0, .slice none 0 0]) (t := 25) ?hr ?_; (case hd => rfl); (case hg => rfl); (case hr => first | (go_simp; done) | (go_simp; rfl))
            intro gb578 hg w49 hbox hb
            replace HO_553001 := oB HO_553001.out hb
            replace HO_553002 := oB HO_553002.out hb
            replace HO557 := oB HO557.out hb
            replace HO560 := oB HO560.out hb
            replace HO566 := oB HO566.out hb
            replace HO569 := oB HO569.out hb
            replace HO573 := oB HO573.out hb
            replace HO576 := oB HO576.out hb
            have BK578 := aM (hbox)
            have GW578 : Aside0 (w.heap.size ≤ gb578) := gE hg
            have GE578 : Aside0 (w.heap.size ≤ gb578) := gE hg
            replace HB := hS HB.out hb
            have NB543_578 := nL hg BK543.out
            have NB578_543 := nG hg BK543.out
            replace BK543 := bB BK543.out hb
            have NB552_578 := nL hg BK552.out
            have NB578_552 := nG hg BK552.out
            replace BK552 := bB BK552.out hb
            have NB562_578 := nL hg BK562.out
            have NB578_562 := nG hg BK562.out
            replace BK562 := bB BK562.out hb
            clear hb hbox hg
            refine hK.out _ _ (cz3 BK562.out) (fun hHeld => ?_)
            clear hK K
            refine norm_ (a' := ?_) ?_ ?_
            rotate_left
            · show Act.put _ (some 7) _ = _
              simp only [Act.put, List.setIfInBounds_toArray, List.set_cons_zero, List.set_cons_succ, i64_w, i32_w]
              rfl
            exact norm_ (by simp only [putAll, Act.put, List.setIfInBounds_toArray, List.set_cons_zero, List.set_cons_succ]) (hCont (.slice Ao46 t564.length co46, .slice Ao47 t567.length co47, v572, v575, gb578) _ ⟨hHeld, (oM HO557.out (fun _ hk => ⟨hk.1.1.1.1.2.2, ⟨hk.1.1.1.2, ⟨hk.1.1.2, ⟨hk.1.2, ⟨hk.2, ⟨hk.1.1.1.1.1, hk.1.1.1.1.2.1⟩⟩⟩⟩⟩⟩)), (oM HO560.out (fun _ hk => ⟨hk.1.1.1.1.2.2, ⟨hk.1.1.1.2, ⟨hk.1.1.2, ⟨hk.1.2, ⟨hk.2, ⟨hk.1.1.1.1.1, hk.1.1.1.1.2.1⟩⟩⟩⟩⟩⟩)), (oM HO566.out (fun _ hk => ⟨hk.1.1.1.2, ⟨hk.1.1.2, ⟨hk.1.1.1.1.1.1, ⟨hk.1.2, ⟨hk.2, ⟨hk.1.1.1.1.1.2, hk.1.1.1.1.2⟩⟩⟩⟩⟩⟩)), (oM HO569.out (fun _ hk => ⟨hk.1.1.1.2, ⟨hk.1.1.2, ⟨hk.1.1.1.1.1.1, ⟨hk.1.2, ⟨hk.2, ⟨hk.1.1.1.1.1.2, hk.1.1.1.1.2⟩⟩⟩⟩⟩⟩)), (oM HO573.out (fun _ hk => ⟨hk.1.1.1.2, ⟨hk.1.1.2, ⟨hk.1.2, ⟨hk.2, ⟨hk.1.1.1.1.1.1, ⟨hk.1.1.1.1.1.2, hk.1.1.1.1.2⟩⟩⟩⟩⟩⟩)), (oM HO576.out (fun _ hk => ⟨hk.1.1.1.2, ⟨hk.1.1.2, ⟨hk.1.2, ⟨hk.2, ⟨hk.1.1.1.1.1.1, ⟨hk.1.1.1.1.1.2, hk.1.1.1.1.2⟩⟩⟩⟩⟩⟩)), (oM HO_553001.out (fun _ hk => ⟨hk.1.1.1.1.2.1, ⟨hk.1.1.1.1.2.2, ⟨hk.1.1.1.2, ⟨hk.1.1.2, ⟨hk.1.2, ⟨hk.2, hk.1.1.1.1.1⟩⟩⟩⟩⟩⟩)), (oM HO_553002.out (fun _ hk => ⟨hk.1.1.1.1.2.1, ⟨hk.1.1.1.1.2.2, ⟨hk.1.1.1.2, ⟨hk.1.1.2, ⟨hk.1.2, ⟨hk.2, hk.1.1.1.1.1⟩⟩⟩⟩⟩⟩)), (dK BK543.out), (dK BK552.out), (dK BK562.out), (dK BK578.out), GW578.out, GE578.out, NB543_578.out, NB578_543.out, NB552_578.out, NB578_552.out, NB562_578.out, NB578_562.out, eB⟩)
          · skip
            refine box_step ?hg (N := 7) ?hd (cs := #[.bool false, .slice none 0 0, .slice none 0 0]) (t := 25) ?hr ?_; (case hd => rfl); (case hg => rfl); (case hr => first | (go_simp; done) | (go_simp; rfl))
            intro gb578 hg w46 hbox hb
            replace HO_553001 := oB HO_553001.out hb
            replace HO_553002 := oB HO_553002.out hb
            replace HO557 := oB HO557.out hb
            replace HO560 := oB HO560.out hb
            replace HO566 := oB HO566.out hb
            replace HO569 := oB HO569.out hb
            have BK578 := aM (hbox)
            have GW578 : Aside0 (w.heap.size ≤ gb578) := gE hg
            have GE578 : Aside0 (w.heap.size ≤ gb578) := gE hg
            replace HB := hS HB.out hb
            have NB543_578 := nL hg BK543.out
            have NB578_543 := nG hg BK543.out
            replace BK543 := bB BK543.out hb
            have NB552_578 := nL hg BK552.out
            have NB578_552 := nG hg BK552.out
            replace BK552 := bB BK552.out hb
            have NB562_578 := nL hg BK562.out
            have NB578_562 := nG hg BK562.out
            replace BK562 := bB BK562.out hb
            clear hb hbox hg
            obtain ⟨Ao47, co47, eo47⟩ := Kd.R_slice HO566.out
            (first | subst eo47 | (injection eo47 with f1_ f2_ f3_; have f4_ := f1_.symm; have f5_ := f3_.symm; clear f1_ f2_ f3_; subst f4_; subst f5_))
            obtain ⟨Ao48, co48, eo48⟩ := Kd.R_slice HO569.out
            (first | subst eo48 | (injection eo48 with f1_ f2_ f3_; have f4_ := f1_.symm; have f5_ := f3_.symm; clear f1_ f2_ f3_; subst f4_; subst f5_))
            refine hK.out _ _ (cz3 BK562.out) (fun hHeld => ?_)
            clear hK K
            refine norm_ (a' := ?_) ?_ ?_
            rotate_left
            · show Act.put _ (some 7) _ = _
              simp only [Act.put, List.setIfInBounds_toArray, List.set_cons_zero, List.set_cons_succ, i64_w, i32_w]
              rfl
            refine one_ (i := 2) (N := some 33) #[true, true, true, false, false, false, true, false, false] rfl rfl (one_of HT_.out (by kernel_rfl)) (by decide) (fun K hK => ?_)
            refine goes_ Try.func7 (by kernel_rfl) rfl #[.agg #[.bool t554, .slice Ao41 t555.length co41, .slice Ao42 t558.length co42], .agg #[.bool t563, .slice Ao47 t564.length co47, .slice Ao48 t567.length co48]] (by rfl) rfl rfl dA ?_
            with_reducible refine (plumblaw05_add.calls kj2 t554 _ _ t555 _ _ t558 t563 _ _ t564 _ _ t567 t570 t571 t574 true _ ?side1 (Kd.R_reads' HO557.out).2.1 ?side3 (Kd.R_reads' HO560.out).2.1 ?side5 (Kd.R_reads' HO566.out).2.1 ?side7 (Kd.R_reads' HO569.out).2.1 A18.out).mono ?_
            (case side1 => exact dC (Kd.R_reads' HO557.out).2.2)
            (case side3 => exact dC (Kd.R_reads' HO560.out).2.2)
            (case side5 => exact dC (Kd.R_reads' HO566.out).2.2)
            (case side7 => exact dC (Kd.R_reads' HO569.out).2.2)
            rintro e w49 ⟨v572, v575, rfl, ho0, ho1, hb⟩
            refine ⟨_, rfl, ?_⟩
            have HO573 := aM (Kd.R_lower (Kd.R_new' (Kd.R_new' (Kd.R_new' (Kd.R_new' (Kd.R_new' (Kd.R_new' ho0 (Kd.R_lt (dR HO_553001.out))) (Kd.R_lt (dR HO_553002.out))) (Kd.R_lt (dR HO557.out))) (Kd.R_lt (dR HO560.out))) (Kd.R_lt (dR HO566.out))) (Kd.R_lt (dR HO569.out))) (below_size eB))
            have HO576 := aM (Kd.R_lower (Kd.R_new' (Kd.R_new' (Kd.R_new' (Kd.R_new' (Kd.R_new' (Kd.R_new' ho1 (Kd.R_lt (dR HO_553001.out))) (Kd.R_lt (dR HO_553002.out))) (Kd.R_lt (dR HO557.out))) (Kd.R_lt (dR HO560.out))) (Kd.R_lt (dR HO566.out))) (Kd.R_lt (dR HO569.out))) (below_size eB))
            replace HO_553001 := aM (Kd.R_mono (Kd.R_told (Kd.R_told (Kd.R_old (dR HO_553001.out) hb) (Kd.R_base ho0)) (Kd.R_base ho1)) (fun _ h_ => h_.1))
            replace HO_553002 := aM (Kd.R_mono (Kd.R_told (Kd.R_told (Kd.R_old (dR HO_553002.out) hb) (Kd.R_base ho0)) (Kd.R_base ho1)) (fun _ h_ => h_.1))
            replace HO557 := aM (Kd.R_mono (Kd.R_told (Kd.R_told (Kd.R_old (dR HO557.out) hb) (Kd.R_base ho0)) (Kd.R_base ho1)) (fun _ h_ => h_.1))
            replace HO560 := aM (Kd.R_mono (Kd.R_told (Kd.R_told (Kd.R_old (dR HO560.out) hb) (Kd.R_base ho0)) (Kd.R_base ho1)) (fun _ h_ => h_.1))
            replace HO566 := aM (Kd.R_mono (Kd.R_told (Kd.R_told (Kd.R_old (dR HO566.out) hb) (Kd.R_base ho0)) (Kd.R_base ho1)) (fun _ h_ => h_.1))
            replace HO569 := aM (Kd.R_mono (Kd.R_told (Kd.R_told (Kd.R_old (dR HO569.out) hb) (Kd.R_base ho0)) (Kd.R_base ho1)) (fun _ h_ => h_.1))
            replace BK543 := bB BK543.out hb
            replace BK552 := bB BK552.out hb
            replace BK562 := bB BK562.out hb
            replace BK578 := bB BK578.out hb
            replace HB := hS HB.out hb
            (try clear hb)
            (try clear hb2)
            (try clear hk)
            (try clear hi)
            (try clear ho0)
            (try clear ho1)
            refine hK.out _ _ (cz3 BK562.out) (fun hHeld => ?_)
            clear hK K
            refine norm_ (a' := ?_) ?_ ?_
            rotate_left
            · show Act.put _ (some 33) _ = _
              simp only [Act.put, List.setIfInBounds_toArray, List.set_cons_zero, List.set_cons_succ, i64_w, i32_w]
              rfl
            refine pure_ (i := 3) (N := some 30) (v := ?_) (a' := ?_) #[true, true, true, true, false, false, true, false, false] rfl rfl dT (fun _ _ _ h => h) (Or.inl ⟨by rfl, ?_⟩) ?_ ?_
            rotate_left
            · intro w'
              go_simp
              with_reducible rfl
            rotate_left
            · simp only [Act.put, List.setIfInBounds_toArray, List.set_cons_zero, List.set_cons_succ, i64_w, i32_w]
              rfl
            refine pure_ (i := 4) (N := some 34) (v := ?_) (a' := ?_) #[true, true, true, true, true, false, true, false, false] rfl rfl dT (fun _ _ _ h => h) (Or.inl ⟨by rfl, ?_⟩) ?_ ?_
            rotate_left
            · intro w'
              go_simp
              with_reducible rfl
            rotate_left
            · simp only [Act.put, List.setIfInBounds_toArray, List.set_cons_zero, List.set_cons_succ, i64_w, i32_w]
              rfl
            refine pure_ (i := 5) (N := some 35) (v := ?_) (a' := ?_) #[true, true, true, true, true, true, true, false, false] rfl rfl dT (fun _ _ _ h => h) (Or.inl ⟨by rfl, ?_⟩) ?_ ?_
            rotate_left
            · intro w'
              go_simp
              with_reducible rfl
            rotate_left
            · simp only [Act.put, List.setIfInBounds_toArray, List.set_cons_zero, List.set_cons_succ, i64_w, i32_w]
              rfl
            exact norm_ (by simp only [putAll, Act.put, List.setIfInBounds_toArray, List.set_cons_zero, List.set_cons_succ]) (hCont (.slice Ao47 t564.length co47, .slice Ao48 t567.length co48, v572, v575, gb578) _ ⟨hHeld, (oM HO557.out (fun _ hk => ⟨hk.1.1.1.1.2.2, ⟨hk.1.1.1.2, ⟨hk.1.1.2, ⟨hk.1.2, ⟨hk.2, ⟨hk.1.1.1.1.1, hk.1.1.1.1.2.1⟩⟩⟩⟩⟩⟩)), (oM HO560.out (fun _ hk => ⟨hk.1.1.1.1.2.2, ⟨hk.1.1.1.2, ⟨hk.1.1.2, ⟨hk.1.2, ⟨hk.2, ⟨hk.1.1.1.1.1, hk.1.1.1.1.2.1⟩⟩⟩⟩⟩⟩)), (oM HO566.out (fun _ hk => ⟨hk.1.1.1.2, ⟨hk.1.1.2, ⟨hk.1.1.1.1.1.1, ⟨hk.1.2, ⟨hk.2, ⟨hk.1.1.1.1.1.2, hk.1.1.1.1.2⟩⟩⟩⟩⟩⟩)), (oM HO569.out (fun _ hk => ⟨hk.1.1.1.2, ⟨hk.1.1.2, ⟨hk.1.1.1.1.1.1, ⟨hk.1.2, ⟨hk.2, ⟨hk.1.1.1.1.1.2, hk.1.1.1.1.2⟩⟩⟩⟩⟩⟩)), (oM HO573.out (fun _ hk => ⟨hk.1.1.1.2, ⟨hk.1.1.2, ⟨hk.1.2, ⟨hk.2, ⟨hk.1.1.1.1.1.1, ⟨hk.1.1.1.1.1.2, hk.1.1.1.1.2⟩⟩⟩⟩⟩⟩)), (oM HO576.out (fun _ hk => ⟨hk.1.1.1.2, ⟨hk.1.1.2, ⟨hk.1.2, ⟨hk.2, ⟨hk.1.1.1.1.1.1, ⟨hk.1.1.1.1.1.2, hk.1.1.1.1.2⟩⟩⟩⟩⟩⟩)), (oM HO_553001.out (fun _ hk => ⟨hk.1.1.1.1.2.1, ⟨hk.1.1.1.1.2.2, ⟨hk.1.1.1.2, ⟨hk.1.1.2, ⟨hk.1.2, ⟨hk.2, hk.1.1.1.1.1⟩⟩⟩⟩⟩⟩)), (oM HO_553002.out (fun _ hk => ⟨hk.1.1.1.1.2.1, ⟨hk.1.1.1.1.2.2, ⟨hk.1.1.1.2, ⟨hk.1.1.2, ⟨hk.1.2, ⟨hk.2, hk.1.1.1.1.1⟩⟩⟩⟩⟩⟩)), (dK BK543.out), (dK BK552.out), (dK BK562.out), (dK BK578.out), GW578.out, GE578.out, NB543_578.out, NB578_543.out, NB552_578.out, NB578_552.out, NB562_578.out, NB578_562.out, eB⟩)
        · skip
          refine box_step ?hg (N := 7) ?hd (cs := #[.bool false, .slice none 0 0, .slice none 0 0]) (t := 25) ?hr ?_; (case hd => rfl); (case hg => rfl); (case hr => first | (go_simp; done) | (go_simp; rfl))
          intro gb578 hg w45 hbox hb
          replace HO_553001 := oB HO_553001.out hb
          replace HO_553002 := oB HO_553002.out hb
          replace HO557 := oB HO557.out hb
          replace HO560 := oB HO560.out hb
          have BK578 := aM (hbox)
          have GW578 : Aside0 (w.heap.size ≤ gb578) := gE hg
          have GE578 : Aside0 (w.heap.size ≤ gb578) := gE hg
          replace HB := hS HB.out hb
          have NB543_578 := nL hg BK543.out
          have NB578_543 := nG hg BK543.out
          replace BK543 := bB BK543.out hb
          have NB552_578 := nL hg BK552.out
          have NB578_552 := nG hg BK552.out
          replace BK552 := bB BK552.out hb
          have NB562_578 := nL hg BK562.out
          have NB578_562 := nG hg BK562.out
          replace BK562 := bB BK562.out hb
          clear hb hbox hg
          refine hK.out _ _ (cz3 BK562.out) (fun hHeld => ?_)
          clear hK K
          refine norm_ (a' := ?_) ?_ ?_
          rotate_left
          · show Act.put _ (some 7) _ = _
            simp only [Act.put, List.setIfInBounds_toArray, List.set_cons_zero, List.set_cons_succ, i64_w, i32_w]
            rfl
          refine one_ (i := 1) (N := some 32) #[true, true, false, false, false, false, true, false, false] rfl rfl (one_of HT_.out (by kernel_rfl)) (by decide) (fun K hK => ?_)
          refine goes_ Try.func11 (by kernel_rfl) rfl #[.int .i64 1] (by rfl) rfl rfl dA ?_
          with_reducible refine (rat_Int.calls 1 t563 t564 t567 _ A17.out).mono ?_
          rintro e w46 ⟨v565, v568, rfl, ho0, ho1, hb⟩
          refine ⟨_, rfl, ?_⟩
          have HO566 := aM (Kd.R_lower (Kd.R_new' (Kd.R_new' (Kd.R_new' (Kd.R_new' ho0 (Kd.R_lt (dR HO_553001.out))) (Kd.R_lt (dR HO_553002.out))) (Kd.R_lt (dR HO557.out))) (Kd.R_lt (dR HO560.out))) (below_size eB))
          have HO569 := aM (Kd.R_lower (Kd.R_new' (Kd.R_new' (Kd.R_new' (Kd.R_new' ho1 (Kd.R_lt (dR HO_553001.out))) (Kd.R_lt (dR HO_553002.out))) (Kd.R_lt (dR HO557.out))) (Kd.R_lt (dR HO560.out))) (below_size eB))
          replace HO_553001 := aM (Kd.R_mono (Kd.R_told (Kd.R_told (Kd.R_old (dR HO_553001.out) hb) (Kd.R_base ho0)) (Kd.R_base ho1)) (fun _ h_ => h_.1))
          replace HO_553002 := aM (Kd.R_mono (Kd.R_told (Kd.R_told (Kd.R_old (dR HO_553002.out) hb) (Kd.R_base ho0)) (Kd.R_base ho1)) (fun _ h_ => h_.1))
          replace HO557 := aM (Kd.R_mono (Kd.R_told (Kd.R_told (Kd.R_old (dR HO557.out) hb) (Kd.R_base ho0)) (Kd.R_base ho1)) (fun _ h_ => h_.1))
          replace HO560 := aM (Kd.R_mono (Kd.R_told (Kd.R_told (Kd.R_old (dR HO560.out) hb) (Kd.R_base ho0)) (Kd.R_base ho1)) (fun _ h_ => h_.1))
          replace BK543 := bB BK543.out hb
          replace BK552 := bB BK552.out hb
          replace BK562 := bB BK562.out hb
          replace BK578 := bB BK578.out hb
          replace HB := hS HB.out hb
          (try clear hb)
          (try clear hb2)
          (try clear hk)
          (try clear hi)
          (try clear ho0)
          (try clear ho1)
          obtain ⟨Ao47, co47, eo47⟩ := Kd.R_slice HO566.out
          (first | subst eo47 | (injection eo47 with f1_ f2_ f3_; have f4_ := f1_.symm; have f5_ := f3_.symm; clear f1_ f2_ f3_; subst f4_; subst f5_))
          obtain ⟨Ao48, co48, eo48⟩ := Kd.R_slice HO569.out
          (first | subst eo48 | (injection eo48 with f1_ f2_ f3_; have f4_ := f1_.symm; have f5_ := f3_.symm; clear f1_ f2_ f3_; subst f4_; subst f5_))
          refine hK.out _ _ (cz3 BK562.out) (fun hHeld => ?_)
          clear hK K
          refine norm_ (a' := ?_) ?_ ?_
          rotate_left
          · show Act.put _ (some 32) _ = _
            simp only [Act.put, List.setIfInBounds_toArray, List.set_cons_zero, List.set_cons_succ, i64_w, i32_w]
            rfl
          refine one_ (i := 2) (N := some 33) #[true, true, true, false, false, false, true, false, false] rfl rfl (one_of HT_.out (by kernel_rfl)) (by decide) (fun K hK => ?_)
          refine goes_ Try.func7 (by kernel_rfl) rfl #[.agg #[.bool t554, .slice Ao41 t555.length co41, .slice Ao42 t558.length co42], .agg #[.bool t563, .slice Ao47 t564.length co47, .slice Ao48 t567.length co48]] (by rfl) rfl rfl dA ?_
          with_reducible refine (plumblaw05_add.calls kj2 t554 _ _ t555 _ _ t558 t563 _ _ t564 _ _ t567 t570 t571 t574 true _ ?side1 (Kd.R_reads' HO557.out).2.1 ?side3 (Kd.R_reads' HO560.out).2.1 ?side5 (Kd.R_reads' HO566.out).2.1 ?side7 (Kd.R_reads' HO569.out).2.1 A18.out).mono ?_
          (case side1 => exact dC (Kd.R_reads' HO557.out).2.2)
          (case side3 => exact dC (Kd.R_reads' HO560.out).2.2)
          (case side5 => exact dC (Kd.R_reads' HO566.out).2.2)
          (case side7 => exact dC (Kd.R_reads' HO569.out).2.2)
          rintro e w49 ⟨v572, v575, rfl, ho0, ho1, hb⟩
          refine ⟨_, rfl, ?_⟩
          have HO573 := aM (Kd.R_lower (Kd.R_new' (Kd.R_new' (Kd.R_new' (Kd.R_new' (Kd.R_new' (Kd.R_new' ho0 (Kd.R_lt (dR HO_553001.out))) (Kd.R_lt (dR HO_553002.out))) (Kd.R_lt (dR HO557.out))) (Kd.R_lt (dR HO560.out))) (Kd.R_lt (dR HO566.out))) (Kd.R_lt (dR HO569.out))) (below_size eB))
          have HO576 := aM (Kd.R_lower (Kd.R_new' (Kd.R_new' (Kd.R_new' (Kd.R_new' (Kd.R_new' (Kd.R_new' ho1 (Kd.R_lt (dR HO_553001.out))) (Kd.R_lt (dR HO_553002.out))) (Kd.R_lt (dR HO557.out))) (Kd.R_lt (dR HO560.out))) (Kd.R_lt (dR HO566.out))) (Kd.R_lt (dR HO569.out))) (below_size eB))
          replace HO_553001 := aM (Kd.R_mono (Kd.R_told (Kd.R_told (Kd.R_old (dR HO_553001.out) hb) (Kd.R_base ho0)) (Kd.R_base ho1)) (fun _ h_ => h_.1))
          replace HO_553002 := aM (Kd.R_mono (Kd.R_told (Kd.R_told (Kd.R_old (dR HO_553002.out) hb) (Kd.R_base ho0)) (Kd.R_base ho1)) (fun _ h_ => h_.1))
          replace HO557 := aM (Kd.R_mono (Kd.R_told (Kd.R_told (Kd.R_old (dR HO557.out) hb) (Kd.R_base ho0)) (Kd.R_base ho1)) (fun _ h_ => h_.1))
          replace HO560 := aM (Kd.R_mono (Kd.R_told (Kd.R_told (Kd.R_old (dR HO560.out) hb) (Kd.R_base ho0)) (Kd.R_base ho1)) (fun _ h_ => h_.1))
          replace HO566 := aM (Kd.R_mono (Kd.R_told (Kd.R_told (Kd.R_old (dR HO566.out) hb) (Kd.R_base ho0)) (Kd.R_base ho1)) (fun _ h_ => h_.1))
          replace HO569 := aM (Kd.R_mono (Kd.R_told (Kd.R_told (Kd.R_old (dR HO569.out) hb) (Kd.R_base ho0)) (Kd.R_base ho1)) (fun _ h_ => h_.1))
          replace BK543 := bB BK543.out hb
          replace BK552 := bB BK552.out hb
          replace BK562 := bB BK562.out hb
          replace BK578 := bB BK578.out hb
          replace HB := hS HB.out hb
          (try clear hb)
          (try clear hb2)
          (try clear hk)
          (try clear hi)
          (try clear ho0)
          (try clear ho1)
          refine hK.out _ _ (cz3 BK562.out) (fun hHeld => ?_)
          clear hK K
          refine norm_ (a' := ?_) ?_ ?_
          rotate_left
          · show Act.put _ (some 33) _ = _
            simp only [Act.put, List.setIfInBounds_toArray, List.set_cons_zero, List.set_cons_succ, i64_w, i32_w]
            rfl
          refine pure_ (i := 3) (N := some 30) (v := ?_) (a' := ?_) #[true, true, true, true, false, false, true, false, false] rfl rfl dT (fun _ _ _ h => h) (Or.inl ⟨by rfl, ?_⟩) ?_ ?_
          rotate_left
          · intro w'
            go_simp
            with_reducible rfl
          rotate_left
          · simp only [Act.put, List.setIfInBounds_toArray, List.set_cons_zero, List.set_cons_succ, i64_w, i32_w]
            rfl
          refine pure_ (i := 4) (N := some 34) (v := ?_) (a' := ?_) #[true, true, true, true, true, false, true, false, false] rfl rfl dT (fun _ _ _ h => h) (Or.inl ⟨by rfl, ?_⟩) ?_ ?_
          rotate_left
          · intro w'
            go_simp
            with_reducible rfl
          rotate_left
          · simp only [Act.put, List.setIfInBounds_toArray, List.set_cons_zero, List.set_cons_succ, i64_w, i32_w]
            rfl
          refine pure_ (i := 5) (N := some 35) (v := ?_) (a' := ?_) #[true, true, true, true, true, true, true, false, false] rfl rfl dT (fun _ _ _ h => h) (Or.inl ⟨by rfl, ?_⟩) ?_ ?_
          rotate_left
          · intro w'
            go_simp
            with_reducible rfl
          rotate_left
          · simp only [Act.put, List.setIfInBounds_toArray, List.set_cons_zero, List.set_cons_succ, i64_w, i32_w]
            rfl
          exact norm_ (by simp only [putAll, Act.put, List.setIfInBounds_toArray, List.set_cons_zero, List.set_cons_succ]) (hCont (.slice Ao47 t564.length co47, .slice Ao48 t567.length co48, v572, v575, gb578) _ ⟨hHeld, (oM HO557.out (fun _ hk => ⟨hk.1.1.1.1.2.2, ⟨hk.1.1.1.2, ⟨hk.1.1.2, ⟨hk.1.2, ⟨hk.2, ⟨hk.1.1.1.1.1, hk.1.1.1.1.2.1⟩⟩⟩⟩⟩⟩)), (oM HO560.out (fun _ hk => ⟨hk.1.1.1.1.2.2, ⟨hk.1.1.1.2, ⟨hk.1.1.2, ⟨hk.1.2, ⟨hk.2, ⟨hk.1.1.1.1.1, hk.1.1.1.1.2.1⟩⟩⟩⟩⟩⟩)), (oM HO566.out (fun _ hk => ⟨hk.1.1.1.2, ⟨hk.1.1.2, ⟨hk.1.1.1.1.1.1, ⟨hk.1.2, ⟨hk.2, ⟨hk.1.1.1.1.1.2, hk.1.1.1.1.2⟩⟩⟩⟩⟩⟩)), (oM HO569.out (fun _ hk => ⟨hk.1.1.1.2, ⟨hk.1.1.2, ⟨hk.1.1.1.1.1.1, ⟨hk.1.2, ⟨hk.2, ⟨hk.1.1.1.1.1.2, hk.1.1.1.1.2⟩⟩⟩⟩⟩⟩)), (oM HO573.out (fun _ hk => ⟨hk.1.1.1.2, ⟨hk.1.1.2, ⟨hk.1.2, ⟨hk.2, ⟨hk.1.1.1.1.1.1, ⟨hk.1.1.1.1.1.2, hk.1.1.1.1.2⟩⟩⟩⟩⟩⟩)), (oM HO576.out (fun _ hk => ⟨hk.1.1.1.2, ⟨hk.1.1.2, ⟨hk.1.2, ⟨hk.2, ⟨hk.1.1.1.1.1.1, ⟨hk.1.1.1.1.1.2, hk.1.1.1.1.2⟩⟩⟩⟩⟩⟩)), (oM HO_553001.out (fun _ hk => ⟨hk.1.1.1.1.2.1, ⟨hk.1.1.1.1.2.2, ⟨hk.1.1.1.2, ⟨hk.1.1.2, ⟨hk.1.2, ⟨hk.2, hk.1.1.1.1.1⟩⟩⟩⟩⟩⟩)), (oM HO_553002.out (fun _ hk => ⟨hk.1.1.1.1.2.1, ⟨hk.1.1.1.1.2.2, ⟨hk.1.1.1.2, ⟨hk.1.1.2, ⟨hk.1.2, ⟨hk.2, hk.1.1.1.1.1⟩⟩⟩⟩⟩⟩)), (dK BK543.out), (dK BK552.out), (dK BK562.out), (dK BK578.out), GW578.out, GE578.out, NB543_578.out, NB578_543.out, NB552_578.out, NB578_552.out, NB562_578.out, NB578_562.out, eB⟩)
      rintro ⟨v565, v568, v572, v575, gb578⟩ w50 ⟨hS_, h0_, h1_, h2_, h3_, h4_, h5_, h6_, h7_, h8_, h9_, h10_, h11_, h12_, h13_, h14_, h15_, h16_, h17_, h18_, h19_, h20_⟩
      have n0_ : Aside0 (Kd.R (Kd.int .u64) 44 w50 w.heap.size (fun k_ => oN Ao42 t558 co42 k_ ∧ some k_ ≠ (v565 : Value).ownBlock ∧ some k_ ≠ (v568 : Value).ownBlock ∧ some k_ ≠ (v572 : Value).ownBlock ∧ some k_ ≠ (v575 : Value).ownBlock ∧ oN Ao10 t545 co10 k_ ∧ oN Ao11 t548 co11 k_) (.slice Ao41 t555.length co41) t555) := ⟨h0_⟩
      have n1_ : Aside0 (Kd.R (Kd.int .u64) 44 w50 w.heap.size (fun k_ => oN Ao41 t555 co41 k_ ∧ some k_ ≠ (v565 : Value).ownBlock ∧ some k_ ≠ (v568 : Value).ownBlock ∧ some k_ ≠ (v572 : Value).ownBlock ∧ some k_ ≠ (v575 : Value).ownBlock ∧ oN Ao10 t545 co10 k_ ∧ oN Ao11 t548 co11 k_) (.slice Ao42 t558.length co42) t558) := ⟨h1_⟩
      have n2_ : Aside0 (Kd.R (Kd.int .u64) 44 w50 w.heap.size (fun k_ => oN Ao41 t555 co41 k_ ∧ oN Ao42 t558 co42 k_ ∧ some k_ ≠ (v568 : Value).ownBlock ∧ some k_ ≠ (v572 : Value).ownBlock ∧ some k_ ≠ (v575 : Value).ownBlock ∧ oN Ao10 t545 co10 k_ ∧ oN Ao11 t548 co11 k_) v565 t564) := ⟨h2_⟩
      have n3_ : Aside0 (Kd.R (Kd.int .u64) 44 w50 w.heap.size (fun k_ => oN Ao41 t555 co41 k_ ∧ oN Ao42 t558 co42 k_ ∧ some k_ ≠ (v565 : Value).ownBlock ∧ some k_ ≠ (v572 : Value).ownBlock ∧ some k_ ≠ (v575 : Value).ownBlock ∧ oN Ao10 t545 co10 k_ ∧ oN Ao11 t548 co11 k_) v568 t567) := ⟨h3_⟩
      have n4_ : Aside0 (Kd.R (Kd.int .u64) 44 w50 w.heap.size (fun k_ => oN Ao41 t555 co41 k_ ∧ oN Ao42 t558 co42 k_ ∧ some k_ ≠ (v565 : Value).ownBlock ∧ some k_ ≠ (v568 : Value).ownBlock ∧ some k_ ≠ (v575 : Value).ownBlock ∧ oN Ao10 t545 co10 k_ ∧ oN Ao11 t548 co11 k_) v572 t571) := ⟨h4_⟩
      have n5_ : Aside0 (Kd.R (Kd.int .u64) 44 w50 w.heap.size (fun k_ => oN Ao41 t555 co41 k_ ∧ oN Ao42 t558 co42 k_ ∧ some k_ ≠ (v565 : Value).ownBlock ∧ some k_ ≠ (v568 : Value).ownBlock ∧ some k_ ≠ (v572 : Value).ownBlock ∧ oN Ao10 t545 co10 k_ ∧ oN Ao11 t548 co11 k_) v575 t574) := ⟨h5_⟩
      have n6_ : Aside0 (Kd.R (Kd.int .u64) 44 w50 w.heap.size (fun k_ => oN Ao41 t555 co41 k_ ∧ oN Ao42 t558 co42 k_ ∧ some k_ ≠ (v565 : Value).ownBlock ∧ some k_ ≠ (v568 : Value).ownBlock ∧ some k_ ≠ (v572 : Value).ownBlock ∧ some k_ ≠ (v575 : Value).ownBlock ∧ oN Ao11 t548 co11 k_) (.slice Ao10 t545.length co10) t545) := ⟨h6_⟩
      have n7_ : Aside0 (Kd.R (Kd.int .u64) 44 w50 w.heap.size (fun k_ => oN Ao41 t555 co41 k_ ∧ oN Ao42 t558 co42 k_ ∧ some k_ ≠ (v565 : Value).ownBlock ∧ some k_ ≠ (v568 : Value).ownBlock ∧ some k_ ≠ (v572 : Value).ownBlock ∧ some k_ ≠ (v575 : Value).ownBlock ∧ oN Ao10 t545 co10 k_) (.slice Ao11 t548.length co11) t548) := ⟨h7_⟩
      have n8_ : Aside0 (w50.heap[gb543]? = some (.cells #[.bool a0_0, .slice A0_1 l0_1.length c0_1, .slice A0_2 l0_2.length c0_2] 24 (0, 0))) := ⟨h8_⟩
      have n9_ : Aside0 (w50.heap[gb552]? = some (.cells #[.bool t544, .slice Ao10 t545.length co10, .slice Ao11 t548.length co11] 25 (0, 0))) := ⟨h9_⟩
      have n10_ : Aside0 (w50.heap[gb562]? = some (.cells #[.bool t554, .slice Ao41 t555.length co41, .slice Ao42 t558.length co42] 25 (0, 0))) := ⟨h10_⟩
      have n11_ : Aside0 (w50.heap[gb578]? = some (.cells #[.bool false, .slice none 0 0, .slice none 0 0] 25 (0, 0))) := ⟨h11_⟩
      have n12_ : Aside0 (w.heap.size ≤ gb578) := ⟨h12_⟩
      have n13_ : Aside0 (w.heap.size ≤ gb578) := ⟨h13_⟩
      have n14_ : Aside0 (gb543 ≠ gb578) := ⟨h14_⟩
      have n15_ : Aside0 (gb578 ≠ gb543) := ⟨h15_⟩
      have n16_ : Aside0 (gb552 ≠ gb578) := ⟨h16_⟩
      have n17_ : Aside0 (gb578 ≠ gb552) := ⟨h17_⟩
      have n18_ : Aside0 (gb562 ≠ gb578) := ⟨h18_⟩
      have n19_ : Aside0 (gb578 ≠ gb562) := ⟨h19_⟩
      have n20_ : Aside0 (Below w.heap.size w w50) := ⟨h20_⟩
      clear HO_553001
      clear HO_553002
      clear HO557
      clear HO560
      clear BK543
      clear BK552
      clear BK562
      clear HB
      clear h0_ h1_ h2_ h3_ h4_ h5_ h6_ h7_ h8_ h9_ h10_ h11_ h12_ h13_ h14_ h15_ h16_ h17_ h18_ h19_ h20_
      have HO557 := n0_
      have HO560 := n1_
      have HO566 := n2_
      have HO569 := n3_
      have HO573 := n4_
      have HO576 := n5_
      have HO_553001 := n6_
      have HO_553002 := n7_
      have BK543 := n8_
      have BK552 := n9_
      have BK562 := n10_
      have BK578 := n11_
      have GW578 := n12_
      have GE578 := n13_
      have NB543_578 := n14_
      have NB578_543 := n15_
      have NB552_578 := n16_
      have NB578_552 := n17_
      have NB562_578 := n18_
      have NB578_562 := n19_
      have HB := n20_
      clear n0_ n1_ n2_ n3_ n4_ n5_ n6_ n7_ n8_ n9_ n10_ n11_ n12_ n13_ n14_ n15_ n16_ n17_ n18_ n19_ n20_
      have hHeld : w50.cell? ⟨gb562, 0, none⟩ = some (.bool t554) ∧ w50.cell? ⟨gb562, 1, none⟩ = some (.slice Ao41 t555.length co41) ∧ w50.cell? ⟨gb562, 2, none⟩ = some (.slice Ao42 t558.length co42) := hS_
      obtain ⟨Ao52, co52, eo52⟩ := Kd.R_slice HO573.out
      (first | subst eo52 | (injection eo52 with f1_ f2_ f3_; have f4_ := f1_.symm; have f5_ := f3_.symm; clear f1_ f2_ f3_; subst f4_; subst f5_))
      obtain ⟨Ao54, co54, eo54⟩ := Kd.R_slice HO576.out
      (first | subst eo54 | (injection eo54 with f1_ f2_ f3_; have f4_ := f1_.symm; have f5_ := f3_.symm; clear f1_ f2_ f3_; subst f4_; subst f5_))
      refine norm_ (a' := ?_) ?_ ?_
      rotate_left
      · simp only [putAll, Act.put, List.setIfInBounds_toArray, List.set_cons_zero, List.set_cons_succ]
        rfl
      refine one_ (i := 7) (N := none) #[true, true, true, true, true, true, true, true, false] rfl rfl (one_of HT_.out (by kernel_rfl)) (by decide) (fun K hK => ?_)
      have hs51 : w50.cell? ⟨gb578, 0, none⟩ = some (.bool false) := (blk_cell BK578.out 0).trans rfl
      have hfs51 := blk_frozen BK578.out 0
      have hns51_0 := NB543_578.out
      have hns51_1 := NB552_578.out
      have hns51_2 := NB562_578.out
      have hms51_0 := NB578_543.out
      have hms51_1 := NB578_552.out
      have hms51_2 := NB578_562.out
      have hs53 : w50.cell? ⟨gb578, 1, none⟩ = some (.slice none 0 0) := (blk_cell BK578.out 1).trans rfl
      have hfs53 := blk_frozen BK578.out 1
      have hns53_0 := NB543_578.out
      have hns53_1 := NB552_578.out
      have hns53_2 := NB562_578.out
      have hms53_0 := NB578_543.out
      have hms53_1 := NB578_552.out
      have hms53_2 := NB578_562.out
      have hs55 : w50.cell? ⟨gb578, 2, none⟩ = some (.slice none 0 0) := (blk_cell BK578.out 2).trans rfl
      have hfs55 := blk_frozen BK578.out 2
      have hns55_0 := NB543_578.out
      have hns55_1 := NB552_578.out
      have hns55_2 := NB562_578.out
      have hms55_0 := NB578_543.out
      have hms55_1 := NB578_552.out
      have hms55_2 := NB578_562.out
      refine skip_ (w1 := ?_) (by rfl) rfl ?_ ?_
      rotate_left
      · go_simp
        rfl
      refine hK.out _ _ ⟨((cell_far (p := ⟨gb578, _, none⟩) NB562_578.out _).trans (((cell_far (p := ⟨gb578, _, none⟩) NB562_578.out _).trans (((cell_far (p := ⟨gb578, _, none⟩) NB562_578.out _).trans (hHeld.1)))))), ((cell_far (p := ⟨gb578, _, none⟩) NB562_578.out _).trans (((cell_far (p := ⟨gb578, _, none⟩) NB562_578.out _).trans (((cell_far (p := ⟨gb578, _, none⟩) NB562_578.out _).trans (hHeld.2.1)))))), ((cell_far (p := ⟨gb578, _, none⟩) NB562_578.out _).trans (((cell_far (p := ⟨gb578, _, none⟩) NB562_578.out _).trans (((cell_far (p := ⟨gb578, _, none⟩) NB562_578.out _).trans (hHeld.2.2))))))⟩ (fun hHeld => ?_)
      clear hK K
      refine pure_ (i := 8) (N := some 4) (v := ?_) (a' := ?_) #[true, true, true, true, true, true, true, true, true] rfl rfl dT (fun _ _ _ h => h) (Or.inl ⟨by rfl, ?_⟩) ?_ ?_
      rotate_left
      · intro w'
        go_simp
        with_reducible rfl
      rotate_left
      · simp only [Act.put, List.setIfInBounds_toArray, List.set_cons_zero, List.set_cons_succ, i64_w, i32_w]
        rfl
      refine done_ (done_of HT_.out (by kernel_rfl)) ?_
      have hnb56 := NB562_578.out
      have hnc56 := NB578_562.out
      obtain ⟨hcz57_0, hcz57_1, hcz57_2⟩ := cz3 BK562.out
      obtain ⟨hfz57_0, hfz57_1, hfz57_2⟩ := fz3 BK562.out
      have hnb58 := NB552_578.out
      have hnc58 := NB578_552.out
      obtain ⟨hcz59_0, hcz59_1, hcz59_2⟩ := cz3 BK552.out
      obtain ⟨hfz59_0, hfz59_1, hfz59_2⟩ := fz3 BK552.out
      try go_wp2_with (first | ((with_reducible refine gate_callee (f := 15) rfl ?_); refine gL (some 39) Try.func15 #[.agg #[.bool t554, .slice Ao41 t555.length co41, .slice Ao42 t558.length co42], .agg #[.bool t544, .slice Ao10 t545.length co10, .slice Ao11 t548.length co11]] ?_; (with_reducible refine (rat_Cmp.calls kj2 t554 _ _ t555 _ _ t558 t544 _ _ t545 _ _ t548 t579 t580 _ ?side1 (Kd.R_reads' HO557.out).2.1 ?side3 (Kd.R_reads' HO560.out).2.1 ?side5 (Kd.R_reads' HO_553001.out).2.1 ?side7 (Kd.R_reads' HO_553002.out).2.1 A19.out).mono ?_); (case side1 => refine (Kd.R_reads' (e := 44) (base := w.heap.size) (ok := fun k_ => (oN Ao42 t558 co42 k_ ∧ (some k_ ≠ (v565 : Value).ownBlock ∧ (some k_ ≠ (v568 : Value).ownBlock ∧ (oN Ao52 t571 co52 k_ ∧ (oN Ao54 t574 co54 k_ ∧ (oN Ao10 t545 co10 k_ ∧ oN Ao11 t548 co11 k_))))))) (n := t555.length) (c := co41) ?_).2.2; exact (oR HO557.out BK578.out)); (case side3 => refine (Kd.R_reads' (e := 44) (base := w.heap.size) (ok := fun k_ => (oN Ao41 t555 co41 k_ ∧ (some k_ ≠ (v565 : Value).ownBlock ∧ (some k_ ≠ (v568 : Value).ownBlock ∧ (oN Ao52 t571 co52 k_ ∧ (oN Ao54 t574 co54 k_ ∧ (oN Ao10 t545 co10 k_ ∧ oN Ao11 t548 co11 k_))))))) (n := t558.length) (c := co42) ?_).2.2; exact (oR HO560.out BK578.out)); (case side5 => refine (Kd.R_reads' (e := 44) (base := w.heap.size) (ok := fun k_ => (oN Ao41 t555 co41 k_ ∧ (oN Ao42 t558 co42 k_ ∧ (some k_ ≠ (v565 : Value).ownBlock ∧ (some k_ ≠ (v568 : Value).ownBlock ∧ (oN Ao52 t571 co52 k_ ∧ (oN Ao54 t574 co54 k_ ∧ oN Ao11 t548 co11 k_))))))) (n := t545.length) (c := co10) ?_).2.2; exact (oR HO_553001.out BK578.out)); (case side7 => refine (Kd.R_reads' (e := 44) (base := w.heap.size) (ok := fun k_ => (oN Ao41 t555 co41 k_ ∧ (oN Ao42 t558 co42 k_ ∧ (some k_ ≠ (v565 : Value).ownBlock ∧ (some k_ ≠ (v568 : Value).ownBlock ∧ (oN Ao52 t571 co52 k_ ∧ (oN Ao54 t574 co54 k_ ∧ oN Ao10 t545 co10 k_))))))) (n := t548.length) (c := co11) ?_).2.2; exact (oR HO_553002.out BK578.out)); rintro e w60 ⟨rfl, hb⟩; refine ⟨_, rfl, ?_⟩; replace HO_553001 := oX HO_553001.out BK578.out hb; replace HO_553002 := oX HO_553002.out BK578.out hb; replace HO557 := oX HO557.out BK578.out hb; replace HO560 := oX HO560.out BK578.out hb; replace HO566 := oX HO566.out BK578.out hb; replace HO569 := oX HO569.out BK578.out hb; replace HO573 := oX HO573.out BK578.out hb; replace HO576 := oX HO576.out BK578.out hb; replace BK543 := aM (blk_below (g := gb543) (o := .cells #[.bool a0_0, .slice A0_1 l0_1.length c0_1, .slice A0_2 l0_2.length c0_2] 24 (0, 0)) (dQ1 BK543.out NB543_578.out) hb); replace BK552 := aM (blk_below (g := gb552) (o := .cells #[.bool t544, .slice Ao10 t545.length co10, .slice Ao11 t548.length co11] 25 (0, 0)) (dQ1 BK552.out NB552_578.out) hb); replace BK562 := aM (blk_below (g := gb562) (o := .cells #[.bool t554, .slice Ao41 t555.length co41, .slice Ao42 t558.length co42] 25 (0, 0)) (dQ1 BK562.out NB562_578.out) hb); replace BK578 := aM (blk_below (g := gb578) (o := .cells #[.bool t570, .slice Ao52 t571.length co52, .slice Ao54 t574.length co54] 25 (0, 0)) (dP BK578.out) hb); replace HB := hS HB.out hb; (try clear hb); obtain ⟨hcz61_0, hcz61_1, hcz61_2⟩ := cz3 BK552.out; obtain ⟨hfz61_0, hfz61_1, hfz61_2⟩ := fz3 BK552.out; have hnb62 := NB578_543.out; have hnc62 := NB543_578.out; obtain ⟨hcz63_0, hcz63_1, hcz63_2⟩ := cz3 BK578.out; obtain ⟨hfz63_0, hfz63_1, hfz63_2⟩ := fz3 BK578.out) | ((with_reducible refine gate_callee (f := 15) rfl ?_); refine gL (some 45) Try.func15 #[.agg #[.bool t544, .slice Ao10 t545.length co10, .slice Ao11 t548.length co11], .agg #[.bool t570, .slice Ao52 t571.length co52, .slice Ao54 t574.length co54]] ?_; (with_reducible refine (rat_Cmp.calls kj2 t544 _ _ t545 _ _ t548 t570 _ _ t571 _ _ t574 t581 t582 _ ?side1 (Kd.R_reads' HO_553001.out).2.1 ?side3 (Kd.R_reads' HO_553002.out).2.1 ?side5 (Kd.R_reads' HO573.out).2.1 ?side7 (Kd.R_reads' HO576.out).2.1 A20.out).mono ?_); (case side1 => exact dC (Kd.R_reads' HO_553001.out).2.2); (case side3 => exact dC (Kd.R_reads' HO_553002.out).2.2); (case side5 => exact dC (Kd.R_reads' HO573.out).2.2); (case side7 => exact dC (Kd.R_reads' HO576.out).2.2); rintro e w64 ⟨rfl, hb⟩; refine ⟨_, rfl, ?_⟩; replace HO_553001 := oB HO_553001.out hb; replace HO_553002 := oB HO_553002.out hb; replace HO557 := oB HO557.out hb; replace HO560 := oB HO560.out hb; replace HO566 := oB HO566.out hb; replace HO569 := oB HO569.out hb; replace HO573 := oB HO573.out hb; replace HO576 := oB HO576.out hb; replace BK543 := bB BK543.out hb; replace BK552 := bB BK552.out hb; replace BK562 := bB BK562.out hb; replace BK578 := bB BK578.out hb; replace HB := hS HB.out hb; (try clear hb); obtain ⟨hcz65_0, hcz65_1, hcz65_2⟩ := cz3 BK562.out; obtain ⟨hfz65_0, hfz65_1, hfz65_2⟩ := fz3 BK562.out) | ((with_reducible refine gate_callee (f := 18) rfl ?_); refine gL (some 50) Try.func18 #[.agg #[.bool t554, .slice Ao41 t555.length co41, .slice Ao42 t558.length co42]] ?_; (with_reducible refine (rat_Floor.calls kj2 t554 _ _ t555 _ _ t558 t583 t584 t587 t590 _ ?side1 (Kd.R_reads' HO557.out).2.1 ?side3 (Kd.R_reads' HO560.out).2.1 A21.out).mono ?_); (case side1 => exact dC (Kd.R_reads' HO557.out).2.2); (case side3 => exact dC (Kd.R_reads' HO560.out).2.2); rintro e w66 ⟨v585, v588, rfl, ho0, ho1, hb⟩; refine ⟨_, rfl, ?_⟩; have HO586 := aM (Kd.R_lower (Kd.R_new' (Kd.R_new' (Kd.R_new' (Kd.R_new' (Kd.R_new' (Kd.R_new' (Kd.R_new' (Kd.R_new' ho0 (Kd.R_lt (dR HO_553001.out))) (Kd.R_lt (dR HO_553002.out))) (Kd.R_lt (dR HO557.out))) (Kd.R_lt (dR HO560.out))) (Kd.R_lt (dR HO566.out))) (Kd.R_lt (dR HO569.out))) (Kd.R_lt (dR HO573.out))) (Kd.R_lt (dR HO576.out))) (below_size eB)); have HO589 := aM (Kd.R_lower (Kd.R_new' (Kd.R_new' (Kd.R_new' (Kd.R_new' (Kd.R_new' (Kd.R_new' (Kd.R_new' (Kd.R_new' ho1 (Kd.R_lt (dR HO_553001.out))) (Kd.R_lt (dR HO_553002.out))) (Kd.R_lt (dR HO557.out))) (Kd.R_lt (dR HO560.out))) (Kd.R_lt (dR HO566.out))) (Kd.R_lt (dR HO569.out))) (Kd.R_lt (dR HO573.out))) (Kd.R_lt (dR HO576.out))) (below_size eB)); replace HO_553001 := aM (Kd.R_mono (Kd.R_told (Kd.R_told (Kd.R_old (dR HO_553001.out) hb) (Kd.R_base ho0)) (Kd.R_base ho1)) (fun _ h_ => h_.1)); replace HO_553002 := aM (Kd.R_mono (Kd.R_told (Kd.R_told (Kd.R_old (dR HO_553002.out) hb) (Kd.R_base ho0)) (Kd.R_base ho1)) (fun _ h_ => h_.1)); replace HO557 := aM (Kd.R_mono (Kd.R_told (Kd.R_told (Kd.R_old (dR HO557.out) hb) (Kd.R_base ho0)) (Kd.R_base ho1)) (fun _ h_ => h_.1)); replace HO560 := aM (Kd.R_mono (Kd.R_told (Kd.R_told (Kd.R_old (dR HO560.out) hb) (Kd.R_base ho0)) (Kd.R_base ho1)) (fun _ h_ => h_.1)); replace HO566 := aM (Kd.R_mono (Kd.R_told (Kd.R_told (Kd.R_old (dR HO566.out) hb) (Kd.R_base ho0)) (Kd.R_base ho1)) (fun _ h_ => h_.1)); replace HO569 := aM (Kd.R_mono (Kd.R_told (Kd.R_told (Kd.R_old (dR HO569.out) hb) (Kd.R_base ho0)) (Kd.R_base ho1)) (fun _ h_ => h_.1)); replace HO573 := aM (Kd.R_mono (Kd.R_told (Kd.R_told (Kd.R_old (dR HO573.out) hb) (Kd.R_base ho0)) (Kd.R_base ho1)) (fun _ h_ => h_.1)); replace HO576 := aM (Kd.R_mono (Kd.R_told (Kd.R_told (Kd.R_old (dR HO576.out) hb) (Kd.R_base ho0)) (Kd.R_base ho1)) (fun _ h_ => h_.1)); replace BK543 := bB BK543.out hb; replace BK552 := bB BK552.out hb; replace BK562 := bB BK562.out hb; replace BK578 := bB BK578.out hb; replace HB := hS HB.out hb; (try clear hb); (try clear ho0); (try clear ho1)) | ((with_reducible refine gate_dst (N := 12) rfl ?_); (try (refine gate_guard (by rfl) ?_; dsimp only)); refine bE 12 #[.bool false, .slice none 0 0, .slice none 0 0] 25 ?_; intro gb591 hg w67 hbox hb; replace HO_553001 := oB HO_553001.out hb; replace HO_553002 := oB HO_553002.out hb; replace HO557 := oB HO557.out hb; replace HO560 := oB HO560.out hb; replace HO566 := oB HO566.out hb; replace HO569 := oB HO569.out hb; replace HO573 := oB HO573.out hb; replace HO576 := oB HO576.out hb; replace HO586 := oB HO586.out hb; replace HO589 := oB HO589.out hb; have BK591 := aM (hbox); have GW591 : Aside0 (w.heap.size ≤ gb591) := gE hg; have GE591 : Aside0 (w.heap.size ≤ gb591) := gE hg; replace HB := hS HB.out hb; have NB543_591 := nL hg BK543.out; have NB591_543 := nG hg BK543.out; replace BK543 := bB BK543.out hb; have NB552_591 := nL hg BK552.out; have NB591_552 := nG hg BK552.out; replace BK552 := bB BK552.out hb; have NB562_591 := nL hg BK562.out; have NB591_562 := nG hg BK562.out; replace BK562 := bB BK562.out hb; have NB578_591 := nL hg BK578.out; have NB591_578 := nG hg BK578.out; replace BK578 := bB BK578.out hb; clear hb hbox hg; have hnb68 := NB591_543.out; have hnc68 := NB543_591.out; have hnb69 := NB591_552.out; have hnc69 := NB552_591.out; have hnb70 := NB591_562.out; have hnc70 := NB562_591.out; have hnb71 := NB591_578.out; have hnc71 := NB578_591.out; obtain ⟨hcz72_0, hcz72_1, hcz72_2⟩ := cz3 BK591.out; obtain ⟨hfz72_0, hfz72_1, hfz72_2⟩ := fz3 BK591.out; obtain ⟨Ao73, co73, rfl⟩ := Kd.R_slice HO586.out; obtain ⟨Ao74, co74, rfl⟩ := Kd.R_slice HO589.out; obtain ⟨hcz75_0, hcz75_1, hcz75_2⟩ := cz3 BK562.out; obtain ⟨hfz75_0, hfz75_1, hfz75_2⟩ := fz3 BK562.out) | (go_at_call 19; (with_reducible refine (rat_Check.calls kj2 t554 _ _ t555 _ _ t558 t592 _ ?side1 (Kd.R_reads' HO557.out).2.1 ?side3 (Kd.R_reads' HO560.out).2.1 A27.out).mono ?_); (case side1 => refine (Kd.R_reads' (e := 44) (base := w.heap.size) (ok := fun k_ => (((oN Ao42 t558 co42 k_ ∧ (some k_ ≠ (v565 : Value).ownBlock ∧ (some k_ ≠ (v568 : Value).ownBlock ∧ (oN Ao52 t571 co52 k_ ∧ (oN Ao54 t574 co54 k_ ∧ (oN Ao10 t545 co10 k_ ∧ oN Ao11 t548 co11 k_)))))) ∧ oN Ao73 t584 co73 k_) ∧ oN Ao74 t587 co74 k_)) (n := t555.length) (c := co41) ?_).2.2; exact (oR HO557.out BK591.out)); (case side3 => refine (Kd.R_reads' (e := 44) (base := w.heap.size) (ok := fun k_ => (((oN Ao41 t555 co41 k_ ∧ (some k_ ≠ (v565 : Value).ownBlock ∧ (some k_ ≠ (v568 : Value).ownBlock ∧ (oN Ao52 t571 co52 k_ ∧ (oN Ao54 t574 co54 k_ ∧ (oN Ao10 t545 co10 k_ ∧ oN Ao11 t548 co11 k_)))))) ∧ oN Ao73 t584 co73 k_) ∧ oN Ao74 t587 co74 k_)) (n := t558.length) (c := co42) ?_).2.2; exact (oR HO560.out BK591.out)); rintro e w76 ⟨rfl, hb⟩; replace HO_553001 := oX HO_553001.out BK591.out hb; replace HO_553002 := oX HO_553002.out BK591.out hb; replace HO557 := oX HO557.out BK591.out hb; replace HO560 := oX HO560.out BK591.out hb; replace HO566 := oX HO566.out BK591.out hb; replace HO569 := oX HO569.out BK591.out hb; replace HO573 := oX HO573.out BK591.out hb; replace HO576 := oX HO576.out BK591.out hb; replace HO586 := oX HO586.out BK591.out hb; replace HO589 := oX HO589.out BK591.out hb; replace BK543 := aM (blk_below (g := gb543) (o := .cells #[.bool a0_0, .slice A0_1 l0_1.length c0_1, .slice A0_2 l0_2.length c0_2] 24 (0, 0)) (dQ1 BK543.out NB543_591.out) hb); replace BK552 := aM (blk_below (g := gb552) (o := .cells #[.bool t544, .slice Ao10 t545.length co10, .slice Ao11 t548.length co11] 25 (0, 0)) (dQ1 BK552.out NB552_591.out) hb); replace BK562 := aM (blk_below (g := gb562) (o := .cells #[.bool t554, .slice Ao41 t555.length co41, .slice Ao42 t558.length co42] 25 (0, 0)) (dQ1 BK562.out NB562_591.out) hb); replace BK578 := aM (blk_below (g := gb578) (o := .cells #[.bool t570, .slice Ao52 t571.length co52, .slice Ao54 t574.length co54] 25 (0, 0)) (dQ1 BK578.out NB578_591.out) hb); replace BK591 := aM (blk_below (g := gb591) (o := .cells #[.bool t583, .slice Ao73 t584.length co73, .slice Ao74 t587.length co74] 25 (0, 0)) (dP BK591.out) hb); replace HB := hS HB.out hb; (try clear hb); obtain ⟨hcz77_0, hcz77_1, hcz77_2⟩ := cz3 BK562.out; obtain ⟨hfz77_0, hfz77_1, hfz77_2⟩ := fz3 BK562.out) | ((with_reducible refine gate_dst (N := 78) rfl ?_); (try (refine gate_guard (by rfl) ?_; dsimp only)); refine Kd.R_lit (Kd.int .u64) _ 44 ?hg (N := 78) ?hd (xs := ([1] : List Int)) (inner := [.int .u64 1]) (ok := fun _ => True) (okp := fun _ => True) ?hr ?hp (fun _ hk => hk) trivial (Below.refl _ _) (Nat.le_refl _) (by simp) ?_; (case hd => rfl); (case hg => rfl); (case hr => first | (go_simp; done) | (go_simp; rfl)); (case hp => exact (Reps.one (show Kd.M (Kd.int .u64) _ _ _ 1 [.int .u64 1] from rfl) (Reps.none _ _))); intro v594 w78 ho79 hb hg_ hnew_; clear hg_ hnew_; (first | rw [← Ny593.out] at ho79 | (simp only [Int.reduceToNat] at ho79; rw [← Ny593.out] at ho79)); have HO595 := aM (Kd.R_lower (Kd.R_new' (Kd.R_new' (Kd.R_new' (Kd.R_new' (Kd.R_new' (Kd.R_new' (Kd.R_new' (Kd.R_new' (Kd.R_new' (Kd.R_new' ho79 (Kd.R_lt (dR HO_553001.out))) (Kd.R_lt (dR HO_553002.out))) (Kd.R_lt (dR HO557.out))) (Kd.R_lt (dR HO560.out))) (Kd.R_lt (dR HO566.out))) (Kd.R_lt (dR HO569.out))) (Kd.R_lt (dR HO573.out))) (Kd.R_lt (dR HO576.out))) (Kd.R_lt (dR HO586.out))) (Kd.R_lt (dR HO589.out))) (below_size eB)); replace HO_553001 := oE HO_553001.out ho79 hb; replace HO_553002 := oE HO_553002.out ho79 hb; replace HO557 := oE HO557.out ho79 hb; replace HO560 := oE HO560.out ho79 hb; replace HO566 := oE HO566.out ho79 hb; replace HO569 := oE HO569.out ho79 hb; replace HO573 := oE HO573.out ho79 hb; replace HO576 := oE HO576.out ho79 hb; replace HO586 := oE HO586.out ho79 hb; replace HO589 := oE HO589.out ho79 hb; replace BK543 := bB BK543.out hb; replace BK552 := bB BK552.out hb; replace BK562 := bB BK562.out hb; replace BK578 := bB BK578.out hb; replace BK591 := bB BK591.out hb; replace HB := hS HB.out hb; clear hb ho79; obtain ⟨Ao80, co80, rfl⟩ := Kd.R_slice HO595.out) | (go_at_call 20; (with_reducible refine (plumblaw05_same.calls kj2 _ _ t558 _ _ y593 true _ ?side1 (Kd.R_reads' HO560.out).2.1 ?side3 (Kd.R_reads' HO595.out).2.1 A29.out).mono ?_); (case side1 => exact dC (Kd.R_reads' HO560.out).2.2); (case side3 => exact dC (Kd.R_reads' HO595.out).2.2); rintro e w' ⟨rfl, ⟨nd, rfl⟩⟩; obtain ⟨hcz81_0, hcz81_1, hcz81_2⟩ := cz3 BK591.out; obtain ⟨hfz81_0, hfz81_1, hfz81_2⟩ := fz3 BK591.out; obtain ⟨hcz82_0, hcz82_1, hcz82_2⟩ := cz3 BK562.out; obtain ⟨hfz82_0, hfz82_1, hfz82_2⟩ := fz3 BK562.out) | (go_at_call 8; (with_reducible refine (plumblaw05_one.calls kj2 t583 _ _ t584 _ _ t587 t554 _ _ t555 _ _ t558 t597 _ ?side1 (Kd.R_reads' HO586.out).2.1 ?side3 (Kd.R_reads' HO589.out).2.1 ?side5 (Kd.R_reads' HO557.out).2.1 ?side7 (Kd.R_reads' HO560.out).2.1 A33.out).mono ?_); (case side1 => exact dC (Kd.R_reads' HO586.out).2.2); (case side3 => exact dC (Kd.R_reads' HO589.out).2.2); (case side5 => exact dC (Kd.R_reads' HO557.out).2.2); (case side7 => exact dC (Kd.R_reads' HO560.out).2.2); rintro e w83 ⟨rfl, hb⟩; replace HO_553001 := oB HO_553001.out hb; replace HO_553002 := oB HO_553002.out hb; replace HO557 := oB HO557.out hb; replace HO560 := oB HO560.out hb; replace HO566 := oB HO566.out hb; replace HO569 := oB HO569.out hb; replace HO573 := oB HO573.out hb; replace HO576 := oB HO576.out hb; replace HO586 := oB HO586.out hb; replace HO589 := oB HO589.out hb; replace HO595 := oB HO595.out hb; replace BK543 := bB BK543.out hb; replace BK552 := bB BK552.out hb; replace BK562 := bB BK562.out hb; replace BK578 := bB BK578.out hb; replace BK591 := bB BK591.out hb; replace HB := hS HB.out hb; (try clear hb)))
      go_ret
      exact ⟨dE, eB⟩
end Go.Proofs.Ytiogfeeaepkkmaa.PA
