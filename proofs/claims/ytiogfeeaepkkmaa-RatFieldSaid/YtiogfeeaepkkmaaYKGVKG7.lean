/- A part of the proof (7). -/
import Derived.Test.YtiogfeeaepkkmaaYKGVKG2
import Derived.Test.YtiogfeeaepkkmaaYKGVKG6
import Derived.Test.YtiogfeeaepkkmaaYKGVKG3
namespace Go.Proofs.Ytiogfeeaepkkmaa.PA
open Go.RowKit Go.Proofs.YtiogfeeaepkkmaaW.PrintWords Go.Proofs.YtiogfeeaepkkmaaW.PrintLast Go.Proofs.YtiogfeeaepkkmaaW.PrintMore
attribute [local go_sem] max2_int min2_int max_two min_two max_three min_three max_four min_four
set_option linter.unusedVariables false
set_option linter.unusedSimpArgs false
def plumblaw05_same.l0 : Nat → List Int → List Int → Int → Option (Bool)
 | 0, _, _, _ => none
 | k + 1, x0, x1, x5 => if x5 < (x0.length : Int) then (if 0 ≤ x5 then (if x5 < (x1.length : Int) then (if (rd x0 x5) = (rd x1 x5) then (plumblaw05_same.l0 k x0 x1 (wrap64 (x5 + 1))) else (some false)) else (none)) else (none)) else (some true)
def plumblaw05_same.f (k : Nat) (l0 : List Int) (l1 : List Int) : Option (Bool) := if (l0.length : Int) = (l1.length : Int) then (plumblaw05_same.l0 k l0 l1 0) else (some false)
theorem plumblaw05_same.mono_l : ∀ k, (∀ y0 y1 y2, LeO (plumblaw05_same.l0 k y0 y1 y2) (plumblaw05_same.l0 (k + 1) y0 y1 y2))
 | 0 => fun _ _ _ r h => by simp [plumblaw05_same.l0] at h
 | k + 1 => by
  have ih0 := plumblaw05_same.mono_l k
  ·intro y0 y1 y2
   unfold plumblaw05_same.l0
   exact mX
theorem plumblaw05_same.mono : ∀ a0 a1 k, LeO (plumblaw05_same.f k a0 a1) (plumblaw05_same.f (k + 1) a0 a1) := by
 intro a0 a1 k
 have ih0 := plumblaw05_same.mono_l k
 unfold plumblaw05_same.f
 exact mX
set_option maxHeartbeats 8000000 in
set_option maxRecDepth 100000 in
theorem plumblaw05_same.calls (k : Nat) (A0 : Option Addr) (c0 : Nat) (l0 : List Int) (A1 : Option Addr) (c1 : Nat) (l1 : List Int) (r : Bool) (w : World) (hr0 : Kd.C (Kd.int .u64) w A0 l0.length l0) (hc0 : l0.length ≤ c0) (hr1 : Kd.C (Kd.int .u64) w A1 l1.length l1) (hc1 : l1.length ≤ c1) (h : plumblaw05_same.f k l0 l1 = some r) :
  Calls Try.prog 20 #[.slice A0 l0.length c0, .slice A1 l1.length c1] w fun e w' => e = .returned (.bool r) ∧ Drawn0 w w' := by
 have HR0 := aM hr0
 have HC0 := aM hc0
 clear hr0 hc0
 have HR1 := aM hr1
 have HC1 := aM hc1
 clear hr1 hc1
 have H := h
 clear h
 unfold plumblaw05_same.f at H
 by_cases c3 : (l0.length : Int) = (l1.length : Int)
 ·rw [if_pos c3] at H
  obtain ⟨c3b0, c3b1⟩ := bT c3
  have c3b2 : (l0.length == l1.length) = true := by first | simpa using c3 | (simp at c3 ⊢; omega)
  clear c3
  have H' := aM H
  clear H
  go_enter Try.func20, Try.ntmps20
  go_wp2
  repeat (go_quiet (fail); try go_wp2)
  go_loopg [5] k (fun kq v5 w' => ∃ (x5_1 : Int), v5 = .int .i64 x5_1 ∧ Aside0 (plumblaw05_same.l0 kq l0 l1 x5_1 = some r) ∧ Aside0 (kq ≤ k) ∧ Drawn0 w w')
  case atStart => exact ⟨(0), dF, H', ⟨Nat.le_refl _⟩, dD⟩
  case round =>
   clear H'
   try clear c1
   try clear c3
   try clear c3b0 c3b1
   try clear c3b2
   obtain ⟨x5_1, rfl, HA, HK1, ⟨m1, rfl⟩⟩ := hrel
   cases gk with
   | zero => exact absurd HA.out (by simp [plumblaw05_same.l0])
   | succ k1 =>
    have H := HA.out
    clear HA
    simp only [plumblaw05_same.l0] at H
    by_cases c4 : x5_1 < (l0.length : Int)
    ·rw [if_pos c4] at H
     have c4b0 := decide_eq_true c4
     clear c4
     replace H := nO H
     obtain ⟨c5, H⟩ := H
     have c5b0 : decide (0 ≤ x5_1) = true := decide_eq_true c5
     clear c5
     replace H := nO H
     obtain ⟨c6, H⟩ := H
     have c6b0 := decide_eq_true c6
     clear c6
     by_cases c7 : (rd l0 x5_1) = (rd l1 x5_1)
     ·rw [if_pos c7] at H
      obtain ⟨c7b0, c7b1⟩ := bT c7
      clear c7
      have H' := aM H
      clear H
      have p276 : 0 ≤ (x5_1 : Int) := of_decide_eq_true dS
      have q276 : x5_1 < (l0.length : Int) := of_decide_eq_true dS
      obtain ⟨ad276, e276, hx276_0⟩ := Kd.at_int HR0.out x5_1 p276 q276
      cases e276
      replace p276 := eq_true p276
      replace q276 := eq_true q276
      have p277 : 0 ≤ (x5_1 : Int) := of_decide_eq_true dS
      have q277 : x5_1 < (l1.length : Int) := of_decide_eq_true dS
      obtain ⟨ad277, e277, hx277_0⟩ := Kd.at_int HR1.out x5_1 p277 q277
      cases e277
      replace p277 := eq_true p277
      replace q277 := eq_true q277
      go_wp2
      repeat (go_quiet (fail); try go_wp2)
      go_roundg k1
      case measure => have := HK1.out; omega
      case rel => exact ⟨(wrap64 (x5_1 + 1)), dF, H', ⟨by have := HK1.out; omega⟩, dD⟩
     ·rw [if_neg c7] at H
      obtain ⟨c7b0, c7b1⟩ := bF c7
      obtain rfl := Option.some.inj H
      have p276 : 0 ≤ (x5_1 : Int) := of_decide_eq_true dS
      have q276 : x5_1 < (l0.length : Int) := of_decide_eq_true dS
      obtain ⟨ad276, e276, hx276_0⟩ := Kd.at_int HR0.out x5_1 p276 q276
      cases e276
      replace p276 := eq_true p276
      replace q276 := eq_true q276
      have p277 : 0 ≤ (x5_1 : Int) := of_decide_eq_true dS
      have q277 : x5_1 < (l1.length : Int) := of_decide_eq_true dS
      obtain ⟨ad277, e277, hx277_0⟩ := Kd.at_int HR1.out x5_1 p277 q277
      cases e277
      replace p277 := eq_true p277
      replace q277 := eq_true q277
      go_wp2
      repeat (go_quiet (fail); try go_wp2)
      go_ret
      exact ⟨dF, dD⟩
    ·rw [if_neg c4] at H
     have c4b0 := decide_eq_false c4
     clear c4
     obtain rfl := Option.some.inj H
     go_wp2
     repeat (go_quiet (fail); try go_wp2)
     go_ret
     exact ⟨dF, dD⟩
 ·rw [if_neg c3] at H
  obtain ⟨c3b0, c3b1⟩ := bF c3
  have c3b2 : (l0.length == l1.length) = false := by first | simpa using c3 | (simp at c3 ⊢; omega)
  obtain rfl := Option.some.inj H
  go_enter Try.func20, Try.ntmps20
  go_wp2
  repeat (go_quiet (fail); try go_wp2)
  go_ret
  exact ⟨dF, dD⟩
theorem goesG_ {P : Program} {ops : Array Oper} {Q : Exit → Act → World → Prop} {rest : List Oper} {oi : Oper} {a : Act} {w : World} (N : Option Tmp) (hd : oi.dst = N) (hg : oi.guard = none) {f : FuncId} {xs : Array Operand} {ts : Array TypeId} {op0 : Operand} {cap : Array Value} (args : Array Value)
  (hent : (callFunc f args).run P w = .ok (.enter f args) w) (hop : oi.op = .call { callee := .value op0, args := xs, argTypes := ts }) (hv : a.eval op0 = .func (.func f) #[] cap) (hargs : xs.map a.eval ++ cap = args)
  (h : Calls P f args w fun e w' => ∃ v, e = .returned v ∧ wpList P ops Q rest (a.put N v) w') : wpList P ops Q (oi :: rest) a w := by
 refine wpList_plain hg fun K hK => ?_
 have hrun : (execOp a.eval oi).run P w = .ok (.enter f args) w := by
  unfold execOp
  simp [hop, resolve, Deferred.ofValue, invoke, hv, hargs, hent]
 unfold Oper.wp
 rw [hrun, Oper.upon_enter]
 refine h.mono fun e w'' hh => ?_
 obtain ⟨v, rfl, hk⟩ := hh
 subst hd
 exact hK _ _ hk
theorem run_loadVarE (w : World) (g : Nat) (v : Value) (hg : w.heap[g]? = some (.cells #[v] 33 (0, 0))) : (loadVar 33 ⟨g, 0, none⟩).run Try.prog w = .ok v w := by
 have hc : w.cell? ⟨g, 0, none⟩ = some v := (blk_cell hg 0).trans rfl
 simp [loadVar, go_sem, hc]
theorem results_cs {fn : Func} {p p' : Tmp} (h : fn.results = #[.cell p 25, .cell p' 33]) (tmps : Array Value) (w : World) (g g' : Nat) (cs : Array Value) (v : Value)
  (hp : tmps.getD p undef = .pointer (some ⟨g, 0, none⟩)) (hg : w.heap[g]? = some (.cells cs 25 (0, 0))) (hi : cs.size = 3)
  (hp' : tmps.getD p' undef = .pointer (some ⟨g', 0, none⟩)) (hg' : w.heap[g']? = some (.cells #[v] 33 (0, 0))) :
  (results fn tmps).run Try.prog w = .ok (.tuple #[.agg cs, v]) w := by
 have h1 : tmps[p]?.getD undef = .pointer (some ⟨g, 0, none⟩) := by simpa using hp
 have h2 : tmps[p']?.getD undef = .pointer (some ⟨g', 0, none⟩) := by simpa using hp'
 have hi' : (Try.prog.info? 25).map (·.size) = some cs.size := by rw [hi]; kernel_rfl
 simp [results, h, h1, h2, asAddr, run_loadVar_row w g 25 25 cs (0, 0) _ hg Try.underlying25 rfl hi', run_loadVarE w g' v hg']
theorem rat_idle (p q : Addr) (w : World) :
  CallsD Try.prog 48 #[.pointer (some p), .pointer (some q)] .returning w fun e u' w' => e = .returned (.tuple #[]) ∧ u' = .returning ∧ w' = w := by
 refine callsD_of_wpS Try.func48 rfl fun c₀ cs hu => ?_
 apply wpS_seq
 apply wpS_region
 simp [wpOpsS, go_sem, recoverD, hu, Try.ntmps48, Exit.thenS]
 apply wpS_seq
 apply wpS_region
 simp [wpOpsS, go_sem, Exit.thenS]
 refine wpS_cond (t := false) (by simp [Act.eval, Array.replicate]) ?_
 simp only [Bool.false_eq_true, if_false]
 refine wpS_of_wp (wp_skip ?_)
 cases c₀
 simp_all [bodyPostS, results, Try.results48]
def rat_reckoned.f (k : Nat) (a0_0 : Bool) (l0_1 l0_2 : List Int) (a1_0 : Bool) (l1_1 l1_2 : List Int) (fr : Option (Bool × List Int × List Int)) : Option (Bool × List Int × List Int × Int) :=
 (rat_Check.f k a0_0 l0_1 l0_2).bind fun t0 => (if t0 = 0 then ((rat_Check.f k a1_0 l1_1 l1_2).bind fun t1 => (if t1 = 0 then (fr.bind fun b => some (b.1, b.2.1, b.2.2, 0)) else none)) else none)
set_option maxHeartbeats 8000000 in
set_option maxRecDepth 100000 in
theorem rat_reckoned.calls {fno : FuncId} {cap : Array Value} (hent : ∀ (args : Array Value) (w : World), (callFunc fno args).run Try.prog w = .ok (.enter fno args) w) (k : Nat) (a0_0 : Bool) (A0_1 : Option Addr) (c0_1 : Nat) (l0_1 : List Int) (A0_2 : Option Addr) (c0_2 : Nat) (l0_2 : List Int) (a1_0 : Bool) (A1_1 : Option Addr) (c1_1 : Nat) (l1_1 : List Int) (A1_2 : Option Addr) (c1_2 : Nat) (l1_2 : List Int) (fr : Option (Bool × List Int × List Int)) (r1 : Bool) (r2 r3 : List Int) (r4 : Int) (w : World) (hr0_1 : Kd.C (Kd.int .u64) w A0_1 l0_1.length l0_1) (hc0_1 : l0_1.length ≤ c0_1) (hr0_2 : Kd.C (Kd.int .u64) w A0_2 l0_2.length l0_2) (hc0_2 : l0_2.length ≤ c0_2) (hr1_1 : Kd.C (Kd.int .u64) w A1_1 l1_1.length l1_1) (hc1_1 : l1_1.length ≤ c1_1) (hr1_2 : Kd.C (Kd.int .u64) w A1_2 l1_2.length l1_2) (hc1_2 : l1_2.length ≤ c1_2)
  (hcall : ∀ (w1 : World) (x1 : Bool) (x2 x3 : List Int), Below w.heap.size w w1 → fr = some (x1, x2, x3) → Calls Try.prog fno cap w1 fun e w' => ∃ v1_ v2_ : Value, e = .returned (.agg #[.bool x1, v1_, v2_]) ∧ Kd.R (Kd.int .u64) 44 w' w1.heap.size (fun k_ => some k_ ≠ (v2_ : Value).ownBlock) v1_ x2 ∧ Kd.R (Kd.int .u64) 44 w' w1.heap.size (fun k_ => some k_ ≠ (v1_ : Value).ownBlock) v2_ x3 ∧ Below w1.heap.size w1 w')
  (h : rat_reckoned.f k a0_0 l0_1 l0_2 a1_0 l1_1 l1_2 fr = some (r1, r2, r3, r4)) :
  Calls Try.prog 27 #[.agg #[.bool a0_0, .slice A0_1 l0_1.length c0_1, .slice A0_2 l0_2.length c0_2], .agg #[.bool a1_0, .slice A1_1 l1_1.length c1_1, .slice A1_2 l1_2.length c1_2], .func (.func fno) #[] cap] w fun e w' => ∃ v1_ v2_ : Value, e = .returned (.tuple #[.agg #[.bool r1, v1_, v2_], .int .i64 r4]) ∧ Kd.R (Kd.int .u64) 44 w' w.heap.size (fun k_ => some k_ ≠ (v2_ : Value).ownBlock) v1_ r2 ∧ Kd.R (Kd.int .u64) 44 w' w.heap.size (fun k_ => some k_ ≠ (v1_ : Value).ownBlock) v2_ r3 ∧ Below w.heap.size w w' := by
 have hmf : ∀ (fn : Fn) (first cap : Array Value) (w : World), (Instr.makeFunc fn first cap).run Try.prog w = .ok (.func fn first cap) w := fun _ _ _ _ => rfl
 have hu46 := Try.underlying25
 have HR0_1 := aM hr0_1
 have HC0_1 := aM hc0_1
 clear hr0_1 hc0_1
 have HR0_2 := aM hr0_2
 have HC0_2 := aM hc0_2
 clear hr0_2 hc0_2
 have HR1_1 := aM hr1_1
 have HC1_1 := aM hc1_1
 clear hr1_1 hc1_1
 have HR1_2 := aM hr1_2
 have HC1_2 := aM hc1_2
 clear hr1_2 hc1_2
 have HB := aM (Below.refl w.heap.size w)
 unfold rat_reckoned.f at h
 obtain ⟨t0, T00, h⟩ := Option.bind_eq_some_iff.mp h
 have T0 := aM T00
 clear T00
 by_cases q0 : t0 = 0
 ·rw [if_pos q0] at h
  obtain ⟨t1, T10, h⟩ := Option.bind_eq_some_iff.mp h
  have T1 := aM T10
  clear T10
  by_cases q1 : t1 = 0
  ·rw [if_pos q1] at h
   obtain ⟨⟨x1, x2, x3⟩, FR0, h⟩ := Option.bind_eq_some_iff.mp h
   have FR := aM FR0
   clear FR0
   simp only [Option.some.injEq, Prod.mk.injEq] at h
   obtain ⟨rfl, rfl, rfl, rfl⟩ := h
   subst q0 q1
   go_enter_defers Try.func27, Try.ntmps27
   go_wp2_with (first | ((with_reducible refine gate_dst (N := 3) rfl ?_); refine bE 3 #[.bool a0_0, .slice A0_1 l0_1.length c0_1, .slice A0_2 l0_2.length c0_2] 25 ?_; intro gA hg wA hbox hb; have BKA := aM (hbox); have GEA : Aside0 (w.heap.size ≤ gA) := Go.Proofs.YtiogfeeaepkkmaaW.PrintWords.gE hg; replace HB := hS HB.out hb; clear hb hbox hg) | ((with_reducible refine gate_dst (N := 4) rfl ?_); refine bE 4 #[.bool a1_0, .slice A1_1 l1_1.length c1_1, .slice A1_2 l1_2.length c1_2] 25 ?_; intro gB hg wB hbox hb; have BKB := aM (hbox); have GEB : Aside0 (w.heap.size ≤ gB) := Go.Proofs.YtiogfeeaepkkmaaW.PrintWords.gE hg; replace HB := hS HB.out hb; have NBAB := nL hg BKA.out; have NBBA := nG hg BKA.out; replace BKA := bB BKA.out hb; clear hb hbox hg) | ((with_reducible refine gate_dst (N := 6) rfl ?_); refine bE 6 #[.bool false, .slice none 0 0, .slice none 0 0] 25 ?_; intro gR hg wR hbox hb; have BKR := aM (hbox); have GER : Aside0 (w.heap.size ≤ gR) := Go.Proofs.YtiogfeeaepkkmaaW.PrintWords.gE hg; replace HB := hS HB.out hb; have NBAR := nL hg BKA.out; have NBRA := nG hg BKA.out; replace BKA := bB BKA.out hb; have NBBR := nL hg BKB.out; have NBRB := nG hg BKB.out; replace BKB := bB BKB.out hb; clear hb hbox hg) | ((with_reducible refine gate_dst (N := 7) rfl ?_); refine bE 7 #[.int .i64 0] 33 ?_; intro gE hg wE hbox hb; have BKE := aM (hbox); have GEE : Aside0 (w.heap.size ≤ gE) := Go.Proofs.YtiogfeeaepkkmaaW.PrintWords.gE hg; replace HB := hS HB.out hb; have NBAE := nL hg BKA.out; have NBEA := nG hg BKA.out; replace BKA := bB BKA.out hb; have NBBE := nL hg BKB.out; have NBEB := nG hg BKB.out; replace BKB := bB BKB.out hb; have NBRE := nL hg BKR.out; have NBER := nG hg BKR.out; replace BKR := bB BKR.out hb; clear hb hbox hg; have hnAB := NBAB.out; have hnAR := NBAR.out; have hnAE := NBAE.out; have hnBA := NBBA.out; have hnBR := NBBR.out; have hnBE := NBBE.out; have hnRA := NBRA.out; have hnRB := NBRB.out; have hnRE := NBRE.out; have hnEA := NBEA.out; have hnEB := NBEB.out; have hnER := NBER.out; have hcA0_wE : wE.cell? ⟨gA, 0, none⟩ = some (.bool a0_0) := (blk_cell BKA.out 0).trans rfl; have hfA0_wE := blk_frozen BKA.out 0; have hcA1_wE : wE.cell? ⟨gA, 1, none⟩ = some (.slice A0_1 l0_1.length c0_1) := (blk_cell BKA.out 1).trans rfl; have hfA1_wE := blk_frozen BKA.out 1; have hcA2_wE : wE.cell? ⟨gA, 2, none⟩ = some (.slice A0_2 l0_2.length c0_2) := (blk_cell BKA.out 2).trans rfl; have hfA2_wE := blk_frozen BKA.out 2; skip) | ((with_reducible refine gate_callee (f := 19) rfl ?_); refine goesL_ (some 9) rfl rfl Try.func19 (by kernel_rfl) rfl #[.agg #[.bool a0_0, .slice A0_1 l0_1.length c0_1, .slice A0_2 l0_2.length c0_2]] rfl (by (try simp only [List.map_toArray, List.map_cons, List.map_nil]); first | done | rfl) ?_; (with_reducible refine (rat_Check.calls k a0_0 _ _ l0_1 _ _ l0_2 0 _ ?side1 HC0_1.out ?side3 HC0_2.out T0.out).mono ?_); (case side1 => exact dC (Kd.C_below HR0_1.out HB.out)); (case side3 => exact dC (Kd.C_below HR0_2.out HB.out)); rintro e wc0 ⟨rfl, hb⟩; refine ⟨_, rfl, ?_⟩; replace BKA := bB BKA.out hb; replace BKB := bB BKB.out hb; replace BKR := bB BKR.out hb; replace BKE := bB BKE.out hb; replace HB := hS HB.out hb; (try clear hb); have hcB0_wc0 : wc0.cell? ⟨gB, 0, none⟩ = some (.bool a1_0) := (blk_cell BKB.out 0).trans rfl; have hfB0_wc0 := blk_frozen BKB.out 0; have hcB1_wc0 : wc0.cell? ⟨gB, 1, none⟩ = some (.slice A1_1 l1_1.length c1_1) := (blk_cell BKB.out 1).trans rfl; have hfB1_wc0 := blk_frozen BKB.out 1; have hcB2_wc0 : wc0.cell? ⟨gB, 2, none⟩ = some (.slice A1_2 l1_2.length c1_2) := (blk_cell BKB.out 2).trans rfl; have hfB2_wc0 := blk_frozen BKB.out 2; skip) | (go_at_call 19; (with_reducible refine (rat_Check.calls k a1_0 _ _ l1_1 _ _ l1_2 0 _ ?side1 HC1_1.out ?side3 HC1_2.out T1.out).mono ?_); (case side1 => exact dC (Kd.C_below HR1_1.out HB.out)); (case side3 => exact dC (Kd.C_below HR1_2.out HB.out)); rintro e wc1 ⟨rfl, hb⟩; replace BKA := bB BKA.out hb; replace BKB := bB BKB.out hb; replace BKR := bB BKR.out hb; replace BKE := bB BKE.out hb; replace HB := hS HB.out hb; (try clear hb); have hcR0_wc1 : wc1.cell? ⟨gR, 0, none⟩ = some (.bool false) := (blk_cell BKR.out 0).trans rfl; have hfR0_wc1 := blk_frozen BKR.out 0; have hcR1_wc1 : wc1.cell? ⟨gR, 1, none⟩ = some (.slice none 0 0) := (blk_cell BKR.out 1).trans rfl; have hfR1_wc1 := blk_frozen BKR.out 1; have hcR2_wc1 : wc1.cell? ⟨gR, 2, none⟩ = some (.slice none 0 0) := (blk_cell BKR.out 2).trans rfl; have hfR2_wc1 := blk_frozen BKR.out 2; have hcE0_wc1 : wc1.cell? ⟨gE, 0, none⟩ = some (.int .i64 0) := (blk_cell BKE.out 0).trans rfl; have hfE0_wc1 := blk_frozen BKE.out 0; skip) | ((with_reducible refine gate_dst (N := 19) rfl ?_); refine goesG_ (some 19) rfl rfl (f := fno) cap (hent _ _) rfl (by first | rfl | (go_simp; done)) (by simp) ?_; (with_reducible refine (hcall _ x1 x2 x3 eB FR.out).mono ?_); rintro e wf ⟨v1, v2, rfl, ho0, ho1, hb⟩; refine ⟨_, rfl, ?_⟩; replace BKA := bB BKA.out hb; replace BKB := bB BKB.out hb; replace BKR := bB BKR.out hb; replace BKE := bB BKE.out hb; have HO1 := aM (Kd.R_lower ho0 (below_size eB)); have HO2 := aM (Kd.R_lower ho1 (below_size eB)); replace HB := hS HB.out hb; (try clear hb); (try clear ho0); (try clear ho1); have hcR0_wf : wf.cell? ⟨gR, 0, none⟩ = some (.bool false) := (blk_cell BKR.out 0).trans rfl; have hfR0_wf := blk_frozen BKR.out 0; have hcR1_wf : wf.cell? ⟨gR, 1, none⟩ = some (.slice none 0 0) := (blk_cell BKR.out 1).trans rfl; have hfR1_wf := blk_frozen BKR.out 1; have hcR2_wf : wf.cell? ⟨gR, 2, none⟩ = some (.slice none 0 0) := (blk_cell BKR.out 2).trans rfl; have hfR2_wf := blk_frozen BKR.out 2; have hcE0_wf : wf.cell? ⟨gE, 0, none⟩ = some (.int .i64 0) := (blk_cell BKE.out 0).trans rfl; have hfE0_wf := blk_frozen BKE.out 0; obtain ⟨Ao1, co1, rfl⟩ := Kd.R_slice HO1.out; obtain ⟨Ao2, co2, rfl⟩ := Kd.R_slice HO2.out))
   refine leaves_cons (f := 48) (args := #[.pointer (some ⟨gR, 0, none⟩), .pointer (some ⟨gE, 0, none⟩)]) (by simp) (by simp [go_sem]) ?_
   refine (rat_idle _ _ _).mono ?_
   rintro e u' w'' ⟨rfl, rfl, rfl⟩
   refine ⟨_, results_cs (p := 6) (p' := 7) rfl _ _ gR gE #[.bool x1, .slice Ao1 x2.length co1, .slice Ao2 x3.length co2] (.int .i64 0) rfl (by (with_reducible repeat (first | refine blk_drewN ?_ _ | refine blk_drew ?_ | refine blk_alloc ?_ _)); refine blk_far ?_ NBRE.out _; (with_reducible repeat (first | refine blk_drewN ?_ _ | refine blk_drew ?_ | refine blk_alloc ?_ _)); refine blk_put (cs := #[.bool x1, .slice Ao1 x2.length co1, .slice none 0 0]) ?_ 2 _ rfl; (with_reducible repeat (first | refine blk_drewN ?_ _ | refine blk_drew ?_ | refine blk_alloc ?_ _)); refine blk_put (cs := #[.bool x1, .slice none 0 0, .slice none 0 0]) ?_ 1 _ rfl; (with_reducible repeat (first | refine blk_drewN ?_ _ | refine blk_drew ?_ | refine blk_alloc ?_ _)); refine blk_put (cs := #[.bool false, .slice none 0 0, .slice none 0 0]) ?_ 0 _ rfl; (with_reducible repeat (first | refine blk_drewN ?_ _ | refine blk_drew ?_ | refine blk_alloc ?_ _)); exact BKR.out) rfl rfl (by (with_reducible repeat (first | refine blk_drewN ?_ _ | refine blk_drew ?_ | refine blk_alloc ?_ _)); refine blk_put (cs := #[.int .i64 0]) ?_ 0 _ rfl; (with_reducible repeat (first | refine blk_drewN ?_ _ | refine blk_drew ?_ | refine blk_alloc ?_ _)); refine blk_far ?_ NBER.out _; (with_reducible repeat (first | refine blk_drewN ?_ _ | refine blk_drew ?_ | refine blk_alloc ?_ _)); refine blk_far ?_ NBER.out _; (with_reducible repeat (first | refine blk_drewN ?_ _ | refine blk_drew ?_ | refine blk_alloc ?_ _)); refine blk_far ?_ NBER.out _; (with_reducible repeat (first | refine blk_drewN ?_ _ | refine blk_drew ?_ | refine blk_alloc ?_ _)); exact BKE.out), ?_⟩
   exact ⟨_, _, rfl, (by (with_reducible repeat (first | apply Kd.R_alloc | apply Kd.R_drewN | apply Kd.R_drew)); exact Kd.R_mono (Kd.R_far (p := ⟨gE, 0, none⟩) (Kd.R_far (p := ⟨gR, 2, none⟩) (Kd.R_far (p := ⟨gR, 1, none⟩) (Kd.R_far (p := ⟨gR, 0, none⟩) (Kd.R_types (Kd.R_types HO1.out BKR.out (by decide)) BKE.out (by decide)) (fun _ hk => hk.1.2) (.bool x1)) (fun _ hk => hk.1.2) (.slice Ao1 x2.length co1)) (fun _ hk => hk.1.2) (.slice Ao2 x3.length co2)) (fun _ hk => hk.2) (.int .i64 0)) (fun _ hk => hk.1.1)), (by (with_reducible repeat (first | apply Kd.R_alloc | apply Kd.R_drewN | apply Kd.R_drew)); exact Kd.R_mono (Kd.R_far (p := ⟨gE, 0, none⟩) (Kd.R_far (p := ⟨gR, 2, none⟩) (Kd.R_far (p := ⟨gR, 1, none⟩) (Kd.R_far (p := ⟨gR, 0, none⟩) (Kd.R_types (Kd.R_types HO2.out BKR.out (by decide)) BKE.out (by decide)) (fun _ hk => hk.1.2) (.bool x1)) (fun _ hk => hk.1.2) (.slice Ao1 x2.length co1)) (fun _ hk => hk.1.2) (.slice Ao2 x3.length co2)) (fun _ hk => hk.2) (.int .i64 0)) (fun _ hk => hk.1.1)), eB⟩
  ·rw [if_neg q1] at h
   exact absurd h (by simp)
 ·rw [if_neg q0] at h
  exact absurd h (by simp)
def rat_fits.f (l0 : List Int) (a1 : Int) : Option (List Int) := if a1 = 0 then (some l0) else (none)
set_option maxHeartbeats 8000000 in
set_option maxRecDepth 100000 in
theorem rat_fits.calls (P0_ : Nat → Prop) (u9000_ : Value) (l0 : List Int) (a1 : Int) (r : List Int) (w0 w : World) (hB : Below w0.heap.size w0 w) (ho0 : Kd.R (Kd.int .u64) 44 w w0.heap.size P0_ u9000_ l0) (h : rat_fits.f l0 a1 = some r) :
  Calls Try.prog 37 #[u9000_, .int .i64 a1] w fun e w' => ∃ v0_ : Value, e = .returned (v0_) ∧ Kd.R (Kd.int .u64) 44 w' w0.heap.size (fun k_ => (P0_ k_ ∨ w.heap.size ≤ k_)) v0_ r ∧ Below w0.heap.size w0 w' ∧ Kept w w' (fun k_ => P0_ k_) := by
 have HO0 := aM (show Kd.R (Kd.int .u64) 44 w w0.heap.size (fun k_ => (P0_ k_ ∨ w.heap.size ≤ k_)) u9000_ l0 from Kd.R_mono ho0 (fun k_ hk => (.inl hk)))
 have HK := aM (Kept.refl w (fun k_ => P0_ k_))
 have HW0 := aM hB.size
 have HB := aM hB
 clear hB
 have H := h
 clear h
 unfold rat_fits.f at H
 replace H := nO H
 obtain ⟨c3, H⟩ := H
 obtain ⟨c3b0, c3b1⟩ := bT c3
 clear c3
 obtain rfl := Option.some.inj H
 go_enter Try.func37, Try.ntmps37
 go_wp2
 go_ret
 exact ⟨_, dE, dR HO0.out, dB, by repeat (first | (with_reducible first | exact HK.out | apply Kept.alloc | apply Kept.drewN | apply Kept.drew) | exact HK.out)⟩
def nat_bound.f (k : Nat) (l0 : List Int) : Option (List Int × Int) := (nat_size.f k l0).bind fun t278 => (if t278 ≤ 4096 then (if 0 ≤ t278 then (if t278 ≤ (l0.length : Int) then (some ((l0.take (t278 : Int).toNat), 0)) else (none)) else (none)) else (some (([] : List Int), 21)))
theorem nat_bound.mono : ∀ a0 k, LeO (nat_bound.f k a0) (nat_bound.f (k + 1) a0) := by
 intro a0 k
 unfold nat_bound.f
 have m0_ := nat_size.mono
 exact mX
set_option maxHeartbeats 8000000 in
set_option maxRecDepth 100000 in
theorem nat_bound.calls (k : Nat) (P0_ : Nat → Prop) (u9000_ : Value) (l0 : List Int) (r1 : List Int) (r2 : Int) (w0 w : World) (hB : Below w0.heap.size w0 w) (ho0 : Kd.R (Kd.int .u64) 44 w w0.heap.size P0_ u9000_ l0) (h : nat_bound.f k l0 = some (r1, r2)) :
  Calls Try.prog 56 #[u9000_] w fun e w' => ∃ v0_ : Value, e = .returned (.tuple #[v0_, .int .i64 r2]) ∧ Kd.R (Kd.int .u64) 44 w' w0.heap.size (fun k_ => (P0_ k_ ∨ w.heap.size ≤ k_)) v0_ r1 ∧ Below w0.heap.size w0 w' ∧ Kept w w' (fun k_ => P0_ k_) := by
 have HO0 := aM (show Kd.R (Kd.int .u64) 44 w w0.heap.size (fun k_ => (P0_ k_ ∨ w.heap.size ≤ k_)) u9000_ l0 from Kd.R_mono ho0 (fun k_ hk => (.inl hk)))
 have HK := aM (Kept.refl w (fun k_ => P0_ k_))
 have HW0 := aM hB.size
 have HB := aM hB
 clear hB
 have H := h
 clear h
 unfold nat_bound.f at H
 replace H := oA H
 obtain ⟨t278, A2, H⟩ := H
 (try dsimp only at H)
 by_cases c3 : t278 ≤ 4096
 ·rw [if_pos c3] at H
  have c3b0 := decide_eq_true c3
  clear c3
  replace H := nO H
  obtain ⟨c4, H⟩ := H
  have c4b0 := eq_true c4
  have c4b1 : decide (0 ≤ t278) = true := decide_eq_true c4
  clear c4
  replace H := nO H
  obtain ⟨c5, H⟩ := H
  have c5b0 := eq_true c5
  have c5b1 := decide_eq_true c5
  clear c5
  obtain ⟨y279, hy279⟩ : ∃ y_ : List Int, y_ = (l0.take (t278 : Int).toNat) := ⟨_, rfl⟩
  replace H : (some (y279, 0)) = some (r1, r2) := by first | (rw [hy279]; with_reducible exact H) | (have H2_ := (Option.bind_some _ _).symm.trans H; rw [hy279]; with_reducible exact H2_) | (have H2_ := (Option.bind_some _ _).symm.trans H; with_reducible exact H2_) | with_reducible exact H | (rw [hy279]; exact H) | exact H
  have Ny279 := aM hy279
  clear hy279
  simp only [Option.some.injEq, Prod.mk.injEq] at H
  obtain ⟨rfl, rfl⟩ := H
  obtain ⟨Ao6, co6, rfl⟩ := Kd.R_slice HO0.out
  go_enter Try.func56, Try.ntmps56
  go_wp2_with (first | ((with_reducible refine gate_callee (f := 51) rfl ?_); refine gL (some 6) Try.func51 #[.slice Ao6 l0.length co6] ?_; (with_reducible refine (nat_size.calls k _ _ l0 t278 _ ?side1 (Kd.R_reads' HO0.out).2.1 A2.out).mono ?_); (case side1 => exact dC (Kd.R_reads' HO0.out).2.2); rintro e w' ⟨rfl, ⟨nd, rfl⟩⟩; refine ⟨_, rfl, ?_⟩; have q7 : (t278 : Int) ≤ ((l0.length : Int) : Int) := of_decide_eq_true dS; obtain ⟨i07, hi07, _, hsz7, _⟩ := info_parts info44; have hcut7 := cut_to3 (P := Try.prog) 22 44 .i64 .i64 Try.underlying22 hi07 Ao6 l0.length co6 t278 (of_decide_eq_true dS) q7 (Kd.R_reads' HO0.out).2.1; have hr7 := Kd.R_take3 (m := (t278 : Int).toNat) HO0.out (by omega); have hy7 : y279.length = (t278 : Int).toNat := (by rw [Ny279.out, List.length_take]; omega); rw [← Ny279.out] at hr7; rw [← hy7] at hr7 hcut7; clear hy7 hi07 hsz7 HO0; have HO281 := aM hr7; clear hr7; replace q7 := eq_true q7))
  go_ret2
  exact ⟨_, dE, dR HO281.out, dB, by repeat (first | (with_reducible first | exact HK.out | apply Kept.alloc | apply Kept.drewN | apply Kept.drew) | exact HK.out)⟩
 ·rw [if_neg c3] at H
  have c3b0 := decide_eq_false c3
  clear c3
  simp only [Option.some.injEq, Prod.mk.injEq] at H
  obtain ⟨rfl, rfl⟩ := H
  obtain ⟨Ao8, co8, rfl⟩ := Kd.R_slice HO0.out
  go_enter Try.func56, Try.ntmps56
  go_wp2_with (first | ((with_reducible refine gate_callee (f := 51) rfl ?_); refine gL (some 6) Try.func51 #[.slice Ao8 l0.length co8] ?_; (with_reducible refine (nat_size.calls k _ _ l0 t278 _ ?side1 (Kd.R_reads' HO0.out).2.1 A2.out).mono ?_); (case side1 => exact dC (Kd.R_reads' HO0.out).2.2); rintro e w' ⟨rfl, ⟨nd, rfl⟩⟩; refine ⟨_, rfl, ?_⟩))
  go_ret2
  exact ⟨_, dE, by first | exact Kd.R_nil _ _ _ _ _ | exact Kd.N_nil _ _ _ _ _ | exact Kd.V_nil _ _ _ _ _ | exact Kd.Q_nil _ _ _ _ _ | exact Kd.S_nil _ _ _ _ _, dB, by repeat (first | (with_reducible first | exact HK.out | apply Kept.alloc | apply Kept.drewN | apply Kept.drew) | exact HK.out)⟩
def nat_Bits.f (k : Nat) (l0 : List Int) : Option (Int) := (nat_size.f k l0).bind fun t282 => (if t282 = 0 then (some 0) else (if 0 ≤ (wrap64 (t282 - 1)) then (if (wrap64 (t282 - 1)) < (l0.length : Int) then ((wide_Len.f k (rd l0 (wrap64 (t282 - 1)))).bind fun t284 => (some (wrap64 ((wrap64 (64 * (wrap64 (t282 - 1)))) + t284)))) else (none)) else (none)))
theorem nat_Bits.mono : ∀ a0 k, LeO (nat_Bits.f k a0) (nat_Bits.f (k + 1) a0) := by
 intro a0 k
 unfold nat_Bits.f
 have m0_ := nat_size.mono
 have m1_ := wide_Len.mono
 exact mX
set_option maxHeartbeats 8000000 in
set_option maxRecDepth 100000 in
theorem nat_Bits.calls (k : Nat) (A0 : Option Addr) (c0 : Nat) (l0 : List Int) (r : Int) (w : World) (hr0 : Kd.C (Kd.int .u64) w A0 l0.length l0) (hc0 : l0.length ≤ c0) (h : nat_Bits.f k l0 = some r) :
  Calls Try.prog 59 #[.slice A0 l0.length c0] w fun e w' => e = .returned (.int .i64 r) ∧ Drawn0 w w' := by
 have HR0 := aM hr0
 have HC0 := aM hc0
 clear hr0 hc0
 have H := h
 clear h
 unfold nat_Bits.f at H
 replace H := oA H
 obtain ⟨t282, A2, H⟩ := H
 (try dsimp only at H)
 by_cases c3 : t282 = 0
 ·rw [if_pos c3] at H
  obtain ⟨c3b0, c3b1⟩ := bT c3
  clear c3
  obtain rfl := Option.some.inj H
  go_enter Try.func59, Try.ntmps59
  go_wp2_with (first | ((with_reducible refine gate_callee (f := 51) rfl ?_); refine gL (some 5) Try.func51 #[.slice A0 l0.length c0] ?_; (with_reducible refine (nat_size.calls k _ _ l0 t282 _ ?side1 HC0.out A2.out).mono ?_); (case side1 => exact dC HR0.out); rintro e w' ⟨rfl, ⟨nd, rfl⟩⟩; refine ⟨_, rfl, ?_⟩))
  go_ret
  exact ⟨dF, dD⟩
 ·rw [if_neg c3] at H
  obtain ⟨c3b0, c3b1⟩ := bF c3
  obtain ⟨ji4, hji4⟩ : ∃ j_ : Int, (wrap64 (t282 - 1)) = j_ := ⟨_, rfl⟩
  first | rw [hji4] at H | simp only [hji4] at H
  (try rw [hji4] at A2)
  have hji4w : (IntKind.i64.wrap (t282 - 1)) = ji4 := (i64_w _).trans hji4
  replace H := nO H
  obtain ⟨c5, H⟩ := H
  have c5b0 : decide (0 ≤ (ji4)) = true := decide_eq_true c5
  clear c5
  replace H := nO H
  obtain ⟨c6, H⟩ := H
  have c6b0 := decide_eq_true c6
  clear c6
  replace H := oA H
  obtain ⟨t284, A7, H⟩ := H
  (try dsimp only at H)
  obtain rfl := Option.some.inj H
  go_enter Try.func59, Try.ntmps59
  go_wp2_with (first | ((with_reducible refine gate_callee (f := 51) rfl ?_); refine gL (some 5) Try.func51 #[.slice A0 l0.length c0] ?_; (with_reducible refine (nat_size.calls k _ _ l0 t282 _ ?side1 HC0.out A2.out).mono ?_); (case side1 => exact dC HR0.out); rintro e w' ⟨rfl, ⟨nd, rfl⟩⟩; refine ⟨_, rfl, ?_⟩; have p283 : 0 ≤ ((ji4) : Int) := of_decide_eq_true dS; have q283 : (ji4) < (l0.length : Int) := of_decide_eq_true dS; obtain ⟨ad283, e283, hx283_0⟩ := Kd.at_int HR0.out (ji4) p283 q283; cases e283; replace p283 := eq_true p283; replace q283 := eq_true q283) | ((with_reducible refine gate_callee (f := 63) rfl ?_); refine goesL_ (some 16) rfl rfl Try.func63 (by kernel_rfl) rfl #[.int .u64 (rd l0 (ji4))] rfl (by (try simp only [List.map_toArray, List.map_cons, List.map_nil]); first | done | (simp only [hji4]; rfl) | rfl | (simp only [List.length_drop, List.length_take]; rfl)) ?_; (with_reducible refine (wide_Len.calls k (rd l0 (ji4)) t284 _ A7.out).mono ?_); rintro e w' ⟨rfl, ⟨nd, rfl⟩⟩; refine ⟨_, rfl, ?_⟩))
  go_ret
  exact ⟨by first | rfl | (simp; done) | (simp only [← hji4] <;> (first | rfl | simp)) | (simp [*]; done), dD⟩
mutual
def nat_Mul.j0 : Nat → List Int → List Int → Bool → Option (List Int × Int)
 | 0, _, _, _ => none
 | k + 1, x0, x1, x30 => if x30 = true then (some (([] : List Int), 0)) else ((nat_Bits.f k x0).bind fun t113 => ((nat_Bits.f k x1).bind fun t114 => (if (wrap64 (t113 - 1)) > (wrap64 (262144 - t114)) then (some (([] : List Int), 21)) else (if 0 ≤ (wrap64 ((x0.length : Int) + (x1.length : Int))) then (if (wrap64 ((x0.length : Int) + (x1.length : Int)) : Int).toNat ≤ 35184372088832 then (nat_Mul.l0 k x1 (List.replicate (wrap64 ((x0.length : Int) + (x1.length : Int)) : Int).toNat 0) x0 (x0.length : Int) 0) else (none)) else (none)))))
def nat_Mul.l0 : Nat → List Int → List Int → List Int → Int → Int → Option (List Int × Int)
 | 0, _, _, _, _, _ => none
 | k + 1, x1, x6, x44, x45, x46 => if x46 < x45 then (if 0 ≤ x46 then (if x46 < (x44.length : Int) then (nat_Mul.l1 k x1 x6 x46 (rd x44 x46) 0 x44 x45 x46 x1 (x1.length : Int) 0) else (none)) else (none)) else ((nat_bound.f k x6).bind fun bt118 => (some (bt118.1, bt118.2)))
def nat_Mul.l1 : Nat → List Int → List Int → Int → Int → Int → List Int → Int → Int → List Int → Int → Int → Option (List Int × Int)
 | 0, _, _, _, _, _, _, _, _, _, _, _ => none
 | k + 1, x1, x6, x7, x8, x9, x44, x45, x46, x51, x52, x53 => if x53 < x52 then (if 0 ≤ x53 then (if x53 < (x51.length : Int) then ((wide_Mul.f x8 (rd x51 x53)).bind fun bt124 => (if 0 ≤ (wrap64 (x7 + x53)) then (if (wrap64 (x7 + x53)) < (x6.length : Int) then ((wide_Add.f bt124.2 (rd x6 (wrap64 (x7 + x53))) 0).bind fun bt127 => ((wide_Add.f bt127.1 x9 0).bind fun bt129 => (nat_Mul.l1 k x1 (x6.set ((wrap64 (x7 + x53)) : Int).toNat bt129.1) x7 x8 (IntKind.u64.wrap ((IntKind.u64.wrap (bt124.1 + bt127.2)) + bt129.2)) x44 x45 x46 x51 x52 (wrap64 (x53 + 1))))) else (none)) else (none))) else (none)) else (none)) else (if 0 ≤ (wrap64 (x7 + (x1.length : Int))) then (if (wrap64 (x7 + (x1.length : Int))) < (x6.length : Int) then (nat_Mul.l0 k x1 (x6.set ((wrap64 (x7 + (x1.length : Int))) : Int).toNat x9) x44 x45 (wrap64 (x46 + 1))) else (none)) else (none))
end
def nat_Mul.f (k : Nat) (l0 : List Int) (l1 : List Int) : Option (List Int × Int) := (nat_size.f k l0).bind fun t109 => (if 0 ≤ t109 then (if t109 ≤ (l0.length : Int) then ((nat_size.f k l1).bind fun t111 => (if 0 ≤ t111 then (if t111 ≤ (l1.length : Int) then (if ((l0.take (t109 : Int).toNat).length : Int) = 0 then (nat_Mul.j0 k (l0.take (t109 : Int).toNat) (l1.take (t111 : Int).toNat) true) else (nat_Mul.j0 k (l0.take (t109 : Int).toNat) (l1.take (t111 : Int).toNat) (((l1.take (t111 : Int).toNat).length : Int) == 0))) else (none)) else (none))) else (none)) else (none))
theorem nat_Mul.mono_l : ∀ k, (∀ y0 y1 y2, LeO (nat_Mul.j0 k y0 y1 y2) (nat_Mul.j0 (k + 1) y0 y1 y2)) ∧ (∀ y0 y1 y2 y3 y4, LeO (nat_Mul.l0 k y0 y1 y2 y3 y4) (nat_Mul.l0 (k + 1) y0 y1 y2 y3 y4)) ∧ (∀ y0 y1 y2 y3 y4 y5 y6 y7 y8 y9 y10, LeO (nat_Mul.l1 k y0 y1 y2 y3 y4 y5 y6 y7 y8 y9 y10) (nat_Mul.l1 (k + 1) y0 y1 y2 y3 y4 y5 y6 y7 y8 y9 y10))
 | 0 => ⟨fun _ _ _ r h => by simp [nat_Mul.j0] at h, fun _ _ _ _ _ r h => by simp [nat_Mul.l0] at h, fun _ _ _ _ _ _ _ _ _ _ _ r h => by simp [nat_Mul.l1] at h⟩
 | k + 1 => by
  obtain ⟨ih0, ih1, ih2⟩ := nat_Mul.mono_l k
  refine ⟨?_, ?_, ?_⟩
  ·intro y0 y1 y2
   unfold nat_Mul.j0
   have m0_ := nat_Bits.mono
   have m1_ := nat_bound.mono
   have m2_ := nat_size.mono
   exact mX
  ·intro y0 y1 y2 y3 y4
   unfold nat_Mul.l0
   have m0_ := nat_Bits.mono
   have m1_ := nat_bound.mono
   have m2_ := nat_size.mono
   exact mX
  ·intro y0 y1 y2 y3 y4 y5 y6 y7 y8 y9 y10
   unfold nat_Mul.l1
   have m0_ := nat_Bits.mono
   have m1_ := nat_bound.mono
   have m2_ := nat_size.mono
   exact mX
theorem nat_Mul.mono : ∀ a0 a1 k, LeO (nat_Mul.f k a0 a1) (nat_Mul.f (k + 1) a0 a1) := by
 intro a0 a1 k
 obtain ⟨ih0, ih1, ih2⟩ := nat_Mul.mono_l k
 unfold nat_Mul.f
 have m0_ := nat_Bits.mono
 have m1_ := nat_bound.mono
 have m2_ := nat_size.mono
 exact mX
set_option maxHeartbeats 8000000 in
set_option maxRecDepth 100000 in
theorem nat_Mul.calls (k : Nat) (A0 : Option Addr) (c0 : Nat) (l0 : List Int) (A1 : Option Addr) (c1 : Nat) (l1 : List Int) (r1 : List Int) (r2 : Int) (w : World) (hr0 : Kd.C (Kd.int .u64) w A0 l0.length l0) (hc0 : l0.length ≤ c0) (hr1 : Kd.C (Kd.int .u64) w A1 l1.length l1) (hc1 : l1.length ≤ c1) (h : nat_Mul.f k l0 l1 = some (r1, r2)) :
  Calls Try.prog 50 #[.slice A0 l0.length c0, .slice A1 l1.length c1] w fun e w' => ∃ v0_ : Value, e = .returned (.tuple #[v0_, .int .i64 r2]) ∧ Kd.R (Kd.int .u64) 44 w' w.heap.size (fun _ => True) v0_ r1 ∧ Below w.heap.size w w' := by
 have HR0 := aM hr0
 have HC0 := aM hc0
 clear hr0 hc0
 have HR1 := aM hr1
 have HC1 := aM hc1
 clear hr1 hc1
 have HB := aM (Below.refl w.heap.size w)
 have H := h
 clear h
 unfold nat_Mul.f at H
 replace H := oA H
 obtain ⟨t109, A3, H⟩ := H
 (try dsimp only at H)
 replace H := nO H
 obtain ⟨c4, H⟩ := H
 have c4b0 := eq_true c4
 have c4b1 : decide (0 ≤ t109) = true := decide_eq_true c4
 clear c4
 replace H := nO H
 obtain ⟨c5, H⟩ := H
 have c5b0 := eq_true c5
 have c5b1 := decide_eq_true c5
 clear c5
 obtain ⟨z109, Nz1090⟩ : ∃ z_ : List Int, (l0.take (t109 : Int).toNat) = z_ := ⟨_, rfl⟩
 rw [Nz1090] at H
 have Nz109 := aM Nz1090
 clear Nz1090
 replace H := oA H
 obtain ⟨t111, A6, H⟩ := H
 (try dsimp only at H)
 replace H := nO H
 obtain ⟨c7, H⟩ := H
 have c7b0 := eq_true c7
 have c7b1 : decide (0 ≤ t111) = true := decide_eq_true c7
 clear c7
 replace H := nO H
 obtain ⟨c8, H⟩ := H
 have c8b0 := eq_true c8
 have c8b1 := decide_eq_true c8
 clear c8
 obtain ⟨z111, Nz1110⟩ : ∃ z_ : List Int, (l1.take (t111 : Int).toNat) = z_ := ⟨_, rfl⟩
 rw [Nz1110] at H
 have Nz111 := aM Nz1110
 clear Nz1110
 have HC9 := aM H
 clear H
 go_enter Try.func50, Try.ntmps50
 go_upto_region 2 with (first | (go_at_call 51; (with_reducible refine (nat_size.calls k _ _ l0 t109 _ ?side1 HC0.out A3.out).mono ?_); (case side1 => exact dC HR0.out); rintro e w' ⟨rfl, ⟨nd, rfl⟩⟩; (try exact dW); obtain ⟨i010, hi010, _, hsz10, _⟩ := info_parts info44; obtain ⟨hcut10, hA10, hC10⟩ := print_take_of (P := Try.prog) (Value.int .u64) 0 22 44 .i64 Try.underlying22 hi010 hsz10 A0 c0 l0 t109 (of_decide_eq_true dS) (of_decide_eq_true dS) HC0.out; rw [Nz109.out] at hcut10 hA10 hC10; have HR110 := aM (Kd.C_of_reads (h1 := fun _ => rfl) (hA10 _ (Kd.reads_of_C HR0.out))); have HC110 := aM hC10; clear hA10 hC10 hi010 hsz10) | (go_at_call 51; (with_reducible refine (nat_size.calls k _ _ l1 t111 _ ?side1 HC1.out A6.out).mono ?_); (case side1 => exact dC HR1.out); rintro e w' ⟨rfl, ⟨nd, rfl⟩⟩; (try exact dW); obtain ⟨i011, hi011, _, hsz11, _⟩ := info_parts info44; obtain ⟨hcut11, hA11, hC11⟩ := print_take_of (P := Try.prog) (Value.int .u64) 0 22 44 .i64 Try.underlying22 hi011 hsz11 A1 c1 l1 t111 (of_decide_eq_true dS) (of_decide_eq_true dS) HC1.out; rw [Nz111.out] at hcut11 hA11 hC11; have HR112 := aM (Kd.C_of_reads (h1 := fun _ => rfl) (hA11 _ (Kd.reads_of_C HR1.out))); have HC112 := aM hC11; clear hA11 hC11 hi011 hsz11))
 repeat (go_quiet (first | (go_at_call 51; (with_reducible refine (nat_size.calls k _ _ l0 t109 _ ?side1 HC0.out A3.out).mono ?_); (case side1 => exact dC HR0.out); rintro e w' ⟨rfl, ⟨nd, rfl⟩⟩; (try exact dW); obtain ⟨i010, hi010, _, hsz10, _⟩ := info_parts info44; obtain ⟨hcut10, hA10, hC10⟩ := print_take_of (P := Try.prog) (Value.int .u64) 0 22 44 .i64 Try.underlying22 hi010 hsz10 A0 c0 l0 t109 (of_decide_eq_true dS) (of_decide_eq_true dS) HC0.out; rw [Nz109.out] at hcut10 hA10 hC10; have HR110 := aM (Kd.C_of_reads (h1 := fun _ => rfl) (hA10 _ (Kd.reads_of_C HR0.out))); have HC110 := aM hC10; clear hA10 hC10 hi010 hsz10) | (go_at_call 51; (with_reducible refine (nat_size.calls k _ _ l1 t111 _ ?side1 HC1.out A6.out).mono ?_); (case side1 => exact dC HR1.out); rintro e w' ⟨rfl, ⟨nd, rfl⟩⟩; (try exact dW); obtain ⟨i011, hi011, _, hsz11, _⟩ := info_parts info44; obtain ⟨hcut11, hA11, hC11⟩ := print_take_of (P := Try.prog) (Value.int .u64) 0 22 44 .i64 Try.underlying22 hi011 hsz11 A1 c1 l1 t111 (of_decide_eq_true dS) (of_decide_eq_true dS) HC1.out; rw [Nz111.out] at hcut11 hA11 hC11; have HR112 := aM (Kd.C_of_reads (h1 := fun _ => rfl) (hA11 _ (Kd.reads_of_C HR1.out))); have HC112 := aM hC11; clear hA11 hC11 hi011 hsz11)); go_upto_region 2 with (first | (go_at_call 51; (with_reducible refine (nat_size.calls k _ _ l0 t109 _ ?side1 HC0.out A3.out).mono ?_); (case side1 => exact dC HR0.out); rintro e w' ⟨rfl, ⟨nd, rfl⟩⟩; (try exact dW); obtain ⟨i010, hi010, _, hsz10, _⟩ := info_parts info44; obtain ⟨hcut10, hA10, hC10⟩ := print_take_of (P := Try.prog) (Value.int .u64) 0 22 44 .i64 Try.underlying22 hi010 hsz10 A0 c0 l0 t109 (of_decide_eq_true dS) (of_decide_eq_true dS) HC0.out; rw [Nz109.out] at hcut10 hA10 hC10; have HR110 := aM (Kd.C_of_reads (h1 := fun _ => rfl) (hA10 _ (Kd.reads_of_C HR0.out))); have HC110 := aM hC10; clear hA10 hC10 hi010 hsz10) | (go_at_call 51; (with_reducible refine (nat_size.calls k _ _ l1 t111 _ ?side1 HC1.out A6.out).mono ?_); (case side1 => exact dC HR1.out); rintro e w' ⟨rfl, ⟨nd, rfl⟩⟩; (try exact dW); obtain ⟨i011, hi011, _, hsz11, _⟩ := info_parts info44; obtain ⟨hcut11, hA11, hC11⟩ := print_take_of (P := Try.prog) (Value.int .u64) 0 22 44 .i64 Try.underlying22 hi011 hsz11 A1 c1 l1 t111 (of_decide_eq_true dS) (of_decide_eq_true dS) HC1.out; rw [Nz111.out] at hcut11 hA11 hC11; have HR112 := aM (Kd.C_of_reads (h1 := fun _ => rfl) (hA11 _ (Kd.reads_of_C HR1.out))); have HC112 := aM hC11; clear hA11 hC11 hi011 hsz11)))
 (try simp only [Act.put, List.setIfInBounds_toArray, List.set_cons_zero, List.set_cons_succ])
 go_cut [30] (fun v30 wc => ∃ (kq : Nat) (x30_8 : Bool), v30 = .bool x30_8 ∧ Aside0 (nat_Mul.j0 kq z109 z111 x30_8 = some (r1, r2)) ∧ Aside0 (kq ≤ k) ∧ Aside0 (Below w.heap.size w wc))
 case first =>
  have H := HC9.out
  clear HC9
  by_cases c12 : (z109.length : Int) = 0
  ·rw [if_pos c12] at H
   obtain ⟨c12b0, c12b1⟩ := bT c12
   clear c12
   (first | rw [c12b0] | (simp only [i64_w, i32_w]; rw [c12b0]) | skip)
   have H' := aM H
   clear H
   go_wp2
   repeat (go_quiet (fail); try go_wp2)
   go_meet
   case rel => exact ⟨_, (true), dF, H', ⟨dN⟩, ⟨dB⟩⟩
  ·rw [if_neg c12] at H
   obtain ⟨c12b0, c12b1⟩ := bF c12
   have c12b2 : ¬ (z109 = []) := fun h_ => c12 (by rw [h_]; rfl)
   (first | rw [c12b0] | (simp only [i64_w, i32_w]; rw [c12b0]) | skip)
   have H' := aM H
   clear H
   go_wp2
   repeat (go_quiet (fail); try go_wp2)
   go_meet
   case rel => exact ⟨_, (((z111.length : Int) == 0)), dF, H', ⟨dN⟩, ⟨dB⟩⟩
 case rest =>
  clear HC9
  try clear c1
  try clear c4
  try clear c4b0 c4b1
  try clear c5
  try clear c5b0 c5b1
  try clear c7
  try clear c7b0 c7b1
  try clear c8
  try clear c8b0 c8b1
  obtain ⟨kq, x30_8, rfl, HA, HJ8, HB⟩ := hcut
  cases kq with
  | zero => exact absurd HA.out (by simp [nat_Mul.j0])
  | succ kj8 =>
   have H := HA.out
   clear HA
   simp only [nat_Mul.j0] at H
   by_cases c13 : x30_8 = true
   ·subst c13
    rw [if_pos rfl] at H
    (try dsimp only at H)
    simp only [Option.some.injEq, Prod.mk.injEq] at H
    obtain ⟨rfl, rfl⟩ := H
    go_wp2
    repeat (go_quiet (fail); try go_wp2)
    go_ret2
    exact ⟨_, dE, by first | exact Kd.R_nil _ _ _ _ _ | exact Kd.N_nil _ _ _ _ _ | exact Kd.V_nil _ _ _ _ _ | exact Kd.Q_nil _ _ _ _ _ | exact Kd.S_nil _ _ _ _ _, dB⟩
   ·replace c13 := Bool.eq_false_iff.mpr c13
    subst c13
    rw [if_neg (show ¬ (false = true) by decide)] at H
    (try dsimp only at H)
    replace H := oA H
    obtain ⟨t113, A14, H⟩ := H
    (try dsimp only at H)
    replace H := oA H
    obtain ⟨t114, A15, H⟩ := H
    (try dsimp only at H)
    by_cases c16 : (wrap64 (t113 - 1)) > (wrap64 (262144 - t114))
    ·rw [if_pos c16] at H
     have c16b0 : decide ((wrap64 (262144 - t114)) < (wrap64 (t113 - 1))) = true := decide_eq_true c16
     clear c16
     simp only [Option.some.injEq, Prod.mk.injEq] at H
     obtain ⟨rfl, rfl⟩ := H
     iterate 6 (go_wp2_with (first | (go_at_call 59; (with_reducible refine (nat_Bits.calls kj8 _ _ z109 t113 _ ?side1 HC110.out A14.out).mono ?_); (case side1 => exact dC (Kd.C_below HR110.out HB.out)); rintro e w' ⟨rfl, ⟨nd, rfl⟩⟩; (try exact dW)) | (go_at_call 59; (with_reducible refine (nat_Bits.calls kj8 _ _ z111 t114 _ ?side1 HC112.out A15.out).mono ?_); (case side1 => exact dC (Kd.C_below HR112.out dB)); rintro e w' ⟨rfl, ⟨nd, rfl⟩⟩; (try exact dW))); try go_quiet (first | (go_at_call 59; (with_reducible refine (nat_Bits.calls kj8 _ _ z109 t113 _ ?side1 HC110.out A14.out).mono ?_); (case side1 => exact dC (Kd.C_below HR110.out HB.out)); rintro e w' ⟨rfl, ⟨nd, rfl⟩⟩; (try exact dW)) | (go_at_call 59; (with_reducible refine (nat_Bits.calls kj8 _ _ z111 t114 _ ?side1 HC112.out A15.out).mono ?_); (case side1 => exact dC (Kd.C_below HR112.out dB)); rintro e w' ⟨rfl, ⟨nd, rfl⟩⟩; (try exact dW))))
     go_ret2
     exact ⟨_, dE, by first | exact Kd.R_nil _ _ _ _ _ | exact Kd.N_nil _ _ _ _ _ | exact Kd.V_nil _ _ _ _ _ | exact Kd.Q_nil _ _ _ _ _ | exact Kd.S_nil _ _ _ _ _, dB⟩
    ·rw [if_neg c16] at H
     have c16b0 : decide ((wrap64 (262144 - t114)) < (wrap64 (t113 - 1))) = false := decide_eq_false c16
     clear c16
     obtain ⟨ji17, hji17⟩ : ∃ j_ : Int, (wrap64 ((z109.length : Int) + (z111.length : Int))) = j_ := ⟨_, rfl⟩
     first | rw [hji17] at H | simp only [hji17] at H
     (try rw [hji17] at A14)
     (try rw [hji17] at A15)
     have hji17w : (IntKind.i64.wrap ((z109.length : Int) + (z111.length : Int))) = ji17 := (i64_w _).trans hji17
     replace H := nO H
     obtain ⟨c18, H⟩ := H
     have c18b0 := eq_true c18
     have c18b1 : decide (0 ≤ (ji17)) = true := decide_eq_true c18
     clear c18
     replace H := nO H
     obtain ⟨c19, H⟩ := H
     have c19b0 := eq_true c19
     have c19b1 := decide_eq_true c19
     clear c19
     obtain ⟨y115, hy115⟩ : ∃ y_ : List Int, y_ = (List.replicate (ji17 : Int).toNat 0) := ⟨_, rfl⟩
     replace H : (nat_Mul.l0 kj8 z111 y115 z109 (z109.length : Int) 0) = some (r1, r2) := by first | (rw [hy115]; with_reducible exact H) | (have H2_ := (Option.bind_some _ _).symm.trans H; rw [hy115]; with_reducible exact H2_) | (have H2_ := (Option.bind_some _ _).symm.trans H; with_reducible exact H2_) | with_reducible exact H | (rw [hy115]; exact H) | exact H
     have Ny115 := aM hy115
     clear hy115
     have H' := aM H
     clear H
     iterate 6 (go_wp2_with (first | (go_at_call 59; (with_reducible refine (nat_Bits.calls kj8 _ _ z109 t113 _ ?side1 HC110.out A14.out).mono ?_); (case side1 => exact dC (Kd.C_below HR110.out HB.out)); rintro e w' ⟨rfl, ⟨nd, rfl⟩⟩; (try exact dW)) | (go_at_call 59; (with_reducible refine (nat_Bits.calls kj8 _ _ z111 t114 _ ?side1 HC112.out A15.out).mono ?_); (case side1 => exact dC (Kd.C_below HR112.out dB)); rintro e w' ⟨rfl, ⟨nd, rfl⟩⟩; (try exact dW)) | ((with_reducible refine gate_dst (N := 43) rfl ?_); (try (refine gate_guard (by rfl) ?_; dsimp only)); refine Kd.R_make (Kd.int .u64) _ 44 rfl (N := 43) rfl 22 _ _ rfl ji17 rfl rfl Try.underlying22 (.int .u64 0) 8 info44 rfl (by decide) (by omega) 0 (ok := fun _ => True) (okp := fun _ => True) rfl (fun _ hk => hk) trivial (of_decide_eq_true dS) (Nat.le_trans (Nat.mul_le_mul_right _ (of_decide_eq_true dS : ji17.toNat ≤ 35184372088832)) (by omega)) (Below.refl _ _) (Nat.le_refl _) ?_; intro v116 w20 ho21 hb hg_ hnew_; clear hg_ hnew_; (first | rw [← Ny115.out] at ho21 | (simp only [Int.reduceToNat] at ho21; rw [← Ny115.out] at ho21)); have HO117 := aM (Kd.R_lower ho21 (below_size dB)); replace HB := hS HB.out hb; clear hb ho21)); try go_quiet (first | (go_at_call 59; (with_reducible refine (nat_Bits.calls kj8 _ _ z109 t113 _ ?side1 HC110.out A14.out).mono ?_); (case side1 => exact dC (Kd.C_below HR110.out HB.out)); rintro e w' ⟨rfl, ⟨nd, rfl⟩⟩; (try exact dW)) | (go_at_call 59; (with_reducible refine (nat_Bits.calls kj8 _ _ z111 t114 _ ?side1 HC112.out A15.out).mono ?_); (case side1 => exact dC (Kd.C_below HR112.out dB)); rintro e w' ⟨rfl, ⟨nd, rfl⟩⟩; (try exact dW)) | ((with_reducible refine gate_dst (N := 43) rfl ?_); (try (refine gate_guard (by rfl) ?_; dsimp only)); refine Kd.R_make (Kd.int .u64) _ 44 rfl (N := 43) rfl 22 _ _ rfl ji17 rfl rfl Try.underlying22 (.int .u64 0) 8 info44 rfl (by decide) (by omega) 0 (ok := fun _ => True) (okp := fun _ => True) rfl (fun _ hk => hk) trivial (of_decide_eq_true dS) (Nat.le_trans (Nat.mul_le_mul_right _ (of_decide_eq_true dS : ji17.toNat ≤ 35184372088832)) (by omega)) (Below.refl _ _) (Nat.le_refl _) ?_; intro v116 w20 ho21 hb hg_ hnew_; clear hg_ hnew_; (first | rw [← Ny115.out] at ho21 | (simp only [Int.reduceToNat] at ho21; rw [← Ny115.out] at ho21)); have HO117 := aM (Kd.R_lower ho21 (below_size dB)); replace HB := hS HB.out hb; clear hb ho21)))
     go_loopg [46] kj8 (fun kq v46 w' => ∃ (x6_2 : List Int) (x46_2 : Int), v46 = .int .i64 x46_2 ∧ Aside0 (nat_Mul.l0 kq z111 x6_2 z109 (z109.length : Int) x46_2 = some (r1, r2)) ∧ Aside0 (kq ≤ kj8) ∧ Aside0 (Kd.R (Kd.int .u64) 44 w' w.heap.size (fun _ => True) v116 x6_2) ∧ Aside0 (Below w.heap.size w w'))
     case atStart => exact ⟨(y115), (0), dF, H', ⟨Nat.le_refl _⟩, ⟨dR HO117.out⟩, ⟨dB⟩⟩
     case round =>
      clear H'
      try clear c1
      try clear c4
      try clear c4b0 c4b1
      try clear c5
      try clear c5b0 c5b1
      try clear c7
      try clear c7b0 c7b1
      try clear c8
      try clear c8b0 c8b1
      try clear c13
      try clear c16
      try clear c16b0
      try clear c18
      try clear c18b0 c18b1
      try clear c19
      try clear c19b0 c19b1
      obtain ⟨x6_2, x46_2, rfl, HA, HK2, HO_6, HB⟩ := hrel
      cases gk with
      | zero => exact absurd HA.out (by simp [nat_Mul.l0])
      | succ k2 =>
       have H := HA.out
       clear HA
       simp only [nat_Mul.l0] at H
       by_cases c22 : x46_2 < (z109.length : Int)
       ·rw [if_pos c22] at H
        have c22b0 := decide_eq_true c22
        clear c22
        replace H := nO H
        obtain ⟨c23, H⟩ := H
        have c23b0 : decide (0 ≤ x46_2) = true := decide_eq_true c23
        clear c23
        replace H := nO H
        obtain ⟨c24, H⟩ := H
        have c24b0 := decide_eq_true c24
        clear c24
        have H' := aM H
        clear H
        have p122 : 0 ≤ (x46_2 : Int) := of_decide_eq_true dS
        have q122 : x46_2 < (z109.length : Int) := of_decide_eq_true dS
        obtain ⟨ad122, e122, hx122_0⟩ := Kd.at_int HR110.out x46_2 p122 q122
        cases e122
        replace hx122_0 := (HB.out.cell (World.block_lt_of_cell? w _ hx122_0)).trans hx122_0
        replace p122 := eq_true p122
        replace q122 := eq_true q122
        go_wp2
        repeat (go_quiet (fail); try go_wp2)
        go_loopg [9, 53] k2 (fun kq v9 v53 w' => ∃ (x6_3 : List Int) (x9_3 : Int) (x53_3 : Int), v9 = .int .u64 x9_3 ∧ v53 = .int .i64 x53_3 ∧ Aside0 (nat_Mul.l1 kq z111 x6_3 x46_2 (rd z109 x46_2) x9_3 z109 (z109.length : Int) x46_2 z111 (z111.length : Int) x53_3 = some (r1, r2)) ∧ Aside0 (kq ≤ k2) ∧ Aside0 (Kd.R (Kd.int .u64) 44 w' w.heap.size (fun _ => True) v116 x6_3) ∧ Aside0 (Below w.heap.size w w'))
        case atStart => exact ⟨(x6_2), (0), (0), dF, dF, H', ⟨Nat.le_refl _⟩, ⟨dR HO_6.out⟩, ⟨dB⟩⟩
        case round =>
         clear H'
         try clear c1
         try clear c4
         try clear c4b0 c4b1
         try clear c5
         try clear c5b0 c5b1
         try clear c7
         try clear c7b0 c7b1
         try clear c8
         try clear c8b0 c8b1
         try clear c13
         try clear c16
         try clear c16b0
         try clear c18
         try clear c18b0 c18b1
         try clear c19
         try clear c19b0 c19b1
         try clear c22
         try clear c22b0
         try clear c23
         try clear c23b0
         try clear c24
         try clear c24b0
         try clear hx122_0
         try clear p122
         try clear q122
         obtain ⟨x6_3, x9_3, x53_3, rfl, rfl, HA, HK3, HO_6, HB⟩ := hrel
         cases gk with
         | zero => exact absurd HA.out (by simp [nat_Mul.l1])
         | succ k3 =>
          have H := HA.out
          clear HA
          simp only [nat_Mul.l1] at H
          by_cases c25 : x53_3 < (z111.length : Int)
          ·rw [if_pos c25] at H
           have c25b0 := decide_eq_true c25
           clear c25
           replace H := nO H
           obtain ⟨c26, H⟩ := H
           have c26b0 : decide (0 ≤ x53_3) = true := decide_eq_true c26
           clear c26
           replace H := nO H
           obtain ⟨c27, H⟩ := H
           have c27b0 := decide_eq_true c27
           clear c27
           replace H := oA H
           obtain ⟨⟨t124, t125⟩, A28, H⟩ := H
           (try dsimp only at H)
           obtain ⟨ji29, hji29⟩ : ∃ j_ : Int, (wrap64 (x46_2 + x53_3)) = j_ := ⟨_, rfl⟩
           first | rw [hji29] at H | simp only [hji29] at H
           (try rw [hji29] at A28)
           have hji29w : (IntKind.i64.wrap (x46_2 + x53_3)) = ji29 := (i64_w _).trans hji29
           replace H := nO H
           obtain ⟨c30, H⟩ := H
           have c30b0 : decide (0 ≤ (ji29)) = true := decide_eq_true c30
           clear c30
           replace H := nO H
           obtain ⟨c31, H⟩ := H
           have c31b0 := decide_eq_true c31
           clear c31
           replace H := oA H
           obtain ⟨⟨t127, t128⟩, A32, H⟩ := H
           (try dsimp only at H)
           replace H := oA H
           obtain ⟨⟨t129, t130⟩, A33, H⟩ := H
           (try dsimp only at H)
           obtain ⟨y131, hy131⟩ : ∃ y_ : List Int, y_ = (x6_3.set ((ji29) : Int).toNat t129) := ⟨_, rfl⟩
           replace H : (nat_Mul.l1 k3 z111 y131 x46_2 (rd z109 x46_2) (IntKind.u64.wrap ((IntKind.u64.wrap (t124 + t128)) + t130)) z109 (z109.length : Int) x46_2 z111 (z111.length : Int) (wrap64 (x53_3 + 1))) = some (r1, r2) := by first | (rw [hy131]; with_reducible exact H) | (have H2_ := (Option.bind_some _ _).symm.trans H; rw [hy131]; with_reducible exact H2_) | (have H2_ := (Option.bind_some _ _).symm.trans H; with_reducible exact H2_) | with_reducible exact H | (rw [hy131]; exact H) | exact H
           have Ny131 := aM hy131
           clear hy131
           have H' := aM H
           clear H
           have p123 : 0 ≤ (x53_3 : Int) := of_decide_eq_true dS
           have q123 : x53_3 < (z111.length : Int) := of_decide_eq_true dS
           obtain ⟨ad123, e123, hx123_0⟩ := Kd.at_int HR112.out x53_3 p123 q123
           cases e123
           replace hx123_0 := (HB.out.cell (World.block_lt_of_cell? w _ hx123_0)).trans hx123_0
           replace p123 := eq_true p123
           replace q123 := eq_true q123
           iterate 6 (go_wp2_with (first | (go_at_call 60; (with_reducible refine (wide_Mul.calls (rd z109 x46_2) (rd z111 x53_3) t124 t125 _ A28.out).mono ?_); rintro e w35 ⟨rfl, hb⟩; replace HO_6 := oB HO_6.out hb; replace HB := hS HB.out hb; (try clear hb); obtain ⟨Ao36, co36, rfl⟩ := Kd.R_slice HO_6.out; have p126 : 0 ≤ ((ji29) : Int) := of_decide_eq_true dS; have q126 : (ji29) < (x6_3.length : Int) := of_decide_eq_true dS; obtain ⟨ad126, e126, hx126_0⟩ := Kd.at_int (Kd.R_reads' HO_6.out).2.2 (ji29) p126 q126; cases e126; replace p126 := eq_true p126; replace q126 := eq_true q126) | (go_at_call 61; (with_reducible refine (wide_Add.calls t125 (rd x6_3 (ji29)) 0 t127 t128 _ A32.out).mono ?_); rintro e w' ⟨rfl, ⟨nd, rfl⟩⟩; (try exact dW)) | (go_at_call 61; (with_reducible refine (wide_Add.calls t127 x9_3 0 t129 t130 _ A33.out).mono ?_); rintro e w' ⟨rfl, ⟨nd, rfl⟩⟩; (try exact dW); have p34 : 0 ≤ ((ji29) : Int) := of_decide_eq_true dS; have q34 : ((ji29) : Int) < ((x6_3.length : Int) : Int) := of_decide_eq_true dS; obtain ⟨go34, co34, eo34, gb34, gl34, cl34, HG34⟩ := Kd.R_form HO_6.out (by omega); (first | cases eo34 | (injection eo34 with ea_ en_ ec_; (first | subst ea_ | (injection ea_ with ea_; subst ea_)); subst ec_; clear en_)); have GB34 := aM gb34; have GG34 := aM HG34; clear gb34 gl34 HG34; (first | simp only [add_plain] at hx126_0 | skip); obtain ⟨hx34_0, hf34_0⟩ := Kd.R_celln 0 HO_6.out ((ji29) : Int) p34 q34; replace p34 := eq_true p34; replace q34 := eq_true q34; obtain ⟨hy37_, hz37_⟩ := Kd.R_celln 0 HO_6.out ((ji29) : Int) (of_decide_eq_true dS) (of_decide_eq_true dS); have HP37 := Kd.R_putg HO_6.out ((ji29) : Int) t129) | ((with_reducible refine gate_store (t := 44) (p := 88) rfl ?_); (try (rw [drewN_self w35]; generalize hq_ : World.drewN w35 _ = w35; replace HO_6 := aM (Kd.R_at hq_ HO_6.out); replace HB := aM (below_at hq_ HB.out); clear hq_; (try (obtain ⟨hy37_, hz37_⟩ := Kd.R_celln 0 HO_6.out ((ji29) : Int) (of_decide_eq_true dS) (of_decide_eq_true dS))); (try (have HP37 := Kd.R_putg HO_6.out ((ji29) : Int) t129)))); refine store_event (t := 44) (p := 88) (v := ?vo_w38) (w1 := (w35.setCell ⟨go34, ((ji29) : Int).toNat, none⟩ (.int .u64 t129))) ?hg ?ho ?hn ?hr ?_; (case ho => rfl); (case hg => rfl); (case hn => rfl); (case hr => first | (go_simp; done) | (go_simp; rfl)); intro w38 hw; have hg : w35.grownBy w38 (some go34) := (by rw [hw]; exact HP37.2); have hp_ : Kd.R (Kd.int .u64) 44 w38 w.heap.size (fun _ => True) (.slice (some ⟨go34, 0, none⟩) x6_3.length co36) y131 := (by rw [hw, Ny131.out]; exact HP37.1); clear HP37; replace HO_6 := aM (hp_); replace HB := aM ((by rw [hw]; exact below_set (HB.out) GB34.out : Below w.heap.size w w38)); clear hg hw hp_)); try go_quiet (first | (go_at_call 60; (with_reducible refine (wide_Mul.calls (rd z109 x46_2) (rd z111 x53_3) t124 t125 _ A28.out).mono ?_); rintro e w35 ⟨rfl, hb⟩; replace HO_6 := oB HO_6.out hb; replace HB := hS HB.out hb; (try clear hb); obtain ⟨Ao36, co36, rfl⟩ := Kd.R_slice HO_6.out; have p126 : 0 ≤ ((ji29) : Int) := of_decide_eq_true dS; have q126 : (ji29) < (x6_3.length : Int) := of_decide_eq_true dS; obtain ⟨ad126, e126, hx126_0⟩ := Kd.at_int (Kd.R_reads' HO_6.out).2.2 (ji29) p126 q126; cases e126; replace p126 := eq_true p126; replace q126 := eq_true q126) | (go_at_call 61; (with_reducible refine (wide_Add.calls t125 (rd x6_3 (ji29)) 0 t127 t128 _ A32.out).mono ?_); rintro e w' ⟨rfl, ⟨nd, rfl⟩⟩; (try exact dW)) | (go_at_call 61; (with_reducible refine (wide_Add.calls t127 x9_3 0 t129 t130 _ A33.out).mono ?_); rintro e w' ⟨rfl, ⟨nd, rfl⟩⟩; (try exact dW); have p34 : 0 ≤ ((ji29) : Int) := of_decide_eq_true dS; have q34 : ((ji29) : Int) < ((x6_3.length : Int) : Int) := of_decide_eq_true dS; obtain ⟨go34, co34, eo34, gb34, gl34, cl34, HG34⟩ := Kd.R_form HO_6.out (by omega); (first | cases eo34 | (injection eo34 with ea_ en_ ec_; (first | subst ea_ | (injection ea_ with ea_; subst ea_)); subst ec_; clear en_)); have GB34 := aM gb34; have GG34 := aM HG34; clear gb34 gl34 HG34; (first | simp only [add_plain] at hx126_0 | skip); obtain ⟨hx34_0, hf34_0⟩ := Kd.R_celln 0 HO_6.out ((ji29) : Int) p34 q34; replace p34 := eq_true p34; replace q34 := eq_true q34; obtain ⟨hy37_, hz37_⟩ := Kd.R_celln 0 HO_6.out ((ji29) : Int) (of_decide_eq_true dS) (of_decide_eq_true dS); have HP37 := Kd.R_putg HO_6.out ((ji29) : Int) t129) | ((with_reducible refine gate_store (t := 44) (p := 88) rfl ?_); (try (rw [drewN_self w35]; generalize hq_ : World.drewN w35 _ = w35; replace HO_6 := aM (Kd.R_at hq_ HO_6.out); replace HB := aM (below_at hq_ HB.out); clear hq_; (try (obtain ⟨hy37_, hz37_⟩ := Kd.R_celln 0 HO_6.out ((ji29) : Int) (of_decide_eq_true dS) (of_decide_eq_true dS))); (try (have HP37 := Kd.R_putg HO_6.out ((ji29) : Int) t129)))); refine store_event (t := 44) (p := 88) (v := ?vo_w38) (w1 := (w35.setCell ⟨go34, ((ji29) : Int).toNat, none⟩ (.int .u64 t129))) ?hg ?ho ?hn ?hr ?_; (case ho => rfl); (case hg => rfl); (case hn => rfl); (case hr => first | (go_simp; done) | (go_simp; rfl)); intro w38 hw; have hg : w35.grownBy w38 (some go34) := (by rw [hw]; exact HP37.2); have hp_ : Kd.R (Kd.int .u64) 44 w38 w.heap.size (fun _ => True) (.slice (some ⟨go34, 0, none⟩) x6_3.length co36) y131 := (by rw [hw, Ny131.out]; exact HP37.1); clear HP37; replace HO_6 := aM (hp_); replace HB := aM ((by rw [hw]; exact below_set (HB.out) GB34.out : Below w.heap.size w w38)); clear hg hw hp_)))
           go_roundg k3
           case measure => have := HJ8.out; have := HK2.out; have := HK3.out; omega
           case rel => exact ⟨(y131), (IntKind.u64.wrap ((IntKind.u64.wrap (t124 + t128)) + t130)), (wrap64 (x53_3 + 1)), dF, dF, H', ⟨by have := HJ8.out; have := HK2.out; have := HK3.out; omega⟩, ⟨dR HO_6.out⟩, ⟨dB⟩⟩
          ·rw [if_neg c25] at H
           have c25b0 := decide_eq_false c25
           clear c25
           obtain ⟨ji39, hji39⟩ : ∃ j_ : Int, (wrap64 (x46_2 + (z111.length : Int))) = j_ := ⟨_, rfl⟩
           first | rw [hji39] at H | simp only [hji39] at H
           have hji39w : (IntKind.i64.wrap (x46_2 + (z111.length : Int))) = ji39 := (i64_w _).trans hji39
           replace H := nO H
           obtain ⟨c40, H⟩ := H
           have c40b0 : decide (0 ≤ (ji39)) = true := decide_eq_true c40
           clear c40
           replace H := nO H
           obtain ⟨c41, H⟩ := H
           have c41b0 := decide_eq_true c41
           clear c41
           obtain ⟨y132, hy132⟩ : ∃ y_ : List Int, y_ = (x6_3.set ((ji39) : Int).toNat x9_3) := ⟨_, rfl⟩
           replace H : (nat_Mul.l0 k3 z111 y132 z109 (z109.length : Int) (wrap64 (x46_2 + 1))) = some (r1, r2) := by first | (rw [hy132]; with_reducible exact H) | (have H2_ := (Option.bind_some _ _).symm.trans H; rw [hy132]; with_reducible exact H2_) | (have H2_ := (Option.bind_some _ _).symm.trans H; with_reducible exact H2_) | with_reducible exact H | (rw [hy132]; exact H) | exact H
           have Ny132 := aM hy132
           clear hy132
           have H' := aM H
           clear H
           have p42 : 0 ≤ ((ji39) : Int) := of_decide_eq_true dS
           have q42 : ((ji39) : Int) < ((x6_3.length : Int) : Int) := of_decide_eq_true dS
           obtain ⟨go42, co42, eo42, gb42, gl42, cl42, HG42⟩ := Kd.R_form HO_6.out (by omega)
           (first | cases eo42 | (injection eo42 with ea_ en_ ec_; (first | subst ea_ | (injection ea_ with ea_; subst ea_)); subst ec_; clear en_))
           have GB42 := aM gb42
           have GG42 := aM HG42
           clear gb42 gl42 HG42
           obtain ⟨hx42_0, hf42_0⟩ := Kd.R_celln 0 HO_6.out ((ji39) : Int) p42 q42
           replace p42 := eq_true p42
           replace q42 := eq_true q42
           have HP43 := Kd.R_putg HO_6.out ((ji39) : Int) x9_3
           iterate 6 (go_wp2_with (first | ((with_reducible refine gate_store (t := 44) (p := 99) rfl ?_); (try (rw [drewN_self wr]; generalize hq_ : World.drewN wr _ = wr; replace HO_6 := aM (Kd.R_at hq_ HO_6.out); replace HB := aM (below_at hq_ HB.out); clear hq_; (try (have HP43 := Kd.R_putg HO_6.out ((ji39) : Int) x9_3)))); refine store_event (t := 44) (p := 99) (v := ?vo_w44) (w1 := (wr.setCell ⟨go42, ((ji39) : Int).toNat, none⟩ (.int .u64 x9_3))) ?hg ?ho ?hn ?hr ?_; (case ho => rfl); (case hg => rfl); (case hn => rfl); (case hr => first | (go_simp; done) | (go_simp; rfl)); intro w44 hw; have hg : wr.grownBy w44 (some go42) := (by rw [hw]; exact HP43.2); have hp_ : Kd.R (Kd.int .u64) 44 w44 w.heap.size (fun _ => True) (.slice (some ⟨go42, 0, none⟩) x6_3.length co42) y132 := (by rw [hw, Ny132.out]; exact HP43.1); clear HP43; replace HO_6 := aM (hp_); replace HB := aM ((by rw [hw]; exact below_set (HB.out) GB42.out : Below w.heap.size w w44)); clear hg hw hp_)); try go_quiet (fail))
           go_roundg k3
           case measure => have := HJ8.out; have := HK2.out; have := HK3.out; omega
           case rel => exact ⟨(y132), (wrap64 (x46_2 + 1)), dF, H', ⟨by have := HJ8.out; have := HK2.out; have := HK3.out; omega⟩, ⟨dR HO_6.out⟩, ⟨dB⟩⟩
       ·rw [if_neg c22] at H
        have c22b0 := decide_eq_false c22
        clear c22
        replace H := oA H
        obtain ⟨⟨t118, t121⟩, A45, H⟩ := H
        (try dsimp only at H)
        simp only [Option.some.injEq, Prod.mk.injEq] at H
        obtain ⟨rfl, rfl⟩ := H
        obtain ⟨Ao46, co46, rfl⟩ := Kd.R_slice HO_6.out
        iterate 6 (go_wp2_with (first | (go_at_call 56; (with_reducible refine (nat_bound.calls k2 (fun k_ => some k_ = (.slice Ao46 x6_2.length co46 : Value).ownBlock) (.slice Ao46 x6_2.length co46) x6_2 t118 t121 w _ ?side1 ?side2 A45.out).mono ?_); (case side1 => repeat (first | (with_reducible first | exact HB.out | apply below_alloc | apply pw_below_drewN | apply below_drew1) | exact HB.out)); (case side2 => exact Kd.R_tight rfl HO_6.out); rintro e w47 ⟨v119, rfl, ho0, hb, hkp⟩; have HO120 := aM (Kd.R_mono (ok' := fun k_ => True) ho0 (fun k_ hk_ => trivial)); replace HB := aM (hb); clear HO_6; (try clear hb); (try clear hkp); (try clear ho0))); try go_quiet (fail))
        go_ret2
        exact ⟨_, by first | rfl | (simp [errW_none, errW_some] <;> rfl) | (simp only [← hji17]; first | rfl | (simp [errW_none, errW_some] <;> rfl)) | (simp [*, errW_none, errW_some] <;> rfl), dR HO120.out, dB⟩
def rat_mul.f (k : Nat) (l0 : List Int) (l1 : List Int) : Option (List Int) := (nat_Mul.f k l0 l1).bind fun bt285 => ((rat_fits.f bt285.1 bt285.2).bind fun t289 => (some t289))
theorem rat_mul.mono : ∀ a0 a1 k, LeO (rat_mul.f k a0 a1) (rat_mul.f (k + 1) a0 a1) := by
 intro a0 a1 k
 unfold rat_mul.f
 have m0_ := nat_Mul.mono
 exact mX
set_option maxHeartbeats 8000000 in
set_option maxRecDepth 100000 in
theorem rat_mul.calls (k : Nat) (A0 : Option Addr) (c0 : Nat) (l0 : List Int) (A1 : Option Addr) (c1 : Nat) (l1 : List Int) (r : List Int) (w : World) (hr0 : Kd.C (Kd.int .u64) w A0 l0.length l0) (hc0 : l0.length ≤ c0) (hr1 : Kd.C (Kd.int .u64) w A1 l1.length l1) (hc1 : l1.length ≤ c1) (h : rat_mul.f k l0 l1 = some r) :
  Calls Try.prog 30 #[.slice A0 l0.length c0, .slice A1 l1.length c1] w fun e w' => ∃ v0_ : Value, e = .returned (v0_) ∧ Kd.R (Kd.int .u64) 44 w' w.heap.size (fun _ => True) v0_ r ∧ Below w.heap.size w w' := by
 have HR0 := aM hr0
 have HC0 := aM hc0
 clear hr0 hc0
 have HR1 := aM hr1
 have HC1 := aM hc1
 clear hr1 hc1
 have HB := aM (Below.refl w.heap.size w)
 have H := h
 clear h
 unfold rat_mul.f at H
 replace H := oA H
 obtain ⟨⟨t285, t286⟩, A3, H⟩ := H
 (try dsimp only at H)
 replace H := oA H
 obtain ⟨t289, A4, H⟩ := H
 (try dsimp only at H)
 obtain rfl := Option.some.inj H
 go_enter Try.func30, Try.ntmps30
 go_wp2_with (first | ((with_reducible refine gate_callee (f := 50) rfl ?_); refine gL (some 7) Try.func50 #[.slice A0 l0.length c0, .slice A1 l1.length c1] ?_; (with_reducible refine (nat_Mul.calls k _ _ l0 _ _ l1 t285 t286 _ ?side1 HC0.out ?side3 HC1.out A3.out).mono ?_); (case side1 => exact dC HR0.out); (case side3 => exact dC HR1.out); rintro e w5 ⟨v287, rfl, ho0, hb⟩; refine ⟨_, rfl, ?_⟩; have HO288 := aM (Kd.R_lower ho0 (below_size dB)); replace HB := hS HB.out hb; (try clear hb); (try clear ho0); obtain ⟨Ao6, co6, rfl⟩ := Kd.R_slice HO288.out) | ((with_reducible refine gate_callee (f := 37) rfl ?_); refine gL (some 10) Try.func37 #[.slice Ao6 t285.length co6, .int .i64 t286] ?_; (with_reducible refine (rat_fits.calls (fun k_ => some k_ = (.slice Ao6 t285.length co6 : Value).ownBlock) (.slice Ao6 t285.length co6) t285 t286 t289 w _ ?side1 ?side2 A4.out).mono ?_); (case side1 => repeat (first | (with_reducible first | exact HB.out | apply below_alloc | apply pw_below_drewN | apply below_drew1) | exact HB.out)); (case side2 => exact Kd.R_tight rfl HO288.out); rintro e w7 ⟨v290, rfl, ho0, hb, hkp⟩; refine ⟨_, rfl, ?_⟩; have HO291 := aM (Kd.R_mono (ok' := fun k_ => True) ho0 (fun k_ hk_ => trivial)); replace HB := aM (hb); clear HO288; (try clear hb); (try clear hkp); (try clear ho0)))
 go_ret
 exact ⟨_, dE, dR HO291.out, dB⟩
end Go.Proofs.Ytiogfeeaepkkmaa.PA
