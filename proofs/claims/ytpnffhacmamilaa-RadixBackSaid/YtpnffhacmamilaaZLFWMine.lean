/- What this work adds to the print's words: a cut with a capacity of a row of the call's own. -/
import Derived.Test.YtpnffhacmamilaaZLFWWords
import Derived.Lib.ConvBytes
namespace Go.Proofs.YtpnffhacmamilaaW.PrintWords
open Go.RowKit
theorem cut_to3 {P : Program} (t e : TypeId) (kh kh' : IntKind) {i : TypeInfo} (ht : P.underlying t = some (.slice e)) (hi : P.info? e = some i) (A : Option Addr) (n c : Nat) (j : Int) (h0 : 0 ≤ j) (hm : j ≤ n) (hc : n ≤ c) :
    ∀ W : World, (Instr.slice t (.slice A n c) none (some (.int kh j)) (some (.int kh' j))).run P W = .ok (.slice A j.toNat j.toNat) W := by
  intro W
  have ha : (A.map fun x => x.add 0) = A := by cases A <;> simp [Addr.add]
  have h1 : j ≤ (c : Int) := by omega
  have h2 : ¬ (max j 0 < j) := by omega
  simp [Instr.slice, Instr.sliceBounds, Instr.sliceBound, asIntOf, run_underlying ht, sizeOf, typeInfo, hi, h0, h1, h2, ha]
theorem own_lower {w : World} {base n m c size : Nat} {e : TypeId} {A : Option Addr} {xs : List Value} (h : ownsRow2 w base e size (.slice A n c) n xs) (h1 : n ≤ m) (h2 : m ≤ c) : ownsRow2 w base e size (.slice A n m) n xs := by
  refine ⟨h.1, ?_⟩
  rcases h.2 with ⟨he, h0⟩ | ⟨g, cap, cur, he, hb, hh, hnc, hcm, hcs, ht⟩
  · injection he with ha _ hc
    subst ha; subst hc
    exact .inl ⟨by rw [h0, show m = 0 by omega], h0⟩
  · injection he with ha _ hc
    subst ha; subst hc
    exact .inr ⟨g, m, cur, rfl, hb, hh, h1, by omega, Nat.le_trans (Nat.mul_le_mul_right _ h2) hcs, ht⟩
theorem Kd.R_take3 {α : Type} {d : Kd α} {e m n c : Nat} {w : World} {base : Nat} {ok : Nat → Prop} {A : Option Addr} {xs : List α} (h : d.R e w base ok (.slice A n c) xs) (hm : m ≤ xs.length) : d.R e w base ok (.slice A m m) (xs.take m) := by
  obtain ⟨A', c', he, hc, _⟩ := Kd.R_reads h
  injection he with ha hn hc'
  subst ha; subst hn; subst hc'
  obtain ⟨h0, inner, ho, hr⟩ := Kd.R_take h hm
  have hl : (xs.take m).length = m := by rw [List.length_take]; omega
  rw [hl] at ho
  have hb : (Value.slice A m c).ownBlock = (Value.slice A m m).ownBlock := by cases A <;> rfl
  refine ⟨fun k hk => h0 k (by rw [hb]; exact hk), inner, ?_, ?_⟩
  · rw [hl]; exact own_lower ho (Nat.le_refl _) (by omega)
  · rw [hb] at hr; exact hr
namespace Kd
section
variable {P : Program} {ops : Array Oper} {rest : List Oper} {o : Oper} {a : Act} {Q : Exit → Act → World → Prop} {α : Type}
/-- copy(v[q:], ys), v a row of scalars of the call's own -/
theorem R_copy_at {enc : α → Value} {h1 : ∀ x, (enc x).oneCell' = true} (d : α) {w0 W : World} (base : Nat) (hgd : o.guard = none) (s x : Operand) (t t' e : TypeId)
    (ho : o.op = .call { callee := .builtin .copy, args := #[s, x], argTypes := #[t, t'] }) (ht : P.underlying t = some (.slice e)) (hinfo : (P.info? e).map (·.size) = some 1)
    (A' : Option Addr) (c' q n : Nat) (xs ys : List α) (hn : xs.length = n) (A : Option Addr) (m c : Nat) (ok : Nat → Prop) (Aq : Option Addr) (hAq : Aq = if c' = q then A' else A'.map (·.add (q * 1))) (hs : a.eval s = .slice Aq (n - q) (c' - q)) (hx : a.eval x = .slice A m c) (hq : q ≤ n)
    (HO : (scalar enc h1).R e W base ok (.slice A' n c') xs) (HR : (scalar enc h1).C W A m ys) (HB : Below base w0 W) (hbase : base ≤ W.heap.size)
    (h : ∀ w1, (scalar enc h1).R e w1 base ok (.slice A' n c') (xs.take q ++ (ys.take (min m (n - q)) ++ xs.drop (q + min m (n - q)))) → Below base w0 w1 → W.grownBy w1 (Value.slice A' n c').ownBlock → wpList P ops Q rest (a.put o.dst (.int .i64 ((min m (n - q) : Nat) : Int))) w1) :
    wpList P ops Q (o :: rest) a W := by
  subst hn
  subst hAq
  have hR := reads_of_C (enc := enc) (d := d) (h1 := h1) HR
  have hm : ys.length = m := hR.1
  have hown := own_of_R HO
  have fin : ∀ w1, (Builtin.copy_ #[t, t'] o.type #[.slice (if c' = q then A' else A'.map (·.add (q * 1))) (xs.length - q) (c' - q), .slice A m c]).run P W = .ok (goInt ((min m (xs.length - q) : Nat) : Int)) w1 → (scalar enc h1).R e w1 base ok (.slice A' xs.length c') (xs.take q ++ (ys.take (min m (xs.length - q)) ++ xs.drop (q + min m (xs.length - q)))) → W.grownBy w1 (Value.slice A' xs.length c').ownBlock → wpList P ops Q (o :: rest) a W := by
    intro w1 hr hrow hg
    refine wpList_plain hgd fun K hK => ?_
    unfold Oper.wp execOp
    simp only [ho, resolve, invoke, builtin, Sem.run_bind, Sem.run_pure, Result.andThen_ok, List.map_toArray, List.map_cons, List.map_nil, hs, hx, hr]
    exact hK _ _ (h w1 hrow (HB.grown hg hbase (own_base hown)) hg)
  rcases Nat.eq_zero_or_pos (min m (xs.length - q)) with h0 | hp
  · refine fin W ?_ (by rw [h0, List.take_zero, Nat.add_zero, List.nil_append, List.take_append_drop]; exact HO) (World.grownBy.refl W _)
    rw [h0]
    exact run_copy_none W t t' o.type e _ A (xs.length - q) _ m c ht hinfo h0
  · obtain ⟨ad, hA, hc⟩ := hR.2.2 (by omega)
    rcases hown.2 with ⟨_, hx0⟩ | ⟨g, cap, cur, hv, hb, ⟨fz, hh, hfz⟩, hnc, hcm, hcs, htake⟩
    · omega
    injection hv with hv1 _ hv3
    subst hv1
    subst hv3
    have hcs1 : c' ≤ cur.size := by omega
    have hne : c' ≠ q := by omega
    rw [if_neg hne] at fin
    have hsrc : ∀ j u, (encs enc (ys.take (min m (xs.length - q))))[j]? = some u → W.cell? (ad.add j) = some u := by
      intro j u hu
      have hj : j < (ys.take (min m (xs.length - q))).length := by
        rcases Nat.lt_or_ge j (ys.take (min m (xs.length - q))).length with h | h
        · exact h
        · rw [List.getElem?_eq_none (by rw [encs_length]; exact h)] at hu
          cases hu
      have hjm : j < min m (xs.length - q) := by rw [List.length_take] at hj; omega
      rw [encs_get (d := d) _ j hj] at hu
      rw [hc j (by omega), ← hu]
      simp [List.getD_eq_getElem?_getD, hjm]
    have hkl : (encs enc (ys.take (min m (xs.length - q)))).length = min m (xs.length - q) := by rw [encs_length, List.length_take]; omega
    have hr := run_copy_cells (P := P) W t t' o.type e g (0 + q * 1) (xs.length - q) (c' - q) ad m c (encs enc (ys.take (min m (xs.length - q)))) ht hinfo (by rw [hkl]) hsrc
      (fun j hj => by rw [cell_of_row W g _ cur e fz hh]; simp; omega) (fun j hj => fine_frozen hh hfz (by omega)) (by intro u hu; simp only [encs, List.mem_map] at hu; obtain ⟨q, _, rfl⟩ := hu; exact h1 q)
    obtain ⟨cur', h3, h4, h5⟩ := heap_puts (encs enc (ys.take (min m (xs.length - q)))) (0 + q * 1) W cur hh (by rw [hkl]; omega)
    obtain ⟨s1, s2, s3, s4⟩ := setCells_same g (encs enc (ys.take (min m (xs.length - q)))) (0 + q * 1) W
    refine fin _ (by rw [hA]; simp only [Option.map_some]; rw [add_at, hr, hkl]) (R_of_own ?_ HO.1) ⟨s1, s2, s3, by rw [s4]; exact Nat.le_refl _, fun k _ hk => setCells_far _ _ k (fun he => hk (by rw [he]; simp [Value.ownBlock]))⟩
    have hln : (xs.take q ++ (ys.take (min m (xs.length - q)) ++ xs.drop (q + min m (xs.length - q)))).length = xs.length := by
      rw [List.length_append, List.length_append, List.length_take, List.length_take, List.length_drop]
      omega
    rw [hln]
    refine ⟨by rw [encs_length, hln, Nat.mul_one], .inr ⟨g, c', cur', rfl, hb, ⟨fz, h3, by rw [h4]; exact hfz⟩, hnc, hcm, by rw [h4]; exact hcs, ?_⟩⟩
    have htk : cur.toList.take xs.length = encs enc xs := by rw [← htake, Nat.mul_one]
    have hd : encs enc (xs.drop (q + min m (xs.length - q))) = (encs enc xs).drop (q + min m (xs.length - q)) := by simp [encs, List.map_drop]
    have ht' : encs enc (xs.take q) = (encs enc xs).take q := by simp [encs, List.map_take]
    rw [h5, hkl, Nat.zero_add, Nat.mul_one, Nat.mul_one, encs_append, encs_append, List.append_assoc, hd, ht', ← htk, List.take_take, Nat.min_eq_left hq, List.drop_take]
    have hql : (cur.toList.take q).length = q := by rw [List.length_take, Array.length_toList]; omega
    rw [List.take_append, hql, List.take_of_length_le (by omega), List.take_append, hkl, List.take_of_length_le (l := encs enc _) (by rw [hkl]; omega)]
    congr 3
    omega
end
end Kd
/-- a text's bytes as numbers -/
def bytesOfStr (s : ByteArray) : List Int := s.data.toList.map fun b => (b.toNat : Int)
theorem bytesOfStr_length (s : ByteArray) : (bytesOfStr s).length = s.size := by simp [bytesOfStr]
section
variable {P : Program} {ops : Array Oper} {rest : List Oper} {o : Oper} {a : Act} {Q : Exit → Act → World → Prop}
theorem bytesCells_size (W : World) (e : TypeId) (s : ByteArray) : (Lib.bytesCells W e s).size = grownCap W s.size 0 e := by
  have h := grownCap_ge W s.size 0 e
  simp only [Lib.bytesCells, Array.size_append, Array.size_map, Array.size_replicate]
  show s.size + (grownCap W s.size 0 e - s.size) = _
  omega
/-- '[]byte(s)': a new row of the call's own. -/
theorem Kd.R_bytes {w0 W : World} (base e : Nat) (hgd : o.guard = none) {N : Tmp} (_hd : o.dst = some N) (src t : TypeId) (x : Operand) (ho : o.op = .convert src t x) (s : ByteArray) (hx : a.eval x = .string s)
    {u : TypeDesc} (hs : P.underlying src = some u) (ht : P.underlying t = some (.slice e)) (he : P.underlying e = some (.int .u8)) {ok : Nat → Prop} (hfresh : ok W.heap.size) (hl : s.size ≤ 281474976710656) (HB : Below base w0 W) (hbase : base ≤ W.heap.size)
    (h : ∀ v1 w1, (Kd.int .u8).R e w1 base ok v1 (bytesOfStr s) → Below base w0 w1 → W.grownBy w1 none → (∃ b, v1.ownBlock = some b ∧ W.heap.size ≤ b) → wpList P ops Q rest (a.put o.dst v1) w1) : wpList P ops Q (o :: rest) a W := by
  have hrun : (execOp a.eval o).run P W = .ok (.value (.slice (some ⟨W.heap.size, 0, none⟩) s.size (grownCap W s.size 0 e))) (Lib.bytesWorld W e s) := by
    simp [execOp, ho, hx, Lib.run_convert_string_bytes W src t e s hs ht he]
  have hsz := Lib.bytesWorld_size W e s
  have hold := Lib.bytesWorld_at_old W e s
  have hbel : Below W.heap.size W (Lib.bytesWorld W e s) := ⟨rfl, rfl, rfl, by rw [hsz]; exact Nat.le_succ _, hold⟩
  refine event_run hgd hrun (h _ _ (Kd.R_of_own ?_ (fun k hk => ?_)) (below_then HB hbase hbel) ⟨rfl, rfl, rfl, by rw [hsz]; exact Nat.le_succ _, fun k hk _ => hold k hk⟩ ⟨W.heap.size, by simp [Value.ownBlock], Nat.le_refl _⟩)
  · rw [bytesOfStr_length]
    refine ⟨by rw [encs_length, bytesOfStr_length, Nat.mul_one], .inr ⟨W.heap.size, grownCap W s.size 0 e, Lib.bytesCells W e s, rfl, hbase, ⟨_, Lib.bytesWorld_at_new W e s, .inr (Nat.le_refl _)⟩, grownCap_ge _ _ _ _, grownCap_le_maxLen _ _ _ _ (by simp only [maxLen]; omega), ?_, ?_⟩⟩
    · rw [bytesCells_size, Nat.mul_one]; exact Nat.le_refl _
    · have h1 : (Lib.bytesCells W e s).toList = (s.data.toList.map fun b => Value.int .u8 b.toNat) ++ List.replicate (grownCap W s.size 0 e - s.size) (.int .u8 0) := by simp [Lib.bytesCells]
      rw [h1, Nat.mul_one, List.take_append_of_le_length (by simp), List.take_of_length_le (by simp)]
      simp [encs, bytesOfStr]
  · have : W.heap.size = k := by simpa [Value.ownBlock] using hk
    subst this
    exact hfresh
end
end Go.Proofs.YtpnffhacmamilaaW.PrintWords
