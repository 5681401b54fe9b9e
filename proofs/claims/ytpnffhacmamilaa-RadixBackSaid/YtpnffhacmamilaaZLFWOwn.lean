/- A row of the call's own whose block may reach beyond the capacity (what 'x[:n:n]' leaves): the kit's word 'ownsRow' in a weaker form, and its laws. -/
import Derived.Below
import Derived.Deep.AppendLies
import Derived.Maps.AppendAt
import Derived.OwnWalk
import Derived.Laws.OwnMore
import Derived.Lib.AppendStr
import Derived.ArgAppend
import Derived.Tactics
import Derived.RowKit
namespace Go.Proofs.YtpnffhacmamilaaW.PrintWords
open Go.RowKit

/-- the mark of a block: nothing within its cells is held fast (what a conversion to bytes leaves lies behind them) -/
def fine (fz : Nat × Nat) (n : Nat) : Prop := fz.2 = 0 ∨ n ≤ fz.1
theorem fine_zero (n : Nat) : fine (0, 0) n := .inl rfl
theorem fine_frozen {w : World} {g : Nat} {t : TypeId} {cs : Array Value} {fz : Nat × Nat} (h : w.heap[g]? = some (.cells cs t fz)) (hf : fine fz cs.size) {i : Nat} (hi : i < cs.size) : w.frozen? ⟨g, i, none⟩ = false := by
  simp only [World.frozen?, h]
  rcases hf with hf | hf <;> simp <;> omega
theorem heap_put {w : World} {g : Nat} {t : TypeId} {cs : Array Value} {fz : Nat × Nat} (h : w.heap[g]? = some (.cells cs t fz)) (i : Nat) (u : Value) : (w.setCell ⟨g, i, none⟩ u).heap[g]? = some (.cells (cs.setIfInBounds i u) t fz) := by
  simp [World.setCell, Array.getElem?_modify, h]
theorem heap_puts {g : Nat} {e : TypeId} {fz : Nat × Nat} : ∀ (vs : List Value) (o : Nat) (w : World) (cur : Array Value), w.heap[g]? = some (.cells cur e fz) → o + vs.length ≤ cur.size →
    ∃ cur', (w.setCells g o vs).heap[g]? = some (.cells cur' e fz) ∧ cur'.size = cur.size ∧ cur'.toList = cur.toList.take o ++ vs ++ cur.toList.drop (o + vs.length)
  | [], o, w, cur, h, _ => ⟨cur, h, rfl, by simp⟩
  | v :: r, o, w, cur, h, hl => by
    have h2 := heap_put h o v
    simp only [List.length_cons] at hl
    obtain ⟨cur', h3, h4, h5⟩ := heap_puts r (o + 1) (w.setCell ⟨g, o, none⟩ v) _ h2 (by simp; omega)
    refine ⟨cur', h3, by rw [h4]; simp, ?_⟩
    rw [h5, Array.toList_setIfInBounds]
    have ho : o < cur.toList.length := by rw [Array.length_toList]; omega
    rw [List.take_set, List.drop_set_of_lt (by omega)]
    simp only [List.length_cons]
    rw [show o + 1 + r.length = o + (r.length + 1) by omega]
    congr 1
    rw [List.take_succ_eq_append_getElem ho, List.set_append_right _ _ (by rw [List.length_take]; omega)]
    have ho' : o < cur.size := by omega
    simp [Nat.min_eq_left (Nat.le_of_lt ho')]
theorem puts_same (g : Nat) : ∀ (vs : List Value) (o : Nat) (w : World), (w.setCells g o vs).os = w.os ∧ (w.setCells g o vs).tape = w.tape ∧ (w.setCells g o vs).output = w.output ∧ (w.setCells g o vs).heap.size = w.heap.size ∧ ∀ k, k ≠ g → (w.setCells g o vs).heap[k]? = w.heap[k]?
  | [], o, w => ⟨rfl, rfl, rfl, rfl, fun _ _ => rfl⟩
  | v :: r, o, w => by
    obtain ⟨h1, h2, h3, h4, h5⟩ := puts_same g r (o + 1) (w.setCell ⟨g, o, none⟩ v)
    rw [World.setCells]
    exact ⟨h1, h2, h3, by rw [h4]; simp [World.setCell], fun k hk => by rw [h5 k hk]; exact heap_setCell_other w ⟨g, o, none⟩ k v hk⟩
/-- the block of a row: its cells, nothing of them held fast -/
def Blk (w : World) (g : Nat) (cs : Array Value) (t : TypeId) : Prop := ∃ fz, w.heap[g]? = some (.cells cs t fz) ∧ fine fz cs.size
theorem Blk.of {w : World} {g : Nat} {cs : Array Value} {t : TypeId} (h : w.heap[g]? = some (.cells cs t (0, 0))) : Blk w g cs t := ⟨(0, 0), h, fine_zero _⟩
theorem Blk.lt {w : World} {g : Nat} {cs : Array Value} {t : TypeId} (h : Blk w g cs t) : g < w.heap.size := let ⟨_, h, _⟩ := h; (Array.getElem?_eq_some_iff.1 h).1
theorem Blk.to {w w' : World} {g : Nat} {cs : Array Value} {t : TypeId} (h : Blk w g cs t) (e : w'.heap[g]? = w.heap[g]?) : Blk w' g cs t := let ⟨fz, h, hf⟩ := h; ⟨fz, e.trans h, hf⟩
theorem Blk.type {w : World} {g : Nat} {cs cs' : Array Value} {t t' : TypeId} {fz : Nat × Nat} (h : Blk w g cs t) (h' : w.heap[g]? = some (.cells cs' t' fz)) : t = t' := by
  obtain ⟨fz', h, _⟩ := h
  rw [h] at h'
  injection h' with h'
  injection h' with _ ht
theorem Blk.same {w : World} {g : Nat} {cs cs' : Array Value} {t t' : TypeId} (h : Blk w g cs t) (h' : Blk w g cs' t') : t = t' := let ⟨_, h', _⟩ := h'; h.type h'
/-- As 'World.ownsRow', but the block may hold more cells than the capacity says, and its mark may lie behind its cells. -/
def ownsRow2 (w : World) (base : Nat) (e : TypeId) (size : Nat) (v : Value) (n : Nat) (xs : List Value) : Prop :=
  xs.length = n * size ∧
  ((v = .slice none 0 0 ∧ n = 0) ∨
   ∃ g cap cur, v = .slice (some ⟨g, 0, none⟩) n cap ∧ base ≤ g ∧ Blk w g cur e ∧ n ≤ cap ∧ cap ≤ maxLen ∧ cap * size ≤ cur.size ∧ cur.toList.take (n * size) = xs)

section
variable {w : World} {base : Nat} {e : TypeId} {size : Nat} {v : Value} {n : Nat} {xs : List Value}
theorem ownsRow2.of (h : w.ownsRow base e size v n xs) : ownsRow2 w base e size v n xs := by
  refine ⟨h.1, ?_⟩
  rcases h.2 with h2 | ⟨g, cap, cur, h1, h2, h3, h4, h5, h6, h7⟩
  · exact .inl h2
  · exact .inr ⟨g, cap, cur, h1, h2, .of h3, h4, h5, Nat.le_of_eq h6.symm, h7⟩
theorem ownsRow2_lit (w : World) (cells : Array Value) (n : Nat) (hb : base ≤ w.heap.size) (hm : n ≤ maxLen) (hs : cells.size = n * size) :
    ownsRow2 (w.alloc (.cells cells e)) base e size (.slice (some ⟨w.heap.size, 0, none⟩) n n) n cells.toList := .of (World.ownsRow_lit w cells n hb hm hs)
theorem ownsRow2.lt (h : ownsRow2 w base e size v n xs) : ∀ k, v.ownBlock = some k → base ≤ k ∧ k < w.heap.size := by
  intro k hk
  rcases h.2 with ⟨rfl, _⟩ | ⟨g, cap, cur, rfl, hb, hg, _⟩
  · simp [Value.ownBlock] at hk
  · simp [Value.ownBlock] at hk
    subst hk
    exact ⟨hb, hg.lt⟩
theorem ownsRow2.kept {w' : World} {row : Option Nat} (h : ownsRow2 w base e size v n xs) (hg : w.grownBy w' row) (hne : v.ownBlock = none ∨ v.ownBlock ≠ row) : ownsRow2 w' base e size v n xs := by
  refine ⟨h.1, ?_⟩
  rcases h.2 with hn | ⟨g, cap, cur, rfl, hb, hgg, rest⟩
  · exact .inl hn
  · exact .inr ⟨g, cap, cur, rfl, hb, hgg.to (hg.block g hgg.lt (by simpa [Value.ownBlock] using hne)), rest⟩
theorem ownsRow2.alloc (h : ownsRow2 w base e size v n xs) (o : Obj) : ownsRow2 (w.alloc o) base e size v n xs :=
  h.kept (World.grownBy_alloc w o none) (by cases hv : v.ownBlock <;> simp)
theorem ownsRow2.drew (h : ownsRow2 w base e size v n xs) : ownsRow2 w.drew base e size v n xs := h
theorem ownsRow2.cells (h : ownsRow2 w base e size v n xs) {g : Nat} (hg : v.ownBlock = some g) : ∀ j u, xs[j]? = some u → w.cell? ((⟨g, 0, none⟩ : Addr).add j) = some u := by
  intro j u hu
  rcases h.2 with ⟨rfl, _⟩ | ⟨g', cap, cur, rfl, _, ⟨fz, hgg, _⟩, _, _, _, htake⟩
  · simp [Value.ownBlock] at hg
  · simp [Value.ownBlock] at hg
    subst hg
    refine World.news_of_block hgg j u ?_
    rw [← htake, List.getElem?_take] at hu
    split at hu
    · exact hu
    · cases hu
theorem ownsRow2.form (h : ownsRow2 w base e size v n xs) (hn : 0 < n) : ∃ g cap, v = .slice (some ⟨g, 0, none⟩) n cap ∧ base ≤ g ∧ g < w.heap.size := by
  rcases h.2 with ⟨_, h0⟩ | ⟨g, cap, cur, hv, hb, hg, _⟩
  · omega
  · exact ⟨g, cap, hv, hb, hg.lt⟩
theorem ownsRow2.stored {g cap : Nat} (h : ownsRow2 w base e size (.slice (some ⟨g, 0, none⟩) n cap) n xs) (j : Nat) (u : Value) :
    ownsRow2 (w.setCell ⟨g, j, none⟩ u) base e size (.slice (some ⟨g, 0, none⟩) n cap) n (xs.set j u) ∧ w.grownBy (w.setCell ⟨g, j, none⟩ u) (some g) := by
  rcases h.2 with ⟨h', _⟩ | ⟨g', cap', cur, h', hb, ⟨fz, hg, hfz⟩, hnc, hcm, hcs, htake⟩
  · simp at h'
  · simp only [Value.slice.injEq, Option.some.injEq, Addr.mk.injEq, and_true, true_and] at h'
    obtain ⟨rfl, rfl⟩ := h'
    refine ⟨⟨by simpa using h.1, .inr ⟨g, cap, cur.setIfInBounds j u, rfl, hb, ⟨fz, heap_put hg j u, by simpa using hfz⟩, hnc, hcm, by simpa using hcs, ?_⟩⟩,
      ⟨rfl, rfl, rfl, by simp, fun k _ hk => heap_setCell_other w ⟨g, j, none⟩ k u (fun e => hk (by simp [e]))⟩⟩
    rw [Array.toList_setIfInBounds, ← htake, List.take_set]
end

section
variable {P : Program} (w : World)
/-- append onto such a row: there is room, or it moves. -/
theorem run_append_own2_at (base : Nat) (t ty e : TypeId) (i : TypeInfo) (z : Value) (size bytes : Nat) (ht : P.underlying t = some (.slice e)) (hi : P.info? e = some i) (hz : i.zero = some z)
    (hsize : i.size = size) (hby : i.bytes = bytes) (hzs : z.cells.size = size) (hsz : 0 < size)
    (v : Value) (n : Nat) (xs : List Value) (hown : ownsRow2 w base e size v n xs)
    (a : Addr) (m c : Nat) (news : List Value) (hl : news.length = m * size) (hnews : ∀ j u, news[j]? = some u → w.cell? (a.add j) = some u) (h1 : ∀ u ∈ news, u.oneCell' = true)
    (h63 : n + m ≤ maxLen) (hbytes : (n + m) * bytes ≤ 140737488355328) (hbase : base ≤ w.heap.size) :
    ∃ v' w', (Builtin.append_ #[t, t] ty #[v, .slice (some a) m c]).run P w = .ok v' w' ∧ ownsRow2 w' base e size v' (n + m) (xs ++ news) ∧ w.grownBy w' v.ownBlock ∧
      (v' = .slice none 0 0 ↔ v = .slice none 0 0 ∧ m = 0) ∧ (v'.ownBlock = v.ownBlock ∨ v'.ownBlock = some w.heap.size) := by
  rcases hown.2 with ⟨rfl, rfl⟩ | ⟨g, cap, cur, rfl, hbg, ⟨fz, hg, hfz⟩, hnc, hcm, hcs, htake⟩
  · have hx : xs = [] := List.eq_nil_of_length_eq_zero (by simpa using hown.1)
    subst hx
    obtain ⟨v', w', hr, h2, h3⟩ := run_append_own_at (P := P) w base t ty e i z size bytes ht hi hz hsize hby hzs hsz (.slice none 0 0) 0 [] (World.ownsRow_nil w base e size) a m c news hl hnews h1 h63 hbytes hbase
    exact ⟨v', w', hr, .of h2, h3⟩
  · by_cases hroom : n + m ≤ cap
    · have hfit : n * i.size + news.length ≤ cur.size := by rw [hl, hsize, ← Nat.add_mul]; exact Nat.le_trans (Nat.mul_le_mul_right _ hroom) hcs
      have hz0 : 0 + n * i.size = n * i.size := Nat.zero_add _
      have hr := run_append_room_cells (P := P) (w := w) t ty e i ht hi g 0 n cap a m c news (by rw [hl, hsize]) hnews h1 hroom
        (fun j hj => by rw [hz0, cell_of_row w g _ cur e fz hg]; simp; omega) (fun j hj => fine_frozen hg hfz (by omega))
      rw [hz0] at hr
      obtain ⟨cur', c1, c2, c3⟩ := heap_puts news (n * i.size) w cur hg hfit
      obtain ⟨p1, p2, p3, p4, p5⟩ := puts_same g news (n * i.size) w
      have hlen : (xs ++ news).length = (n + m) * size := by rw [List.length_append, hown.1, hl, Nat.add_mul]
      refine ⟨_, _, hr, ⟨hlen, .inr ⟨g, cap, cur', rfl, hbg, ⟨fz, c1, by rw [c2]; exact hfz⟩, hroom, hcm, by rw [c2]; exact hcs, ?_⟩⟩, ⟨p1, p2, p3, Nat.le_of_eq p4.symm, fun k _ hk => p5 k (fun e => hk (by simp [Value.ownBlock, e]))⟩, by simp, Or.inl rfl⟩
      rw [c3, hsize, htake, ← hlen]
      exact List.take_left
    · obtain ⟨v', w', hr, h2, h3⟩ := run_append_arg_grows (P := P) w t ty e i z size bytes ht hi hz hsize hby hzs hsz ⟨g, 0, none⟩ n cap xs hown.1 (hown.cells (g := g) rfl) a m c news hl hnews (by omega) h63 hbytes
      have hne : v' ≠ .slice none 0 0 := by
        intro he
        rcases h2.2 with ⟨_, h0⟩ | ⟨g', c', cur', hv, _⟩
        · have h6 := hnc; omega
        · rw [he] at hv; cases hv
      have hblk : v'.ownBlock = some w.heap.size ∨ v'.ownBlock = some g := by
        have hgr := run_append_grow (P := P) w t ty e i z ht hi hz ⟨g, 0, none⟩ n cap xs (by rw [hown.1, hsize]) (hown.cells (g := g) rfl) a m c news (by rw [hl, hsize]) hnews (by omega) (by simp only [maxLen] at h63; omega) (by rw [hby]; exact growslice_fits (by omega) hbytes)
        rw [hgr] at hr
        injection hr with hr1 hr2
        left
        rw [← hr1]
        rfl
      refine ⟨v', w', hr, .of ⟨h2.1, ?_⟩, ⟨h3.os, h3.tape, h3.output, h3.size, fun k hk _ => h3.block k hk (by simp)⟩, by simp [hne], ?_⟩
      · rcases h2.2 with h4 | ⟨g', c', cur', h4, h5, h6⟩
        · exact .inl h4
        · exact .inr ⟨g', c', cur', h4, Nat.le_trans hbase h5, h6⟩
      · rcases hblk with h | h
        · exact .inr h
        · exact .inl h
theorem wpList_append_own2_at {ops : Array Oper} {rest : List Oper} {o : Oper} {a : Act} {Q : Exit → Act → World → Prop} (hgd : o.guard = none) (s x : Operand) (t : TypeId)
    (ho : o.op = .call { callee := .builtin .append, args := #[s, x], argTypes := #[t, t] })
    (base : Nat) (e : TypeId) (i : TypeInfo) (z : Value) (size bytes : Nat) (ht : P.underlying t = some (.slice e)) (hi : P.info? e = some i) (hz : i.zero = some z)
    (hsize : i.size = size) (hby : i.bytes = bytes) (hzs : z.cells.size = size) (hsz : 0 < size)
    (v : Value) (n : Nat) (xs : List Value) (hs : a.eval s = v) (hown : ownsRow2 w base e size v n xs)
    (ad : Addr) (m c : Nat) (news : List Value) (hx : a.eval x = .slice (some ad) m c) (hl : news.length = m * size) (hnews : ∀ j u, news[j]? = some u → w.cell? (ad.add j) = some u) (h1 : ∀ u ∈ news, u.oneCell' = true)
    (h63 : n + m ≤ maxLen) (hbytes : (n + m) * bytes ≤ 140737488355328) (hbase : base ≤ w.heap.size)
    (h : ∀ v' w', ownsRow2 w' base e size v' (n + m) (xs ++ news) → w.grownBy w' v.ownBlock → (v' = .slice none 0 0 ↔ v = .slice none 0 0 ∧ m = 0) → (v'.ownBlock = v.ownBlock ∨ v'.ownBlock = some w.heap.size) → wpList P ops Q rest (a.put o.dst v') w') :
    wpList P ops Q (o :: rest) a w := by
  refine wpList_plain hgd fun K hK => ?_
  obtain ⟨v', w', hr, h2, h3, h4, h5⟩ := run_append_own2_at (P := P) w base t o.type e i z size bytes ht hi hz hsize hby hzs hsz v n xs hown ad m c news hl hnews h1 h63 hbytes hbase
  unfold Oper.wp execOp
  simp only [ho, resolve, invoke, builtin, Sem.run_bind, Sem.run_pure, Result.andThen_ok, List.map_toArray, List.map_cons, List.map_nil, hs, hx, hr]
  exact hK _ _ (h v' w' h2 h3 h4 h5)
end
end Go.Proofs.YtpnffhacmamilaaW.PrintWords
