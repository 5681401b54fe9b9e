/- A part of the proof (15). -/
import Derived.OpenShut
import Derived.LaidLaws
import Derived.LaidHandle
import Derived.MakeChecks
import Derived.WideShapes
import Derived.ChangeArms
namespace Go.Proofs.YtoefabmlkbhmpaaDoorW.PrintWords
open Go
theorem trod_pairs {H : Type} {enc : TypeId × Value → H} {P : Program} {w : World} {base : Nat} {spare : Nat → Bool} {held : Bool} {fuel : Nat} {ty e1 e2 : TypeId} {n : Nat} {cs : List Value} {L : List (List Bool)} {p : List MemPlace}
  (hu : P.underlying ty = some (.array n e1)) (he : P.underlying e1 = some (.array 2 e2)) (hb : P.underlying e2 = some .bool) (hc1 : P.cellsOf e1 = 2) (hc2 : P.cellsOf e2 = 1)
  (h : DataW.trod enc P w base spare held fuel ty cs = some (.agg (L.map fun r => .agg (r.map fun b => .lit (.bool b))), p)) : ∀ i, i < n → ∀ j, j < 2 → cs[2 * i + j]? = some (.bool ((L.getD i []).getD j false)) := by
 obtain ⟨xs, m, rfl, hx, hlen, hn, hel⟩ := DataW.trod_array hu h
 intro i hi j hj
 have h1 := hel i hi
 rw [hc1] at h1
 have hxi : i < xs.length := by omega
 rw [List.getElem?_eq_getElem hxi] at h1
 obtain ⟨ys, m2, rfl, hy, hlen2, hn2, hel2⟩ := DataW.trod_array he h1
 have h2 := hel2 j hj
 rw [hc2, Nat.mul_one] at h2
 have hyj : j < ys.length := by omega
 rw [List.getElem?_eq_getElem hyj] at h2
 obtain ⟨b, e1_, e2_⟩ := DataW.trod_bool hb h2
 simp only [Prod.mk.injEq, DataW.agg.injEq] at hx
 have h3 : (L.map fun r => (DataW.agg (r.map fun b => .lit (.bool b)) : DataW H))[i]? = (xs.map (·.1))[i]? := by rw [hx.1]
 rw [List.getElem?_map, List.getElem?_map, List.getElem?_eq_getElem hxi] at h3
 simp only [Option.map_some] at h3
 cases hL : L[i]? with
 | none => rw [hL] at h3; simp at h3
 | some r =>
  rw [hL] at h3
  simp only [Option.map_some, Option.some.injEq] at h3
  rw [hy] at h3
  simp only [DataW.agg.injEq] at h3
  have h4 : (r.map fun b => (DataW.lit (.bool b) : DataW H))[j]? = (ys.map (·.1))[j]? := by rw [h3]
  rw [List.getElem?_map, List.getElem?_map, List.getElem?_eq_getElem hyj, Option.map_some, e2_] at h4
  have h5 : r[j]? = some b := by
   cases hr : r[j]? with
   | none => rw [hr] at h4; simp at h4
   | some y => rw [hr] at h4; simp at h4; rw [h4]
  have h6 : ((((cs.drop (i * 2)).take 2).drop j).take 1)[0]? = some (.bool b) := by rw [e1_]; rfl
  rw [List.getElem?_take, if_pos (by decide), List.getElem?_drop, Nat.add_zero, List.getElem?_take, if_pos hj, List.getElem?_drop] at h6
  rw [Nat.mul_comm, h6, List.getD_eq_getElem?_getD, List.getD_eq_getElem?_getD, hL, Option.getD_some, h5]
  rfl
theorem open_three {H : Type} {enc : TypeId × Value → H} {P : Program} {w : World} {base b0 : Nat} {spare : Nat → Bool} {held : Bool} {r : Reach} {t : TypeId} {f0 f1 f2 : Field} {v : Value} {d : DataW H} {p : List MemPlace} (hs : P.underlying t = some (.struct #[f0, f1, f2]))
  (hC : P.cellsOf t = 3) (o0 : f0.offset = 0) (o1 : f1.offset = 1) (o2 : f2.offset = 2) (k0 : P.cellsOf f0.type = 1) (k1 : P.cellsOf f1.type = 1) (k2 : P.cellsOf f2.type = 1)
  (hv : Value.okWide P w r b0 t v) (h : DataW.Trod enc P w base spare held t v d p) :
  ∃ (v0 v1 v2 : Value) (y0 y1 y2 : DataW H × List MemPlace) (n : Nat), v = .agg #[v0, v1, v2] ∧ d = .agg [y0.1, y1.1, y2.1] ∧
   DataW.trod enc P w base spare held n f0.type [v0] = some y0 ∧ DataW.trod enc P w base spare held n f1.type [v1] = some y1 ∧ DataW.trod enc P w base spare held n f2.type [v2] = some y2 := by
 obtain ⟨cs, rfl, hsz⟩ := WideShapes.okWide_struct hs hv
 rw [hC] at hsz
 obtain ⟨l⟩ := cs
 match l, hsz with
 | [c0, c1, c2], _ =>
  obtain ⟨fuel, hf⟩ := h
  obtain ⟨xs, n, _, hx, hl, hlen, hg⟩ := DataW.trod_struct hs hf
  match xs, hlen with
  | [y0, y1, y2], _ =>
   have g0 := hg 0 f0 rfl
   have g1 := hg 1 f1 rfl
   have g2 := hg 2 f2 rfl
   rw [o0, k0] at g0
   rw [o1, k1] at g1
   rw [o2, k2] at g2
   simp only [Prod.mk.injEq, List.map_cons, List.map_nil] at hx
   exact ⟨c0, c1, c2, y0, y1, y2, n, rfl, hx.1, by simpa [Value.cells] using g0, by simpa [Value.cells] using g1, by simpa [Value.cells] using g2⟩
end Go.Proofs.YtoefabmlkbhmpaaDoorW.PrintWords
