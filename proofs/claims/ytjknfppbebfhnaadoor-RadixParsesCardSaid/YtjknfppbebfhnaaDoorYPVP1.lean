/- A part of the proof (1). -/
import Derived.Test.YtjknfppbebfhnaaDoorChecked
import Derived.WalkKit
import Derived.LaidEql
import Derived.Stop.Asserts
import Derived.RowKitTokens
import Derived.Below
import Derived.Deep.AppendLies
import Derived.Maps.AppendAt
import Derived.OwnWalk
import Derived.Laws.OwnMore
import Derived.Lib.AppendStr
import Derived.ArgAppend
import Derived.Tactics
import Derived.RowKit
import Derived.Deep.Draws
import Derived.Laws.BytesArg
import Derived.Laws.MakeOwn
import Derived.Deep.OwnRows
import Derived.Lib.ConvBytes
import Derived.Laws.Slices
import Derived.KernelRfl
import Derived.RowKit3
import Derived.Deep.LoopGhost
import Derived.Deep.QuietTactic
import Derived.BigQuiet
import Derived.WideLaws
import Derived.Deep.DeepCutAuto
import Derived.Deep.CutBlock
import Derived.Deep.RegionHeld3
import Derived.Laws.Rows
import Derived.Laws.IdiomCopy
import Derived.Scope
namespace Go.Proofs.YtjknfppbebfhnaaDoor.PA
open Go Go.RowKit Go.Extern.Stop Go.Stop Go.Extern
set_option linter.unusedVariables false
set_option linter.unusedSimpArgs false
theorem errAs.methodKind (h : Value) (w : World) : (Go.method 234 91 (.agg #[h]) "Kind").run Tryd.prog w = .ok (64, h) w := by kernel_rfl
theorem errAs.methodElem (h : Value) (w : World) : (Go.method 234 91 (.agg #[h]) "Elem").run Tryd.prog w = .ok (76, .agg #[h]) w := by kernel_rfl
theorem errAs.methodImplements (h : Value) (w : World) : (Go.method 234 91 (.agg #[h]) "Implements").run Tryd.prog w = .ok (77, .agg #[h]) w := by kernel_rfl
theorem errAs.methodAssignableTo (h : Value) (w : World) : (Go.method 234 91 (.agg #[h]) "AssignableTo").run Tryd.prog w = .ok (74, .agg #[h]) w := by kernel_rfl
theorem errAs.rlm (z : Sem Value) (f : TypeId → Addr → Nat → Nat → Sem Value) (v : Value) :
    ReflectliteValue.method z f #[v] = (do match ← ReflectliteValue.parts v with | none => z | some (t, a, fl) => f t a fl (fl % 32)) := rfl
theorem errAs.rls (v x : Value) : ReflectliteValue.set #[v, x] = (do
    let (some (dst, a, fl), some (src, b, _)) := (← ReflectliteValue.parts v, ← ReflectliteValue.parts x)
      | unsupported (.noEntry "extern/(internal/reflectlite.Value).Set.zeroValue")
    if fl / ReflectliteValue.flagAddr % 2 == 0 then unsupported (.noEntry "extern/(internal/reflectlite.Value).Set.unaddressable")
    let val ← loadVar src b
    if ← Rtype.directlyAssignable dst src then storeVar dst a val
    else if ← Rtype.implements dst src then
      if (← Rtype.kind src) == 20 then
        match val with
        | .nilIface => unsupported (.noEntry "extern/reflectlite: a nil value of one interface type handed on as a value of another")
        | _ => storeVar dst a val
      else storeVar dst a (.iface src val)
    else panicString ("reflectlite.Set: value of type " ++ (← Rtype.spelt src) ++ " is not assignable to type " ++ (← Rtype.spelt dst))
    pure (.tuple #[])) := rfl
theorem errAs.assignable52_35 (w : World) : (ReflectliteType.relation "AssignableTo" ReflectliteType.assignableTo #[.agg #[.pointer (some ⟨1, 52, none⟩)], .iface 91 (.agg #[.pointer (some ⟨1, 35, none⟩)])]).run Tryd.prog w = .ok (.bool false) w := by kernel_rfl
theorem errAs.noAs52 (v : Value) (xT : TypeId) (w : World) : (Instr.typeAssert (.iface 52 v) xT 96 true).run Tryd.prog w = .ok (.tuple #[.nilIface, .bool false]) w := run_typeAssert_lacksB Tryd.underlying96 (by kernel_rfl) (by kernel_rfl) v xT w
theorem errAs.hasUnwrap52 (v : Value) (xT : TypeId) (w : World) : (Instr.typeAssert (.iface 52 v) xT 99 true).run Tryd.prog w = .ok (.tuple #[.iface 52 v, .bool true]) w := run_typeAssert_hasB Tryd.underlying99 (by kernel_rfl) v xT w
theorem errAs.methodUnwrap (v : Value) (w : World) : (Go.method 234 52 v "Unwrap").run Tryd.prog w = .ok (69, v) w := by kernel_rfl
theorem errAs.valueOf67 (t : Addr) (w : World) : (ReflectliteValue.unpack (.iface 67 (.pointer (some t)))).run Tryd.prog w
    = .ok (.agg #[.pointer (some ⟨1, 67, none⟩), .pointer (some ⟨w.heap.size, 0, none⟩), .int .u64 150]) (w.alloc (.cells #[.pointer (some t)] 67)) := by kernel_rfl
theorem errAs.type67 (a : Addr) (w : World) : (ReflectliteValue.methodAny (ReflectliteValue.valueError "reflectlite.Value.Type" 0) (fun t _ _ _ => ReflectliteType.toType t) #[.agg #[.pointer (some ⟨1, 67, none⟩), .pointer (some a), .int .u64 150]]).run Tryd.prog w
    = .ok (.iface 91 (.agg #[.pointer (some ⟨1, 67, none⟩)])) w := by kernel_rfl
theorem errAs.kind67 (w : World) : ((ReflectliteType.abiMethod fun t => (fun a : Nat => Value.int IntKind.u8 (a : Int)) <$> Rtype.kind t) #[.pointer (some ⟨1, 67, none⟩)]).run Tryd.prog w = .ok (.int .u8 22) w := by kernel_rfl
theorem errAs.kind35 (w : World) : ((ReflectliteType.abiMethod fun t => (fun a : Nat => Value.int IntKind.u8 (a : Int)) <$> Rtype.kind t) #[.pointer (some ⟨1, 35, none⟩)]).run Tryd.prog w = .ok (.int .u8 2) w := by kernel_rfl
theorem errAs.parts67 (a : Addr) (w : World) : (ReflectliteValue.parts (.agg #[.pointer (some ⟨1, 67, none⟩), .pointer (some a), .int .u64 150])).run Tryd.prog w = .ok (some (67, a, 150)) w := by kernel_rfl
theorem errAs.isNil67 (a p : Addr) (W : World) (ha : W.cell? a = some (.pointer (some p))) :
  (ReflectliteValue.method (ReflectliteValue.valueError "reflectlite.Value.IsNil" 0) ReflectliteValue.isNil #[.agg #[.pointer (some ⟨1, 67, none⟩), .pointer (some a), .int .u64 150]]).run Tryd.prog W = .ok (.bool false) W := by
 rw [errAs.rlm]
 simp only [Sem.run_bind, errAs.parts67, Result.andThen]
 simp [ReflectliteValue.isNil, loadVar, isAgg, underlying, Tryd.underlying67, ha, Result.andThen]
theorem errAs.elem67 (w : World) : (ReflectliteType.method ReflectliteType.elem #[.agg #[.pointer (some ⟨1, 67, none⟩)]]).run Tryd.prog w = .ok (.iface 91 (.agg #[.pointer (some ⟨1, 35, none⟩)])) w := by kernel_rfl
theorem errAs.implements35 (w : World) : (ReflectliteType.relation "Implements" ReflectliteType.implements_ #[.agg #[.pointer (some ⟨1, 35, none⟩)], .iface 91 (.agg #[.pointer (some ⟨1, 24, none⟩)])]).run Tryd.prog w = .ok (.bool true) w := by kernel_rfl
theorem errAs.typeOf35 (v : Value) (w : World) : (ReflectliteType.typeOf #[.iface 35 v]).run Tryd.prog w = .ok (.iface 91 (.agg #[.pointer (some ⟨1, 35, none⟩)])) w := by kernel_rfl
theorem errAs.assignable35 (w : World) : (ReflectliteType.relation "AssignableTo" ReflectliteType.assignableTo #[.agg #[.pointer (some ⟨1, 35, none⟩)], .iface 91 (.agg #[.pointer (some ⟨1, 35, none⟩)])]).run Tryd.prog w = .ok (.bool true) w := by kernel_rfl
theorem errAs.elemOf67 (w : World) : (Rtype.elem? 67).run Tryd.prog w = .ok (some 35) w := by kernel_rfl
theorem errAs.mk35 (p : Addr) (w : World) : (ReflectliteValue.mk 35 p ReflectliteValue.flagAddr).run Tryd.prog w = .ok (.agg #[.pointer (some ⟨1, 35, none⟩), .pointer (some p), .int .u64 386]) w := by kernel_rfl
theorem errAs.elemV67 (a p : Addr) (W : World) (ha : W.cell? a = some (.pointer (some p))) :
  (ReflectliteValue.method (ReflectliteValue.valueError "reflectlite.Value.Elem" 0) ReflectliteValue.elem #[.agg #[.pointer (some ⟨1, 67, none⟩), .pointer (some a), .int .u64 150]]).run Tryd.prog W
   = .ok (.agg #[.pointer (some ⟨1, 35, none⟩), .pointer (some p), .int .u64 386]) W := by
 rw [errAs.rlm]
 simp only [Sem.run_bind, errAs.parts67, Result.andThen]
 simp [ReflectliteValue.elem, loadVar, isAgg, underlying, Tryd.underlying67, ha, Result.andThen, errAs.elemOf67, errAs.mk35]
theorem errAs.parts35a (a : Addr) (w : World) : (ReflectliteValue.parts (.agg #[.pointer (some ⟨1, 35, none⟩), .pointer (some a), .int .u64 386])).run Tryd.prog w = .ok (some (35, a, 386)) w := by kernel_rfl
theorem errAs.parts35 (a : Addr) (w : World) : (ReflectliteValue.parts (.agg #[.pointer (some ⟨1, 35, none⟩), .pointer (some a), .int .u64 130])).run Tryd.prog w = .ok (some (35, a, 130)) w := by kernel_rfl
theorem errAs.direct35 (w : World) : (Rtype.directlyAssignable 35 35).run Tryd.prog w = .ok true w := by kernel_rfl
theorem errAs.valueOf35 (c : Int) (w : World) : (ReflectliteValue.unpack (.iface 35 (.int .i64 c))).run Tryd.prog w
    = .ok (.agg #[.pointer (some ⟨1, 35, none⟩), .pointer (some ⟨w.heap.size, 0, none⟩), .int .u64 130]) (w.alloc (.cells #[.int .i64 c] 35)) := by kernel_rfl
theorem errAs.set35 (ta b : Addr) (c : Int) (old : Value) (W : World) (hb : W.cell? b = some (.int .i64 c)) (ht : W.cell? ta = some old) (hf : W.frozen? ta = false) :
  (ReflectliteValue.set #[.agg #[.pointer (some ⟨1, 35, none⟩), .pointer (some ta), .int .u64 386], .agg #[.pointer (some ⟨1, 35, none⟩), .pointer (some b), .int .u64 130]]).run Tryd.prog W
   = .ok (.tuple #[]) (W.setCell ta (.int .i64 c)) := by
 rw [errAs.rls]
 simp only [Sem.run_bind, errAs.parts35a, errAs.parts35, Result.andThen]
 simp [ReflectliteValue.flagAddr, loadVar, isAgg, underlying, Tryd.underlying35, hb, Result.andThen, errAs.direct35, storeVar, Value.cells, storeCells, Addr.add]
 rw [run_store Tryd.prog W ta _ _ (by rfl)]
 simp [ht, hf]
theorem errAs.valueOf68 (t : Addr) (w : World) : (ReflectliteValue.unpack (.iface 68 (.pointer (some t)))).run Tryd.prog w
    = .ok (.agg #[.pointer (some ⟨1, 68, none⟩), .pointer (some ⟨w.heap.size, 0, none⟩), .int .u64 150]) (w.alloc (.cells #[.pointer (some t)] 68)) := by kernel_rfl
theorem errAs.type68 (a : Addr) (w : World) : (ReflectliteValue.methodAny (ReflectliteValue.valueError "reflectlite.Value.Type" 0) (fun t _ _ _ => ReflectliteType.toType t) #[.agg #[.pointer (some ⟨1, 68, none⟩), .pointer (some a), .int .u64 150]]).run Tryd.prog w
    = .ok (.iface 91 (.agg #[.pointer (some ⟨1, 68, none⟩)])) w := by kernel_rfl
theorem errAs.kind68 (w : World) : ((ReflectliteType.abiMethod fun t => (fun a : Nat => Value.int IntKind.u8 (a : Int)) <$> Rtype.kind t) #[.pointer (some ⟨1, 68, none⟩)]).run Tryd.prog w = .ok (.int .u8 22) w := by kernel_rfl
theorem errAs.kind52 (w : World) : ((ReflectliteType.abiMethod fun t => (fun a : Nat => Value.int IntKind.u8 (a : Int)) <$> Rtype.kind t) #[.pointer (some ⟨1, 52, none⟩)]).run Tryd.prog w = .ok (.int .u8 22) w := by kernel_rfl
theorem errAs.parts68 (a : Addr) (w : World) : (ReflectliteValue.parts (.agg #[.pointer (some ⟨1, 68, none⟩), .pointer (some a), .int .u64 150])).run Tryd.prog w = .ok (some (68, a, 150)) w := by kernel_rfl
theorem errAs.isNil68 (a p : Addr) (W : World) (ha : W.cell? a = some (.pointer (some p))) :
  (ReflectliteValue.method (ReflectliteValue.valueError "reflectlite.Value.IsNil" 0) ReflectliteValue.isNil #[.agg #[.pointer (some ⟨1, 68, none⟩), .pointer (some a), .int .u64 150]]).run Tryd.prog W = .ok (.bool false) W := by
 rw [errAs.rlm]
 simp only [Sem.run_bind, errAs.parts68, Result.andThen]
 simp [ReflectliteValue.isNil, loadVar, isAgg, underlying, Tryd.underlying68, ha, Result.andThen]
theorem errAs.elem68 (w : World) : (ReflectliteType.method ReflectliteType.elem #[.agg #[.pointer (some ⟨1, 68, none⟩)]]).run Tryd.prog w = .ok (.iface 91 (.agg #[.pointer (some ⟨1, 52, none⟩)])) w := by kernel_rfl
theorem errAs.implements52 (w : World) : (ReflectliteType.relation "Implements" ReflectliteType.implements_ #[.agg #[.pointer (some ⟨1, 52, none⟩)], .iface 91 (.agg #[.pointer (some ⟨1, 24, none⟩)])]).run Tryd.prog w = .ok (.bool true) w := by kernel_rfl
theorem errAs.typeOf52 (v : Value) (w : World) : (ReflectliteType.typeOf #[.iface 52 v]).run Tryd.prog w = .ok (.iface 91 (.agg #[.pointer (some ⟨1, 52, none⟩)])) w := by kernel_rfl
theorem errAs.assignable52 (w : World) : (ReflectliteType.relation "AssignableTo" ReflectliteType.assignableTo #[.agg #[.pointer (some ⟨1, 52, none⟩)], .iface 91 (.agg #[.pointer (some ⟨1, 52, none⟩)])]).run Tryd.prog w = .ok (.bool true) w := by kernel_rfl
theorem errAs.elemOf68 (w : World) : (Rtype.elem? 68).run Tryd.prog w = .ok (some 52) w := by kernel_rfl
theorem errAs.mk52 (p : Addr) (w : World) : (ReflectliteValue.mk 52 p ReflectliteValue.flagAddr).run Tryd.prog w = .ok (.agg #[.pointer (some ⟨1, 52, none⟩), .pointer (some p), .int .u64 406]) w := by kernel_rfl
theorem errAs.elemV68 (a p : Addr) (W : World) (ha : W.cell? a = some (.pointer (some p))) :
  (ReflectliteValue.method (ReflectliteValue.valueError "reflectlite.Value.Elem" 0) ReflectliteValue.elem #[.agg #[.pointer (some ⟨1, 68, none⟩), .pointer (some a), .int .u64 150]]).run Tryd.prog W
   = .ok (.agg #[.pointer (some ⟨1, 52, none⟩), .pointer (some p), .int .u64 406]) W := by
 rw [errAs.rlm]
 simp only [Sem.run_bind, errAs.parts68, Result.andThen]
 simp [ReflectliteValue.elem, loadVar, isAgg, underlying, Tryd.underlying68, ha, Result.andThen, errAs.elemOf68, errAs.mk52]
theorem errAs.parts52a (a : Addr) (w : World) : (ReflectliteValue.parts (.agg #[.pointer (some ⟨1, 52, none⟩), .pointer (some a), .int .u64 406])).run Tryd.prog w = .ok (some (52, a, 406)) w := by kernel_rfl
theorem errAs.parts52 (a : Addr) (w : World) : (ReflectliteValue.parts (.agg #[.pointer (some ⟨1, 52, none⟩), .pointer (some a), .int .u64 150])).run Tryd.prog w = .ok (some (52, a, 150)) w := by kernel_rfl
theorem errAs.direct52 (w : World) : (Rtype.directlyAssignable 52 52).run Tryd.prog w = .ok true w := by kernel_rfl
theorem errAs.valueOf52 (e : Addr) (w : World) : (ReflectliteValue.unpack (.iface 52 (.pointer (some e)))).run Tryd.prog w
    = .ok (.agg #[.pointer (some ⟨1, 52, none⟩), .pointer (some ⟨w.heap.size, 0, none⟩), .int .u64 150]) (w.alloc (.cells #[.pointer (some e)] 52)) := by kernel_rfl
theorem errAs.set52 (ta b : Addr) (e : Addr) (old : Value) (W : World) (hb : W.cell? b = some (.pointer (some e))) (ht : W.cell? ta = some old) (hf : W.frozen? ta = false) :
  (ReflectliteValue.set #[.agg #[.pointer (some ⟨1, 52, none⟩), .pointer (some ta), .int .u64 406], .agg #[.pointer (some ⟨1, 52, none⟩), .pointer (some b), .int .u64 150]]).run Tryd.prog W
   = .ok (.tuple #[]) (W.setCell ta (.pointer (some e))) := by
 rw [errAs.rls]
 simp only [Sem.run_bind, errAs.parts52a, errAs.parts52, Result.andThen]
 simp [ReflectliteValue.flagAddr, loadVar, isAgg, underlying, Tryd.underlying52, hb, Result.andThen, errAs.direct52, storeVar, Value.cells, storeCells, Addr.add]
 rw [run_store Tryd.prog W ta _ _ (by rfl)]
 simp [ht, hf]
theorem errAs.as_nil (t : Value) (w : World) :
  Calls Tryd.prog 36 #[.nilIface, t] w fun e w' => e = .returned (.bool false) ∧ w' = w := by
 go_enter Tryd.func36, Tryd.ntmps36
 go_wp2
 go_ret
 exact ⟨rfl, rfl⟩
set_option maxHeartbeats 4000000 in
theorem errAs.as_fault (e : Addr) (t : Addr) (old : Value) (w : World) (hg : w.cell? ⟨0, 0, none⟩ = some (.iface 91 (.agg #[.pointer (some ⟨1, 24, none⟩)]))) (ht0 : w.cell? t = some old) (hf0 : w.frozen? t = false) :
  Calls Tryd.prog 36 #[.iface 52 (.pointer (some e)), .iface 68 (.pointer (some t))] w fun ev w' => ev = .returned (.bool true) ∧ w' = ((((w.alloc (.cells #[.pointer (some t)] 68)).alloc (.cells #[.pointer (some ⟨1, 68, none⟩), .pointer (some ⟨w.heap.size, 0, none⟩), .int .u64 150] 78)).alloc (.cells #[.pointer (some ⟨1, 68, none⟩), .pointer (some ⟨w.heap.size, 0, none⟩), .int .u64 150] 78)).alloc (.cells #[.pointer (some e)] 52)).setCell t (.pointer (some e)) := by
 have hx41 := @run_callFunc_extern Tryd.prog 41 _ (fun args => ReflectliteValue.unpack (args.getD 0 (.tuple #[]))) Tryd.func41 (by kernel_rfl) (by kernel_rfl) (by kernel_rfl) (by kernel_rfl)
 have hx42 := @run_callFunc_extern Tryd.prog 42 _ (ReflectliteValue.methodAny (ReflectliteValue.valueError "reflectlite.Value.Type" 0) (fun t _ _ _ => ReflectliteType.toType t)) Tryd.func42 (by kernel_rfl) (by kernel_rfl) (by kernel_rfl) (by kernel_rfl)
 have hx43 := @run_callFunc_extern Tryd.prog 43 _ (ReflectliteValue.method (ReflectliteValue.valueError "reflectlite.Value.IsNil" 0) ReflectliteValue.isNil) Tryd.func43 (by kernel_rfl) (by kernel_rfl) (by kernel_rfl) (by kernel_rfl)
 have hx64 := @run_callFunc_extern Tryd.prog 64 _ (ReflectliteType.abiMethod fun t => do pure (.int .u8 (← Rtype.kind t))) Tryd.func64 (by kernel_rfl) (by kernel_rfl) (by kernel_rfl) (by kernel_rfl)
 have hx76 := @run_callFunc_extern Tryd.prog 76 _ (ReflectliteType.method ReflectliteType.elem) Tryd.func76 (by kernel_rfl) (by kernel_rfl) (by kernel_rfl) (by kernel_rfl)
 have hx77 := @run_callFunc_extern Tryd.prog 77 _ (ReflectliteType.relation "Implements" ReflectliteType.implements_) Tryd.func77 (by kernel_rfl) (by kernel_rfl) (by kernel_rfl) (by kernel_rfl)
 have hx47 := @run_callFunc_extern Tryd.prog 47 _ ReflectliteType.typeOf Tryd.func47 (by kernel_rfl) (by kernel_rfl) (by kernel_rfl) (by kernel_rfl)
 have hx74 := @run_callFunc_extern Tryd.prog 74 _ (ReflectliteType.relation "AssignableTo" ReflectliteType.assignableTo) Tryd.func74 (by kernel_rfl) (by kernel_rfl) (by kernel_rfl) (by kernel_rfl)
 have hx48 := @run_callFunc_extern Tryd.prog 48 _ (ReflectliteValue.method (ReflectliteValue.valueError "reflectlite.Value.Elem" 0) ReflectliteValue.elem) Tryd.func48 (by kernel_rfl) (by kernel_rfl) (by kernel_rfl) (by kernel_rfl)
 have hx49 := @run_callFunc_extern Tryd.prog 49 _ ReflectliteValue.set Tryd.func49 (by kernel_rfl) (by kernel_rfl) (by kernel_rfl) (by kernel_rfl)
 have tO := errAs.typeOf52
 have mA := errAs.methodAssignableTo
 have aT := errAs.assignable52
 have vT := errAs.valueOf52
 have f6 := errAs.valueOf68
 have f7 := errAs.type68
 have mK := errAs.methodKind
 have mE := errAs.methodElem
 have mI := errAs.methodImplements
 have kP := errAs.kind68
 have kT := errAs.kind52
 have eP := errAs.elem68
 have iT := errAs.implements52
 have n8 := errAs.isNil68 ⟨w.heap.size, 0, none⟩ t ((w.alloc (.cells #[.pointer (some t)] 68)).alloc (.cells #[.pointer (some ⟨1, 68, none⟩), .pointer (some ⟨w.heap.size, 0, none⟩), .int .u64 150] 78)) (by simp)
 have hlt : 0 < w.heap.size := by
  rcases Nat.eq_zero_or_pos w.heap.size with h0 | h
  ·simp [World.cell?, h0] at hg
  ·exact h
 have hg2 : ((w.alloc (.cells #[.pointer (some t)] 68)).alloc (.cells #[.pointer (some ⟨1, 68, none⟩), .pointer (some ⟨w.heap.size, 0, none⟩), .int .u64 150] 78)).cell? ⟨0, 0, none⟩ = some (.iface 91 (.agg #[.pointer (some ⟨1, 24, none⟩)])) := by
  rw [World.cell?_alloc_lt _ _ ⟨0, 0, none⟩ (by simp), World.cell?_alloc_lt _ _ ⟨0, 0, none⟩ hlt]; exact hg
 have htl : t.block < w.heap.size := by
  rcases Nat.lt_or_ge t.block w.heap.size with h | h
  ·exact h
  ·simp [World.cell?, Array.getElem?_eq_none h] at ht0
 have el := errAs.elemV68 ⟨w.heap.size, 0, none⟩ t (((w.alloc (.cells #[.pointer (some t)] 68)).alloc (.cells #[.pointer (some ⟨1, 68, none⟩), .pointer (some ⟨w.heap.size, 0, none⟩), .int .u64 150] 78)).alloc (.cells #[.pointer (some ⟨1, 68, none⟩), .pointer (some ⟨w.heap.size, 0, none⟩), .int .u64 150] 78)) (by rw [World.cell?_alloc_lt _ _ ⟨w.heap.size, 0, none⟩ (by simp; omega)]; simp)
 have st := errAs.set52 t ⟨w.heap.size + 1 + 1 + 1, 0, none⟩ e old ((((w.alloc (.cells #[.pointer (some t)] 68)).alloc (.cells #[.pointer (some ⟨1, 68, none⟩), .pointer (some ⟨w.heap.size, 0, none⟩), .int .u64 150] 78)).alloc (.cells #[.pointer (some ⟨1, 68, none⟩), .pointer (some ⟨w.heap.size, 0, none⟩), .int .u64 150] 78)).alloc (.cells #[.pointer (some e)] 52))
  (by rw [World.cell?_alloc_at _ _ _ _ (by simp)]; rfl)
  (by rw [World.cell?_alloc_lt _ _ t (by simp; omega), World.cell?_alloc_lt _ _ t (by simp; omega), World.cell?_alloc_lt _ _ t (by simp; omega), World.cell?_alloc_lt _ _ t htl]; exact ht0)
  (by rw [World.frozen?_alloc_old _ _ t (by simp; omega), World.frozen?_alloc_old _ _ t (by simp; omega), World.frozen?_alloc_old _ _ t (by simp; omega), World.frozen?_alloc_old _ _ t (Nat.ne_of_lt htl)]; exact hf0)
 go_enter Tryd.func36, Tryd.ntmps36
 go_wp2
 refine wp_loop_rounds 1 ?_
 rw [rounds_succ]
 go_wp2
 go_ret
 exact ⟨rfl, rfl⟩
set_option maxHeartbeats 4000000 in
theorem errAs.as_code (g : Nat) (c : Int) (t : Addr) (old : Value) (w : World) (hg : w.cell? ⟨0, 0, none⟩ = some (.iface 91 (.agg #[.pointer (some ⟨1, 24, none⟩)]))) (ht0 : w.cell? t = some old) (hf0 : w.frozen? t = false) (hE : w.cell? ⟨g, 1, none⟩ = some (.iface 35 (.int .i64 c))) :
  Calls Tryd.prog 36 #[.iface 52 (.pointer (some ⟨g, 0, none⟩)), .iface 67 (.pointer (some t))] w fun ev w' => ev = .returned (.bool true) ∧ w' = ((((w.alloc (.cells #[.pointer (some t)] 67)).alloc (.cells #[.pointer (some ⟨1, 67, none⟩), .pointer (some ⟨w.heap.size, 0, none⟩), .int .u64 150] 78)).alloc (.cells #[.pointer (some ⟨1, 67, none⟩), .pointer (some ⟨w.heap.size, 0, none⟩), .int .u64 150] 78)).alloc (.cells #[.int .i64 c] 35)).setCell t (.int .i64 c) := by
 have hx41 := @run_callFunc_extern Tryd.prog 41 _ (fun args => ReflectliteValue.unpack (args.getD 0 (.tuple #[]))) Tryd.func41 (by kernel_rfl) (by kernel_rfl) (by kernel_rfl) (by kernel_rfl)
 have hx42 := @run_callFunc_extern Tryd.prog 42 _ (ReflectliteValue.methodAny (ReflectliteValue.valueError "reflectlite.Value.Type" 0) (fun t _ _ _ => ReflectliteType.toType t)) Tryd.func42 (by kernel_rfl) (by kernel_rfl) (by kernel_rfl) (by kernel_rfl)
 have hx43 := @run_callFunc_extern Tryd.prog 43 _ (ReflectliteValue.method (ReflectliteValue.valueError "reflectlite.Value.IsNil" 0) ReflectliteValue.isNil) Tryd.func43 (by kernel_rfl) (by kernel_rfl) (by kernel_rfl) (by kernel_rfl)
 have hx64 := @run_callFunc_extern Tryd.prog 64 _ (ReflectliteType.abiMethod fun t => do pure (.int .u8 (← Rtype.kind t))) Tryd.func64 (by kernel_rfl) (by kernel_rfl) (by kernel_rfl) (by kernel_rfl)
 have hx76 := @run_callFunc_extern Tryd.prog 76 _ (ReflectliteType.method ReflectliteType.elem) Tryd.func76 (by kernel_rfl) (by kernel_rfl) (by kernel_rfl) (by kernel_rfl)
 have hx77 := @run_callFunc_extern Tryd.prog 77 _ (ReflectliteType.relation "Implements" ReflectliteType.implements_) Tryd.func77 (by kernel_rfl) (by kernel_rfl) (by kernel_rfl) (by kernel_rfl)
 have hx47 := @run_callFunc_extern Tryd.prog 47 _ ReflectliteType.typeOf Tryd.func47 (by kernel_rfl) (by kernel_rfl) (by kernel_rfl) (by kernel_rfl)
 have hx74 := @run_callFunc_extern Tryd.prog 74 _ (ReflectliteType.relation "AssignableTo" ReflectliteType.assignableTo) Tryd.func74 (by kernel_rfl) (by kernel_rfl) (by kernel_rfl) (by kernel_rfl)
 have hx48 := @run_callFunc_extern Tryd.prog 48 _ (ReflectliteValue.method (ReflectliteValue.valueError "reflectlite.Value.Elem" 0) ReflectliteValue.elem) Tryd.func48 (by kernel_rfl) (by kernel_rfl) (by kernel_rfl) (by kernel_rfl)
 have hx49 := @run_callFunc_extern Tryd.prog 49 _ ReflectliteValue.set Tryd.func49 (by kernel_rfl) (by kernel_rfl) (by kernel_rfl) (by kernel_rfl)
 have tO := errAs.typeOf35
 have mA := errAs.methodAssignableTo
 have aT := errAs.assignable35
 have vT := errAs.valueOf35
 have f6 := errAs.valueOf67
 have f7 := errAs.type67
 have mK := errAs.methodKind
 have mE := errAs.methodElem
 have mI := errAs.methodImplements
 have kP := errAs.kind67
 have kT := errAs.kind35
 have eP := errAs.elem67
 have iT := errAs.implements35
 have tO2 := errAs.typeOf52
 have aF := errAs.assignable52_35
 have nA := errAs.noAs52
 have hU := errAs.hasUnwrap52
 have mU := errAs.methodUnwrap
 have n8 := errAs.isNil67 ⟨w.heap.size, 0, none⟩ t ((w.alloc (.cells #[.pointer (some t)] 67)).alloc (.cells #[.pointer (some ⟨1, 67, none⟩), .pointer (some ⟨w.heap.size, 0, none⟩), .int .u64 150] 78)) (by simp)
 have hlt : 0 < w.heap.size := by
  rcases Nat.eq_zero_or_pos w.heap.size with h0 | h
  ·simp [World.cell?, h0] at hg
  ·exact h
 have hg2 : ((w.alloc (.cells #[.pointer (some t)] 67)).alloc (.cells #[.pointer (some ⟨1, 67, none⟩), .pointer (some ⟨w.heap.size, 0, none⟩), .int .u64 150] 78)).cell? ⟨0, 0, none⟩ = some (.iface 91 (.agg #[.pointer (some ⟨1, 24, none⟩)])) := by
  rw [World.cell?_alloc_lt _ _ ⟨0, 0, none⟩ (by simp), World.cell?_alloc_lt _ _ ⟨0, 0, none⟩ hlt]; exact hg
 have htl : t.block < w.heap.size := by
  rcases Nat.lt_or_ge t.block w.heap.size with h | h
  ·exact h
  ·simp [World.cell?, Array.getElem?_eq_none h] at ht0
 have hgl : g < w.heap.size := by
  rcases Nat.lt_or_ge g w.heap.size with h | h
  ·exact h
  ·simp [World.cell?, Array.getElem?_eq_none h] at hE
 have hE3 : (((w.alloc (.cells #[.pointer (some t)] 67)).alloc (.cells #[.pointer (some ⟨1, 67, none⟩), .pointer (some ⟨w.heap.size, 0, none⟩), .int .u64 150] 78)).alloc (.cells #[.pointer (some ⟨1, 67, none⟩), .pointer (some ⟨w.heap.size, 0, none⟩), .int .u64 150] 78)).cell? ⟨g, 1, none⟩ = some (.iface 35 (.int .i64 c)) := by
  rw [World.cell?_alloc_lt _ _ ⟨g, 1, none⟩ (by simp; omega), World.cell?_alloc_lt _ _ ⟨g, 1, none⟩ (by simp; omega), World.cell?_alloc_lt _ _ ⟨g, 1, none⟩ hgl]; exact hE
 have el := errAs.elemV67 ⟨w.heap.size, 0, none⟩ t (((w.alloc (.cells #[.pointer (some t)] 67)).alloc (.cells #[.pointer (some ⟨1, 67, none⟩), .pointer (some ⟨w.heap.size, 0, none⟩), .int .u64 150] 78)).alloc (.cells #[.pointer (some ⟨1, 67, none⟩), .pointer (some ⟨w.heap.size, 0, none⟩), .int .u64 150] 78)) (by rw [World.cell?_alloc_lt _ _ ⟨w.heap.size, 0, none⟩ (by simp; omega)]; simp)
 have st := errAs.set35 t ⟨w.heap.size + 1 + 1 + 1, 0, none⟩ c old ((((w.alloc (.cells #[.pointer (some t)] 67)).alloc (.cells #[.pointer (some ⟨1, 67, none⟩), .pointer (some ⟨w.heap.size, 0, none⟩), .int .u64 150] 78)).alloc (.cells #[.pointer (some ⟨1, 67, none⟩), .pointer (some ⟨w.heap.size, 0, none⟩), .int .u64 150] 78)).alloc (.cells #[.int .i64 c] 35))
  (by rw [World.cell?_alloc_at _ _ _ _ (by simp)]; rfl)
  (by rw [World.cell?_alloc_lt _ _ t (by simp; omega), World.cell?_alloc_lt _ _ t (by simp; omega), World.cell?_alloc_lt _ _ t (by simp; omega), World.cell?_alloc_lt _ _ t htl]; exact ht0)
  (by rw [World.frozen?_alloc_old _ _ t (by simp; omega), World.frozen?_alloc_old _ _ t (by simp; omega), World.frozen?_alloc_old _ _ t (by simp; omega), World.frozen?_alloc_old _ _ t (Nat.ne_of_lt htl)]; exact hf0)
 go_enter Tryd.func36, Tryd.ntmps36
 go_wp2
 refine wp_loop_rounds 2 ?_
 rw [rounds_succ]
 go_wp2
 rw [rounds_succ]
 go_wp2
 go_ret
 exact ⟨rfl, rfl⟩
end Go.Proofs.YtjknfppbebfhnaaDoor.PA
namespace Go.Proofs.YtjknfppbebfhnaaDoorW.PrintWords
open Go.RowKit
def fine (fz : Nat × Nat) (n : Nat) : Prop := fz.2 = 0 ∨ n ≤ fz.1
theorem fine_zero (n : Nat) : fine (0, 0) n := .inl rfl
theorem fine_frozen {w : World} {g : Nat} {t : TypeId} {cs : Array Value} {fz : Nat × Nat} (h : w.heap[g]? = some (.cells cs t fz)) (hf : fine fz cs.size) {i : Nat} (hi : i < cs.size) : w.frozen? ⟨g, i, none⟩ = false := by
 simp only [World.frozen?, h]
 rcases hf with hf | hf <;> simp <;> omega
theorem heap_put {w : World} {g : Nat} {t : TypeId} {cs : Array Value} {fz : Nat × Nat} (h : w.heap[g]? = some (.cells cs t fz)) (i : Nat) (u : Value) : (w.setCell ⟨g, i, none⟩ u).heap[g]? = some (.cells (cs.setIfInBounds i u) t fz) := by
 simp [World.setCell, Array.getElem?_modify, h]
theorem heap_puts {g : Nat} {e : TypeId} {fz : Nat × Nat} : ∀ (vs : List Value) (o : Nat) (w : World) (cur : Array Value), w.heap[g]? = some (.cells cur e fz) → o + vs.length ≤ cur.size →
  ∃ cur', (w.setCells g o vs).heap[g]? = some (.cells cur' e fz) ∧ cur'.size = cur.size ∧ cur'.toList = cur.toList.take o ++ vs ++ cur.toList.drop (o + vs.length)
 | [], o, w, cur, h, _ => ⟨cur, h, rfl, by simp⟩
 | v :: r, o, w, cur, h, hl => by
  have h2 := heap_put h o v
  simp only [List.length_cons] at hl
  obtain ⟨cur', h3, h4, h5⟩ := heap_puts r (o + 1) (w.setCell ⟨g, o, none⟩ v) _ h2 (by simp; omega)
  refine ⟨cur', h3, by rw [h4]; simp, ?_⟩
  rw [h5, Array.toList_setIfInBounds]
  have ho : o < cur.toList.length := by rw [Array.length_toList]; omega
  rw [List.take_set, List.drop_set_of_lt (by omega)]
  simp only [List.length_cons]
  rw [show o + 1 + r.length = o + (r.length + 1) by omega]
  congr 1
  rw [List.take_succ_eq_append_getElem ho, List.set_append_right _ _ (by rw [List.length_take]; omega)]
  have ho' : o < cur.size := by omega
  simp [Nat.min_eq_left (Nat.le_of_lt ho')]
theorem puts_same (g : Nat) : ∀ (vs : List Value) (o : Nat) (w : World), (w.setCells g o vs).os = w.os ∧ (w.setCells g o vs).tape = w.tape ∧ (w.setCells g o vs).output = w.output ∧ (w.setCells g o vs).heap.size = w.heap.size ∧ ∀ k, k ≠ g → (w.setCells g o vs).heap[k]? = w.heap[k]?
 | [], o, w => ⟨rfl, rfl, rfl, rfl, fun _ _ => rfl⟩
 | v :: r, o, w => by
  obtain ⟨h1, h2, h3, h4, h5⟩ := puts_same g r (o + 1) (w.setCell ⟨g, o, none⟩ v)
  rw [World.setCells]
  exact ⟨h1, h2, h3, by rw [h4]; simp [World.setCell], fun k hk => by rw [h5 k hk]; exact heap_setCell_other w ⟨g, o, none⟩ k v hk⟩
def Blk (w : World) (g : Nat) (cs : Array Value) (t : TypeId) : Prop := ∃ fz, w.heap[g]? = some (.cells cs t fz) ∧ fine fz cs.size
theorem Blk.of {w : World} {g : Nat} {cs : Array Value} {t : TypeId} (h : w.heap[g]? = some (.cells cs t (0, 0))) : Blk w g cs t := ⟨(0, 0), h, fine_zero _⟩
theorem Blk.lt {w : World} {g : Nat} {cs : Array Value} {t : TypeId} (h : Blk w g cs t) : g < w.heap.size := let ⟨_, h, _⟩ := h; (Array.getElem?_eq_some_iff.1 h).1
theorem Blk.to {w w' : World} {g : Nat} {cs : Array Value} {t : TypeId} (h : Blk w g cs t) (e : w'.heap[g]? = w.heap[g]?) : Blk w' g cs t := let ⟨fz, h, hf⟩ := h; ⟨fz, e.trans h, hf⟩
theorem Blk.type {w : World} {g : Nat} {cs cs' : Array Value} {t t' : TypeId} {fz : Nat × Nat} (h : Blk w g cs t) (h' : w.heap[g]? = some (.cells cs' t' fz)) : t = t' := by
 obtain ⟨fz', h, _⟩ := h
 rw [h] at h'
 injection h' with h'
 injection h' with _ ht
theorem Blk.same {w : World} {g : Nat} {cs cs' : Array Value} {t t' : TypeId} (h : Blk w g cs t) (h' : Blk w g cs' t') : t = t' := let ⟨_, h', _⟩ := h'; h.type h'
def ownsRow2 (w : World) (base : Nat) (e : TypeId) (size : Nat) (v : Value) (n : Nat) (xs : List Value) : Prop :=
  xs.length = n * size ∧
  ((v = .slice none 0 0 ∧ n = 0) ∨
   ∃ g cap cur, v = .slice (some ⟨g, 0, none⟩) n cap ∧ base ≤ g ∧ Blk w g cur e ∧ n ≤ cap ∧ cap ≤ maxLen ∧ cap * size ≤ cur.size ∧ cur.toList.take (n * size) = xs)
section
variable {w : World} {base : Nat} {e : TypeId} {size : Nat} {v : Value} {n : Nat} {xs : List Value}
theorem ownsRow2.of (h : w.ownsRow base e size v n xs) : ownsRow2 w base e size v n xs := by
 refine ⟨h.1, ?_⟩
 rcases h.2 with h2 | ⟨g, cap, cur, h1, h2, h3, h4, h5, h6, h7⟩
 ·exact .inl h2
 ·exact .inr ⟨g, cap, cur, h1, h2, .of h3, h4, h5, Nat.le_of_eq h6.symm, h7⟩
theorem ownsRow2_lit (w : World) (cells : Array Value) (n : Nat) (hb : base ≤ w.heap.size) (hm : n ≤ maxLen) (hs : cells.size = n * size) :
    ownsRow2 (w.alloc (.cells cells e)) base e size (.slice (some ⟨w.heap.size, 0, none⟩) n n) n cells.toList := .of (World.ownsRow_lit w cells n hb hm hs)
theorem ownsRow2.lt (h : ownsRow2 w base e size v n xs) : ∀ k, v.ownBlock = some k → base ≤ k ∧ k < w.heap.size := by
 intro k hk
 rcases h.2 with ⟨rfl, _⟩ | ⟨g, cap, cur, rfl, hb, hg, _⟩
 ·simp [Value.ownBlock] at hk
 ·simp [Value.ownBlock] at hk
  subst hk
  exact ⟨hb, hg.lt⟩
theorem ownsRow2.kept {w' : World} {row : Option Nat} (h : ownsRow2 w base e size v n xs) (hg : w.grownBy w' row) (hne : v.ownBlock = none ∨ v.ownBlock ≠ row) : ownsRow2 w' base e size v n xs := by
 refine ⟨h.1, ?_⟩
 rcases h.2 with hn | ⟨g, cap, cur, rfl, hb, hgg, rest⟩
 ·exact .inl hn
 ·exact .inr ⟨g, cap, cur, rfl, hb, hgg.to (hg.block g hgg.lt (by simpa [Value.ownBlock] using hne)), rest⟩
theorem ownsRow2.alloc (h : ownsRow2 w base e size v n xs) (o : Obj) : ownsRow2 (w.alloc o) base e size v n xs :=
 h.kept (World.grownBy_alloc w o none) (by cases hv : v.ownBlock <;> simp)
theorem ownsRow2.drew (h : ownsRow2 w base e size v n xs) : ownsRow2 w.drew base e size v n xs := h
theorem ownsRow2.cells (h : ownsRow2 w base e size v n xs) {g : Nat} (hg : v.ownBlock = some g) : ∀ j u, xs[j]? = some u → w.cell? ((⟨g, 0, none⟩ : Addr).add j) = some u := by
 intro j u hu
 rcases h.2 with ⟨rfl, _⟩ | ⟨g', cap, cur, rfl, _, ⟨fz, hgg, _⟩, _, _, _, htake⟩
 ·simp [Value.ownBlock] at hg
 ·simp [Value.ownBlock] at hg
  subst hg
  refine World.news_of_block hgg j u ?_
  rw [← htake, List.getElem?_take] at hu
  split at hu
  ·exact hu
  ·cases hu
theorem ownsRow2.form (h : ownsRow2 w base e size v n xs) (hn : 0 < n) : ∃ g cap, v = .slice (some ⟨g, 0, none⟩) n cap ∧ base ≤ g ∧ g < w.heap.size := by
 rcases h.2 with ⟨_, h0⟩ | ⟨g, cap, cur, hv, hb, hg, _⟩
 ·omega
 ·exact ⟨g, cap, hv, hb, hg.lt⟩
theorem ownsRow2.stored {g cap : Nat} (h : ownsRow2 w base e size (.slice (some ⟨g, 0, none⟩) n cap) n xs) (j : Nat) (u : Value) :
  ownsRow2 (w.setCell ⟨g, j, none⟩ u) base e size (.slice (some ⟨g, 0, none⟩) n cap) n (xs.set j u) ∧ w.grownBy (w.setCell ⟨g, j, none⟩ u) (some g) := by
 rcases h.2 with ⟨h', _⟩ | ⟨g', cap', cur, h', hb, ⟨fz, hg, hfz⟩, hnc, hcm, hcs, htake⟩
 ·simp at h'
 ·simp only [Value.slice.injEq, Option.some.injEq, Addr.mk.injEq, and_true, true_and] at h'
  obtain ⟨rfl, rfl⟩ := h'
  refine ⟨⟨by simpa using h.1, .inr ⟨g, cap, cur.setIfInBounds j u, rfl, hb, ⟨fz, heap_put hg j u, by simpa using hfz⟩, hnc, hcm, by simpa using hcs, ?_⟩⟩,
   ⟨rfl, rfl, rfl, by simp, fun k _ hk => heap_setCell_other w ⟨g, j, none⟩ k u (fun e => hk (by simp [e]))⟩⟩
  rw [Array.toList_setIfInBounds, ← htake, List.take_set]
end
section
variable {P : Program} (w : World)
theorem run_append_own2_at (base : Nat) (t ty e : TypeId) (i : TypeInfo) (z : Value) (size bytes : Nat) (ht : P.underlying t = some (.slice e)) (hi : P.info? e = some i) (hz : i.zero = some z)
  (hsize : i.size = size) (hby : i.bytes = bytes) (hzs : z.cells.size = size) (hsz : 0 < size)
  (v : Value) (n : Nat) (xs : List Value) (hown : ownsRow2 w base e size v n xs)
  (a : Addr) (m c : Nat) (news : List Value) (hl : news.length = m * size) (hnews : ∀ j u, news[j]? = some u → w.cell? (a.add j) = some u) (h1 : ∀ u ∈ news, u.oneCell' = true)
  (h63 : n + m ≤ maxLen) (hbytes : (n + m) * bytes ≤ 140737488355328) (hbase : base ≤ w.heap.size) :
  ∃ v' w', (Builtin.append_ #[t, t] ty #[v, .slice (some a) m c]).run P w = .ok v' w' ∧ ownsRow2 w' base e size v' (n + m) (xs ++ news) ∧ w.grownBy w' v.ownBlock ∧
   (v' = .slice none 0 0 ↔ v = .slice none 0 0 ∧ m = 0) ∧ (v'.ownBlock = v.ownBlock ∨ v'.ownBlock = some w.heap.size) := by
 rcases hown.2 with ⟨rfl, rfl⟩ | ⟨g, cap, cur, rfl, hbg, ⟨fz, hg, hfz⟩, hnc, hcm, hcs, htake⟩
 ·have hx : xs = [] := List.eq_nil_of_length_eq_zero (by simpa using hown.1)
  subst hx
  obtain ⟨v', w', hr, h2, h3⟩ := run_append_own_at (P := P) w base t ty e i z size bytes ht hi hz hsize hby hzs hsz (.slice none 0 0) 0 [] (World.ownsRow_nil w base e size) a m c news hl hnews h1 h63 hbytes hbase
  exact ⟨v', w', hr, .of h2, h3⟩
 ·by_cases hroom : n + m ≤ cap
  ·have hfit : n * i.size + news.length ≤ cur.size := by rw [hl, hsize, ← Nat.add_mul]; exact Nat.le_trans (Nat.mul_le_mul_right _ hroom) hcs
   have hz0 : 0 + n * i.size = n * i.size := Nat.zero_add _
   have hr := run_append_room_cells (P := P) (w := w) t ty e i ht hi g 0 n cap a m c news (by rw [hl, hsize]) hnews h1 hroom
    (fun j hj => by rw [hz0, cell_of_row w g _ cur e fz hg]; simp; omega) (fun j hj => fine_frozen hg hfz (by omega))
   rw [hz0] at hr
   obtain ⟨cur', c1, c2, c3⟩ := heap_puts news (n * i.size) w cur hg hfit
   obtain ⟨p1, p2, p3, p4, p5⟩ := puts_same g news (n * i.size) w
   have hlen : (xs ++ news).length = (n + m) * size := by rw [List.length_append, hown.1, hl, Nat.add_mul]
   refine ⟨_, _, hr, ⟨hlen, .inr ⟨g, cap, cur', rfl, hbg, ⟨fz, c1, by rw [c2]; exact hfz⟩, hroom, hcm, by rw [c2]; exact hcs, ?_⟩⟩, ⟨p1, p2, p3, Nat.le_of_eq p4.symm, fun k _ hk => p5 k (fun e => hk (by simp [Value.ownBlock, e]))⟩, by simp, Or.inl rfl⟩
   rw [c3, hsize, htake, ← hlen]
   exact List.take_left
  ·obtain ⟨v', w', hr, h2, h3⟩ := run_append_arg_grows (P := P) w t ty e i z size bytes ht hi hz hsize hby hzs hsz ⟨g, 0, none⟩ n cap xs hown.1 (hown.cells (g := g) rfl) a m c news hl hnews (by omega) h63 hbytes
   have hne : v' ≠ .slice none 0 0 := by
    intro he
    rcases h2.2 with ⟨_, h0⟩ | ⟨g', c', cur', hv, _⟩
    ·have h6 := hnc; omega
    ·rw [he] at hv; cases hv
   have hblk : v'.ownBlock = some w.heap.size ∨ v'.ownBlock = some g := by
    have hgr := run_append_grow (P := P) w t ty e i z ht hi hz ⟨g, 0, none⟩ n cap xs (by rw [hown.1, hsize]) (hown.cells (g := g) rfl) a m c news (by rw [hl, hsize]) hnews (by omega) (by simp only [maxLen] at h63; omega) (by rw [hby]; exact growslice_fits (by omega) hbytes)
    rw [hgr] at hr
    injection hr with hr1 hr2
    left
    rw [← hr1]
    rfl
   refine ⟨v', w', hr, .of ⟨h2.1, ?_⟩, ⟨h3.os, h3.tape, h3.output, h3.size, fun k hk _ => h3.block k hk (by simp)⟩, by simp [hne], ?_⟩
   ·rcases h2.2 with h4 | ⟨g', c', cur', h4, h5, h6⟩
    ·exact .inl h4
    ·exact .inr ⟨g', c', cur', h4, Nat.le_trans hbase h5, h6⟩
   ·rcases hblk with h | h
    ·exact .inr h
    ·exact .inl h
theorem wpList_append_own2_at {ops : Array Oper} {rest : List Oper} {o : Oper} {a : Act} {Q : Exit → Act → World → Prop} (hgd : o.guard = none) (s x : Operand) (t : TypeId)
  (ho : o.op = .call { callee := .builtin .append, args := #[s, x], argTypes := #[t, t] })
  (base : Nat) (e : TypeId) (i : TypeInfo) (z : Value) (size bytes : Nat) (ht : P.underlying t = some (.slice e)) (hi : P.info? e = some i) (hz : i.zero = some z)
  (hsize : i.size = size) (hby : i.bytes = bytes) (hzs : z.cells.size = size) (hsz : 0 < size)
  (v : Value) (n : Nat) (xs : List Value) (hs : a.eval s = v) (hown : ownsRow2 w base e size v n xs)
  (ad : Addr) (m c : Nat) (news : List Value) (hx : a.eval x = .slice (some ad) m c) (hl : news.length = m * size) (hnews : ∀ j u, news[j]? = some u → w.cell? (ad.add j) = some u) (h1 : ∀ u ∈ news, u.oneCell' = true)
  (h63 : n + m ≤ maxLen) (hbytes : (n + m) * bytes ≤ 140737488355328) (hbase : base ≤ w.heap.size)
  (h : ∀ v' w', ownsRow2 w' base e size v' (n + m) (xs ++ news) → w.grownBy w' v.ownBlock → (v' = .slice none 0 0 ↔ v = .slice none 0 0 ∧ m = 0) → (v'.ownBlock = v.ownBlock ∨ v'.ownBlock = some w.heap.size) → wpList P ops Q rest (a.put o.dst v') w') :
  wpList P ops Q (o :: rest) a w := by
 refine wpList_plain hgd fun K hK => ?_
 obtain ⟨v', w', hr, h2, h3, h4, h5⟩ := run_append_own2_at (P := P) w base t o.type e i z size bytes ht hi hz hsize hby hzs hsz v n xs hown ad m c news hl hnews h1 h63 hbytes hbase
 unfold Oper.wp execOp
 simp only [ho, resolve, invoke, builtin, Sem.run_bind, Sem.run_pure, Result.andThen_ok, List.map_toArray, List.map_cons, List.map_nil, hs, hx, hr]
 exact hK _ _ (h v' w' h2 h3 h4 h5)
end
end Go.Proofs.YtjknfppbebfhnaaDoorW.PrintWords
set_option linter.unusedVariables false
set_option linter.unusedSimpArgs false
namespace Go.Proofs.YtjknfppbebfhnaaDoorW.PrintWords
open Go.RowKit
structure Aside0 (p : Prop) : Prop where mk :: (out : p)
structure Drawn0 (w w' : World) : Prop where mk :: (out : ∃ n, w' = w.drewN n)
theorem Drawn0.refl (w : World) : Drawn0 w w := ⟨⟨0, rfl⟩⟩
theorem Drawn0.step {w w' : World} (h : Drawn0 w w') (n : Nat) : Drawn0 w (w'.drewN n) := by
 obtain ⟨m, rfl⟩ := h
 exact ⟨⟨m + n, World.drewN_drewN ..⟩⟩
theorem Drawn0.grown {w w' : World} (h : Drawn0 w w') : Grown w w' := by
 obtain ⟨n, rfl⟩ := h
 induction n with
 | zero => exact Grown.refl _
 | succ n ih => rw [← World.drew_drewN]; exact Grown.drew ih
theorem Drawn0.below {w w' : World} (h : Drawn0 w w') : Below w.heap.size w w' := by
 obtain ⟨n, rfl⟩ := h
 induction n with
 | zero => exact Below.refl _ _
 | succ n ih => rw [← World.drew_drewN]; exact ih.drew
def rd (xs : List Int) (i : Int) : Int := xs.getD i.toNat 0
def bt (s : ByteArray) (i : Int) : Int := if h : i.toNat < s.size then ((s[i.toNat]'h).toNat : Int) else 0
theorem bt_at (s : ByteArray) (i : Int) : ∀ h : i.toNat < s.size, ((s[i.toNat]'h).toNat : Int) = bt s i := fun h => by simp [bt, h]
def nums (k : IntKind) (xs : List Int) : List Value := xs.map fun x => .int k x
theorem below_alloc {w W : World} (h : Below w.heap.size w W) (o : Obj) : Below w.heap.size w (W.alloc o) := h.alloc h.size o
theorem below_drew {B : Nat} {w W : World} (h : Below B w W) : Below B w W.drew := ⟨h.os, h.tape, h.output, h.size, h.block⟩
theorem pw_below_drewN {B : Nat} {w W : World} (h : Below B w W) (n : Nat) : Below B w (W.drewN n) := ⟨h.os, h.tape, h.output, h.size, h.block⟩
theorem below_then {B : Nat} {w w1 w2 : World} (h : Below B w w1) (hB : B ≤ w1.heap.size) (k : Below w1.heap.size w1 w2) : Below B w w2 :=
 h.trans ⟨k.os, k.tape, k.output, k.size, fun i hi => k.block i (Nat.lt_of_lt_of_le hi hB)⟩
theorem grown_of_below {w w1 : World} (h : Below w.heap.size w w1) (row : Option Nat) : w.grownBy w1 row := ⟨h.os, h.tape, h.output, h.size, fun i hi _ => h.block i hi⟩
theorem pw_cell_below {w w1 : World} (h : Below w.heap.size w w1) {a : Addr} {v : Value} (hc : w.cell? a = some v) : w1.cell? a = some v := (h.cell (World.block_lt_of_cell? w a hc)).trans hc
theorem add_plain (g j : Nat) : (⟨g, 0, none⟩ : Addr).add j = ⟨g, j, none⟩ := by unfold Addr.add; split <;> simp_all
def ReadsInt (w : World) (k : IntKind) (A : Option Addr) (n : Nat) (xs : List Int) : Prop :=
 xs.length = n ∧ n ≤ 9223372036854775807 ∧ (0 < n → ∃ ad, A = some ad ∧ ∀ j, j < n → w.cell? (ad.add j) = some (.int k (xs.getD j 0)))
theorem ReadsInt.at_ {w : World} {k : IntKind} {A : Option Addr} {n : Nat} {xs : List Int} (h : ReadsInt w k A n xs) (i : Int) (h0 : 0 ≤ i) (h1 : i < n) : ∃ ad, A = some ad ∧ w.cell? (ad.add i.toNat) = some (.int k (rd xs i)) := by
 obtain ⟨ad, e, hc⟩ := h.2.2 (by omega)
 exact ⟨ad, e, hc _ (by omega)⟩
theorem ReadsInt.below {w w1 : World} {k : IntKind} {A : Option Addr} {n : Nat} {xs : List Int} (h : ReadsInt w k A n xs) (hb : Below w.heap.size w w1) : ReadsInt w1 k A n xs :=
 ⟨h.1, h.2.1, fun hn => by
  obtain ⟨ad, e, hc⟩ := h.2.2 hn
  exact ⟨ad, e, fun j hj => pw_cell_below hb (hc j hj)⟩⟩
theorem own_nil (W : World) (base : Nat) (e : TypeId) (size : Nat) : ownsRow2 W base e size (.slice none 0 0) 0 [] := ⟨by simp, .inl ⟨rfl, rfl⟩⟩
theorem own_base {w : World} {base : Nat} {e : TypeId} {size n : Nat} {v : Value} {xs : List Value} (h : ownsRow2 w base e size v n xs) (k : Nat) (hk : v.ownBlock = some k) : base ≤ k := by
 rcases h.2 with ⟨rfl, _⟩ | ⟨g, cap, cur, rfl, hb, _⟩
 ·simp [Value.ownBlock] at hk
 ·have : g = k := by simpa [Value.ownBlock] using hk
  omega
theorem own_lt {w : World} {base : Nat} {e : TypeId} {size n : Nat} {v : Value} {xs : List Value} (h : ownsRow2 w base e size v n xs) (k : Nat) (hk : v.ownBlock = some k) : k < w.heap.size := by
 rcases h.2 with ⟨rfl, _⟩ | ⟨g, cap, cur, rfl, hb, ⟨fz, hh, hfz⟩, _⟩
 ·simp [Value.ownBlock] at hk
 ·have : g = k := by simpa [Value.ownBlock] using hk
  subst this
  exact (Array.getElem?_eq_some_iff.1 hh).1
theorem pw_own_below {w w1 : World} {base : Nat} {e : TypeId} {size n : Nat} {v : Value} {xs : List Value} (h : ownsRow2 w base e size v n xs) (hb : Below w.heap.size w w1) : ownsRow2 w1 base e size v n xs :=
 h.kept (grown_of_below hb none) (by cases v.ownBlock <;> simp)
theorem own_slice {w : World} {base n : Nat} {e : TypeId} {size : Nat} {v : Value} {xs : List Value} (h : ownsRow2 w base e size v n xs) : ∃ A c, v = .slice A n c := by
 rcases h.2 with ⟨rfl, rfl⟩ | ⟨g, cap, cur, rfl, _⟩
 ·exact ⟨none, 0, rfl⟩
 ·exact ⟨_, cap, rfl⟩
theorem own_string {P : Program} {w : World} {base n : Nat} {e' src dst e : TypeId} {v : Value} {xs : List Int} (hs : P.underlying src = some (.slice e)) (he : P.underlying e = some (.int .u8)) (hd : P.underlying dst = some .string)
  (h : ownsRow2 w base e' 1 v n (nums .u8 xs)) : (convert src dst v).run P w = .ok (.string (strOfNums xs)) w := by
 have hl : xs.length = n := by have := h.1; simp [nums] at this; exact this
 rcases h.2 with ⟨rfl, rfl⟩ | ⟨g, cap, cur, rfl, _⟩
 ·obtain rfl : xs = [] := List.eq_nil_of_length_eq_zero hl
  exact run_convert_bytes_nil w src e hs he 0 0 dst hd
 ·refine run_convert_bytes_arg w src e hs he g 0 n cap xs hl (fun i hi => ?_) dst hd
  have hc := h.cells (g := g) rfl i (.int .u8 (xs.getD i 0)) (by simp [nums, List.getElem?_eq_getElem (show i < xs.length by omega), List.getD_eq_getElem?_getD])
  have ha : (⟨g, 0, none⟩ : Addr).add i = ⟨g, 0 + i, none⟩ := by unfold Addr.add; split <;> simp_all
  rwa [ha] at hc
section
variable {P : Program} {ops : Array Oper} {rest : List Oper} {o : Oper} {a : Act} {Q : Exit → Act → World → Prop}
end
section
variable {P : Program}
end
section
variable {P : Program} {ops : Array Oper} {rest : List Oper} {o : Oper} {a : Act} {Q : Exit → Act → World → Prop}
end
theorem ReadsInt.take_ {w : World} {k : IntKind} {A : Option Addr} {n : Nat} {xs : List Int} (h : ReadsInt w k A n xs) (i : Nat) (hi : i ≤ n) : ReadsInt w k A i (xs.take i) := by
 refine ⟨by rw [List.length_take, h.1]; omega, by have := h.2.1; omega, fun hp => ?_⟩
 obtain ⟨ad, e, hc⟩ := h.2.2 (by omega)
 refine ⟨ad, e, fun j hj => ?_⟩
 rw [hc j (by omega)]
 simp [List.getD_eq_getElem?_getD, hj]
def LeO {α : Type} (a b : Option α) : Prop := ∀ r, a = some r → b = some r
theorem LeO.refl {α : Type} (a : Option α) : LeO a a := fun _ h => h
theorem LeO.none {α : Type} (b : Option α) : LeO Option.none b := fun _ h => by cases h
theorem LeO.trans {α : Type} {a b c : Option α} (h : LeO a b) (k : LeO b c) : LeO a c := fun r hr => k r (h r hr)
theorem LeO.ite {α : Type} {c : Prop} [Decidable c] {a a' b b' : Option α} (h : LeO a a') (k : LeO b b') : LeO (if c then a else b) (if c then a' else b') := by
 split
 ·exact h
 ·exact k
theorem LeO.bind {α β : Type} {a a' : Option α} {f f' : α → Option β} (h : LeO a a') (k : ∀ x, LeO (f x) (f' x)) : LeO (a.bind f) (a'.bind f') := by
 intro r hr
 obtain ⟨x, hx, hf⟩ := Option.bind_eq_some_iff.1 hr
 exact Option.bind_eq_some_iff.2 ⟨x, h x hx, k x r hf⟩
theorem LeO.map {α β : Type} {a a' : Option α} (f : α → β) (h : LeO a a') : LeO (a.map f) (a'.map f) := by
 intro r hr
 obtain ⟨x, hx, hf⟩ := Option.map_eq_some_iff.1 hr
 exact Option.map_eq_some_iff.2 ⟨x, h x hx, hf⟩
theorem more_rounds {α : Type} {g : Nat → Option α} (h : ∀ k, LeO (g k) (g (k + 1))) (k : Nat) : ∀ j, LeO (g k) (g (k + j))
 | 0 => LeO.refl _
 | j + 1 => (more_rounds h k j).trans (h (k + j))
theorem at_rounds {α : Type} {g : Nat → Option α} (h : ∀ k, LeO (g k) (g (k + 1))) {k k' : Nat} (hk : k ≤ k') {r : α} (hr : g k = some r) : g k' = some r := by
 have := more_rounds h k (k' - k) r hr
 rwa [Nat.add_sub_cancel' hk] at this
def Reps {α : Type} (R : α → List Value → Prop) (size : Nat) (ps : List α) (cs : List Value) : Prop :=
 cs.length = ps.length * size ∧ ∀ j p, ps[j]? = some p → R p ((cs.drop (j * size)).take size)
theorem Reps.none {α : Type} (R : α → List Value → Prop) (size : Nat) : Reps R size [] [] := ⟨by simp, fun j p h => by simp at h⟩
theorem Reps.snoc {α : Type} {R : α → List Value → Prop} {size : Nat} {ps : List α} {cs c : List Value} {p : α} (h : Reps R size ps cs) (hp : R p c) (hc : c.length = size) : Reps R size (ps ++ [p]) (cs ++ c) := by
 refine ⟨by rw [List.length_append, h.1, hc, List.length_append, List.length_singleton, Nat.add_mul, Nat.one_mul], fun j q hq => ?_⟩
 rcases Nat.lt_or_ge j ps.length with hj | hj
 ·rw [List.getElem?_append_left hj] at hq
  have h1 : j * size + size ≤ cs.length := by rw [h.1, ← Nat.succ_mul]; exact Nat.mul_le_mul_right _ hj
  have h2 := h.2 j q hq
  rw [List.drop_append_of_le_length (by omega), List.take_append_of_le_length (by rw [List.length_drop]; omega)]
  exact h2
 ·have hj' : j = ps.length := by
   have := (List.getElem?_eq_some_iff.1 hq).1
   rw [List.length_append, List.length_singleton] at this
   omega
  subst hj'
  have hq' : p = q := by simpa using hq
  subst hq'
  rw [← h.1, List.drop_left, ← hc, List.take_length]
  exact hp
theorem Reps.imp_ {α : Type} {R R' : α → List Value → Prop} {size : Nat} {ps : List α} {cs : List Value} (h : Reps R size ps cs) (hR : ∀ p c, R p c → R' p c) : Reps R' size ps cs := ⟨h.1, fun j p hj => hR _ _ (h.2 j p hj)⟩
def ReadsRow {α : Type} (R : α → List Value → Prop) (size : Nat) (w : World) (A : Option Addr) (n : Nat) (ps : List α) : Prop :=
 ps.length = n ∧ n ≤ 9223372036854775807 ∧ (0 < n → ∃ ad, A = some ad ∧ ∀ j p, ps[j]? = some p → ∃ c, c.length = size ∧ R p c ∧ ∀ i u, c[i]? = some u → w.cell? (ad.add (j * size + i)) = some u)
theorem ReadsRow.imp_ {α : Type} {R R' : α → List Value → Prop} {size : Nat} {w w1 : World} {A : Option Addr} {n : Nat} {ps : List α} (h : ReadsRow R size w A n ps) (hb : Below w.heap.size w w1) (hR : ∀ p c, R p c → R' p c) : ReadsRow R' size w1 A n ps :=
 ⟨h.1, h.2.1, fun hn => by
  obtain ⟨ad, e, hc⟩ := h.2.2 hn
  refine ⟨ad, e, fun j p hj => ?_⟩
  obtain ⟨c, hs, hr, hcell⟩ := hc j p hj
  exact ⟨c, hs, hR _ _ hr, fun i u hu => pw_cell_below hb (hcell i u hu)⟩⟩
theorem own_reads_row {α : Type} {R : α → List Value → Prop} {w : World} {base n size : Nat} {e : TypeId} {v : Value} {ps : List α} {cs : List Value} (h : ownsRow2 w base e size v n cs) (hR : Reps R size ps cs) (hn : ps.length = n) :
  ∃ A c, v = .slice A n c ∧ ReadsRow R size w A n ps := by
 rcases Nat.eq_zero_or_pos n with h0 | h0
 ·rcases h.2 with ⟨rfl, rfl⟩ | ⟨g, cap, cur, rfl, _⟩
  ·exact ⟨none, 0, rfl, hn, by omega, fun hp => absurd hp (by omega)⟩
  ·exact ⟨_, cap, rfl, hn, by omega, fun hp => absurd hp (by omega)⟩
 ·obtain ⟨g, cap, rfl, _, _⟩ := h.form h0
  have hm : n ≤ 9223372036854775807 := by
   rcases h.2 with ⟨_, h1⟩ | ⟨g', cap', cur, he, _, _, h1, h2, _⟩
   ·omega
   ·simp only [maxLen] at h2
    omega
  refine ⟨_, cap, rfl, hn, hm, fun _ => ⟨_, rfl, fun j p hj => ⟨(cs.drop (j * size)).take size, ?_, hR.2 j p hj, fun i u hu => ?_⟩⟩⟩
  ·have hjl := (List.getElem?_eq_some_iff.1 hj).1
   have h1 : j * size + size ≤ cs.length := by rw [hR.1, ← Nat.succ_mul]; exact Nat.mul_le_mul_right _ hjl
   rw [List.length_take, List.length_drop]
   omega
  ·refine h.cells (g := g) rfl _ u ?_
   rw [List.getElem?_take] at hu
   split at hu
   ·rw [List.getElem?_drop] at hu
    exact hu
   ·cases hu
section
variable {P : Program} {ops : Array Oper} {rest : List Oper} {o : Oper} {a : Act} {Q : Exit → Act → World → Prop}
theorem print_append_cells {w0 W : World} (base : Nat) (hgd : o.guard = none) (s x : Operand) (t e : TypeId) (z : Value) (size bytes : Nat)
  (ho : o.op = .call { callee := .builtin .append, args := #[s, x], argTypes := #[t, t] })
  (ht : P.underlying t = some (.slice e)) (hinfo : (P.info? e).map (fun i => (i.zero, i.size, i.bytes)) = some (some z, size, bytes)) (hz : z.cells.size = size) (hs0 : 0 < size) (hb0 : 0 < bytes)
  (v : Value) (n : Nat) (xs ys : List Value) (hs : a.eval s = v) (hx : a.eval x = .slice (some ⟨W.heap.size, 0, none⟩) 1 1) (hys : ys.length = size) (h1 : ∀ u ∈ ys, u.oneCell' = true)
  (HO : ownsRow2 W base e size v n xs) (HB : Below base w0 W) (hbase : base ≤ W.heap.size) (hl : (n + 1) * bytes ≤ 140737488355328)
  (h : ∀ v1 w1, ownsRow2 w1 base e size v1 (n + 1) (xs ++ ys) → Below base w0 w1 → W.grownBy w1 v.ownBlock → (v1.ownBlock = v.ownBlock ∨ ∃ b, v1.ownBlock = some b ∧ W.heap.size ≤ b) → wpList P ops Q rest (a.put o.dst v1) w1) :
  wpList P ops Q (o :: rest) a (W.alloc (.cells ys.toArray e)) := by
 obtain ⟨i0, hi, hzz⟩ := Option.map_eq_some_iff.1 hinfo
 simp only [Prod.mk.injEq] at hzz
 obtain ⟨hz0, hz1, hz2⟩ := hzz
 have hlen : n + 1 ≤ 140737488355328 := Nat.le_trans (Nat.le_mul_of_pos_right _ hb0) hl
 refine wpList_append_own2_at (W.alloc (.cells ys.toArray e)) hgd s x t ho base e i0 z size bytes ht hi hz0 hz1 hz2 hz hs0 v n xs hs (HO.alloc _) ⟨W.heap.size, 0, none⟩ 1 1 ys hx (by rw [hys]; simp)
  (by simpa using World.news_of_block (cs := ys.toArray) (t := e) (fr := (0, 0)) (heap_alloc_new W (.cells ys.toArray e))) h1 (by simp only [maxLen]; omega) hl (by simp; omega) ?_
 intro v1 w1 hown hg _ hat
 refine h v1 w1 hown ((HB.alloc hbase _).grown hg (by simp; omega) (own_base HO)) (World.grownBy.trans (World.grownBy_alloc W _ _) hg) ?_
 rcases hat with hat | hat
 ·exact .inl hat
 ·exact .inr ⟨_, hat, by simp⟩
end
theorem blk_set {w : World} {g : Nat} {t : TypeId} {cs : Array Value} (h : w.heap[g]? = some (.cells cs t (0, 0))) (i : Nat) (u : Value) : (w.setCell ⟨g, i, none⟩ u).heap[g]? = some (.cells (cs.setIfInBounds i u) t (0, 0)) := by
 simp [World.setCell, Array.getElem?_modify, h]
theorem blk_lt {w : World} {g : Nat} {o : Obj} (h : w.heap[g]? = some o) : g < w.heap.size := (Array.getElem?_eq_some_iff.1 h).1
theorem blk_cell {w : World} {g : Nat} {t : TypeId} {cs : Array Value} (h : w.heap[g]? = some (.cells cs t (0, 0))) (i : Nat) : w.cell? ⟨g, i, none⟩ = cs[i]? := cell_of_row w g i cs t (0, 0) h
theorem blk_frozen {w : World} {g : Nat} {t : TypeId} {cs : Array Value} (h : w.heap[g]? = some (.cells cs t (0, 0))) (i : Nat) : w.frozen? ⟨g, i, none⟩ = false := by simp [World.frozen?, h]
def KeepBut (w w' : World) (g : Nat) (row : Option Nat) : Prop := w.heap.size ≤ w'.heap.size ∧ ∀ i, i < w.heap.size → i ≠ g → some i ≠ row → w'.heap[i]? = w.heap[i]?
theorem KeepBut.refl (w : World) (g : Nat) (row : Option Nat) : KeepBut w w g row := ⟨Nat.le_refl _, fun _ _ _ _ => rfl⟩
theorem KeepBut.of_grown {w w1 : World} {row : Option Nat} (h : w.grownBy w1 row) (g : Nat) : KeepBut w w1 g row := ⟨h.size, fun i hi _ hr => h.block i hi hr⟩
theorem KeepBut.of_below {w w1 : World} (h : Below w.heap.size w w1) (g : Nat) (row : Option Nat) : KeepBut w w1 g row := ⟨h.size, fun i hi _ _ => h.block i hi⟩
theorem KeepBut.trans {w w1 w2 : World} {g : Nat} {row row1 : Option Nat} (h : KeepBut w w1 g row) (k : KeepBut w1 w2 g row1) (hr : row1 = row ∨ ∃ b, row1 = some b ∧ w.heap.size ≤ b) : KeepBut w w2 g row :=
 ⟨Nat.le_trans h.1 k.1, fun i hi hg hn => by
  refine (k.2 i (Nat.lt_of_lt_of_le hi h.1) hg ?_).trans (h.2 i hi hg hn)
  rcases hr with rfl | ⟨b, rfl, hb⟩
  ·exact hn
  ·intro e
   injection e with e
   omega⟩
theorem KeepBut.blk {w w1 : World} {g g' : Nat} {row : Option Nat} {o : Obj} (h : KeepBut w w1 g row) (hb : w.heap[g']? = some o) (hg : g' ≠ g) (hr : some g' ≠ row) : w1.heap[g']? = some o := (h.2 g' (blk_lt hb) hg hr).trans hb
theorem KeepBut.own {w w1 : World} {g : Nat} {row : Option Nat} {base : Nat} {e : TypeId} {size n : Nat} {v : Value} {xs : List Value} (h : KeepBut w w1 g row) (ho : ownsRow2 w base e size v n xs) (hg : v.ownBlock ≠ some g) (hr : v.ownBlock = none ∨ v.ownBlock ≠ row) : ownsRow2 w1 base e size v n xs := by
 obtain ⟨h1, h2⟩ := ho
 refine ⟨h1, ?_⟩
 rcases h2 with h2 | ⟨b, cap, cur, rfl, hb, ⟨fz, hh, hfz⟩, r⟩
 ·exact .inl h2
 ·refine .inr ⟨b, cap, cur, rfl, hb, ⟨fz, h.blk hh ?_ ?_, hfz⟩, r⟩
  ·intro e
   exact hg (by rw [← e]; rfl)
  ·rcases hr with hr | hr
   ·simp [Value.ownBlock] at hr
   ·exact hr
def Ev {α : Type} (g : Nat → Option α) (r : α) : Prop := ∃ K, ∀ k, K ≤ k → g k = some r
theorem Ev.of {α : Type} {g : Nat → Option α} {r : α} (hg : ∀ k, LeO (g k) (g (k + 1))) {k : Nat} (h : g k = some r) : Ev g r := ⟨k, fun _ hk => at_rounds hg hk h⟩
theorem Ev.bind {α β : Type} {g : Nat → Option α} {f : Nat → α → Option β} {a : α} {r : β} (h : Ev g a) (k : Ev (fun n => f n a) r) : Ev (fun n => (g n).bind (f n)) r := by
 obtain ⟨K, h⟩ := h
 obtain ⟨K', k⟩ := k
 refine ⟨max K K', fun n hn => ?_⟩
 have h1 := h n (by omega)
 have h2 := k n (by omega)
 simp only [h1, Option.bind_some]
 exact h2
theorem Ev.step {α : Type} {g f : Nat → Option α} {r : α} (h : ∀ k, g (k + 1) = f k) (k : Ev f r) : Ev g r := by
 obtain ⟨K, k⟩ := k
 refine ⟨K + 1, fun n hn => ?_⟩
 obtain ⟨m, rfl⟩ : ∃ m, n = m + 1 := ⟨n - 1, by omega⟩
 rw [h]
 exact k m (by omega)
theorem Ev.congr {α : Type} {g f : Nat → Option α} {r : α} (h : ∀ k, g k = f k) (k : Ev f r) : Ev g r := by
 obtain ⟨K, k⟩ := k
 exact ⟨K, fun n hn => (h n).trans (k n hn)⟩
section
variable {P : Program} {ops : Array Oper} {o : Oper} {a : Act} {Q : Exit → Act → World → Prop} {K : Act → World → Prop}
end
theorem own_weaken {w : World} {base base' : Nat} {e : TypeId} {size n : Nat} {v : Value} {xs : List Value} (h : ownsRow2 w base e size v n xs) (hb : base' ≤ base) : ownsRow2 w base' e size v n xs := by
 obtain ⟨h1, h2⟩ := h
 refine ⟨h1, ?_⟩
 rcases h2 with h2 | ⟨g, cap, cur, rfl, hg, r⟩
 ·exact .inl h2
 ·exact .inr ⟨g, cap, cur, rfl, Nat.le_trans hb hg, r⟩
section
variable {α : Type} {enc : α → Value} {d : α}
def encs (enc : α → Value) (xs : List α) : List Value := xs.map enc
def rdOf (d : α) (xs : List α) (i : Int) : α := xs.getD i.toNat d
theorem encs_length (xs : List α) : (encs enc xs).length = xs.length := by simp [encs]
theorem encs_append (xs ys : List α) : encs enc (xs ++ ys) = encs enc xs ++ encs enc ys := by simp [encs]
theorem encs_get (xs : List α) (j : Nat) (h : j < xs.length) : (encs enc xs)[j]? = some (enc (xs.getD j d)) := by
 simp [encs, List.getElem?_eq_getElem h, List.getD_eq_getElem?_getD]
def ReadsOf (enc : α → Value) (d : α) (w : World) (A : Option Addr) (n : Nat) (xs : List α) : Prop :=
 xs.length = n ∧ n ≤ 9223372036854775807 ∧ (0 < n → ∃ ad, A = some ad ∧ ∀ j, j < n → w.cell? (ad.add j) = some (enc (xs.getD j d)))
theorem ReadsOf.at_ {w : World} {A : Option Addr} {n : Nat} {xs : List α} (h : ReadsOf enc d w A n xs) (i : Int) (h0 : 0 ≤ i) (h1 : i < n) : ∃ ad, A = some ad ∧ w.cell? (ad.add i.toNat) = some (enc (rdOf d xs i)) := by
 obtain ⟨ad, e, hc⟩ := h.2.2 (by omega)
 exact ⟨ad, e, hc _ (by omega)⟩
theorem ReadsOf.below {w w1 : World} {A : Option Addr} {n : Nat} {xs : List α} (h : ReadsOf enc d w A n xs) (hb : Below w.heap.size w w1) : ReadsOf enc d w1 A n xs :=
 ⟨h.1, h.2.1, fun hn => by
  obtain ⟨ad, e, hc⟩ := h.2.2 hn
  exact ⟨ad, e, fun j hj => pw_cell_below hb (hc j hj)⟩⟩
theorem ReadsOf.take_ {w : World} {A : Option Addr} {n : Nat} {xs : List α} (h : ReadsOf enc d w A n xs) (i : Nat) (hi : i ≤ n) : ReadsOf enc d w A i (xs.take i) := by
 refine ⟨by rw [List.length_take, h.1]; omega, by have := h.2.1; omega, fun hp => ?_⟩
 obtain ⟨ad, e, hc⟩ := h.2.2 (by omega)
 refine ⟨ad, e, fun j hj => ?_⟩
 rw [hc j (by omega)]
 simp [List.getD_eq_getElem?_getD, hj]
theorem own_at_of {W : World} {base g n cap : Nat} {e : TypeId} {xs : List α} (h : ownsRow2 W base e 1 (.slice (some ⟨g, 0, none⟩) n cap) n (encs enc xs)) (i : Int) (h0 : 0 ≤ i) (h1 : i < n) :
  W.cell? ⟨g, i.toNat, none⟩ = some (enc (rdOf d xs i)) ∧ W.frozen? ⟨g, i.toNat, none⟩ = false := by
 have hl : xs.length = n := by have := h.1; simp [encs] at this; exact this
 constructor
 ·have hc := h.cells (g := g) rfl i.toNat _ (encs_get (d := d) xs i.toNat (by omega))
  rwa [add_plain] at hc
 ·rcases h.2 with ⟨h', _⟩ | ⟨g', cap', cur, h', _, ⟨fz, hh, hfz⟩, hnc_, _, hcs_, _⟩
  ·cases h'
  ·have : g = g' := by injection h' with h'; injection h' with h'; injection h' with h'
   subst this
   exact fine_frozen hh hfz (by omega)
theorem own_store_of {W : World} {base g n cap : Nat} {e : TypeId} {xs : List α} (h : ownsRow2 W base e 1 (.slice (some ⟨g, 0, none⟩) n cap) n (encs enc xs)) (i : Int) (x : α) :
  ownsRow2 (W.setCell ⟨g, i.toNat, none⟩ (enc x)) base e 1 (.slice (some ⟨g, 0, none⟩) n cap) n (encs enc (xs.set i.toNat x)) ∧ W.grownBy (W.setCell ⟨g, i.toNat, none⟩ (enc x)) (some g) := by
 have hs := h.stored i.toNat (enc x)
 have he : (encs enc xs).set i.toNat (enc x) = encs enc (xs.set i.toNat x) := by simp [encs, List.map_set]
 rwa [he] at hs
end
section
variable {α : Type} {P : Program} {ops : Array Oper} {rest : List Oper} {o : Oper} {a : Act} {Q : Exit → Act → World → Prop}
end
theorem blk_drewN {w : World} {g : Nat} {o : Obj} (h : w.heap[g]? = some o) (n : Nat) : (w.drewN n).heap[g]? = some o := h
theorem blk_below {w w1 : World} {g : Nat} {o : Obj} (h : w.heap[g]? = some o) (hb : Below w.heap.size w w1) : w1.heap[g]? = some o := (hb.block g (blk_lt h)).trans h
theorem blk_new (w : World) (o : Obj) : (w.alloc o).heap[w.heap.size]? = some o := heap_alloc_new w o
section
variable {P : Program}
end
theorem own_le {w : World} {base n m c size : Nat} {e : TypeId} {A : Option Addr} {xs : List Value} (h : ownsRow2 w base e size (.slice A m c) n xs) : m ≤ c := by
 rcases h.2 with ⟨he, _⟩ | ⟨g, cap, cur, he, _, _, hnc, _⟩
 ·injection he with _ h2 h3
  omega
 ·injection he with _ h2 h3
  omega
def OwnRow {α : Type} (R : α → List Value → Prop) (e : TypeId) (size : Nat) (w : World) (base : Nat) (v : Value) (ps : List α) : Prop :=
 ∃ inner, ownsRow2 w base e size v ps.length inner ∧ Reps R size ps inner
section
variable {α : Type} {R R' : α → List Value → Prop} {e : TypeId} {size : Nat} {w w1 : World} {base : Nat} {v : Value} {ps : List α}
theorem OwnRow.none_ (R : α → List Value → Prop) (e : TypeId) (size : Nat) (w : World) (base : Nat) : OwnRow R e size w base (.slice none 0 0) [] := ⟨[], own_nil _ _ _ _, Reps.none _ _⟩
theorem OwnRow.imp_ (h : OwnRow R e size w base v ps) (hR : ∀ p c, R p c → R' p c) : OwnRow R' e size w base v ps := by
 obtain ⟨inner, ho, hr⟩ := h
 exact ⟨inner, ho, hr.imp_ hR⟩
theorem OwnRow.below (h : OwnRow R e size w base v ps) (hb : Below w.heap.size w w1) : OwnRow R e size w1 base v ps := by
 obtain ⟨inner, ho, hr⟩ := h
 exact ⟨inner, pw_own_below ho hb, hr⟩
theorem OwnRow.lower (h : OwnRow R e size w base v ps) {base' : Nat} (hb : base' ≤ base) : OwnRow R e size w base' v ps := by
 obtain ⟨inner, ho, hr⟩ := h
 exact ⟨inner, own_weaken ho hb, hr⟩
theorem OwnRow.reads (h : OwnRow R e size w base v ps) : ∃ A c, v = .slice A ps.length c ∧ ps.length ≤ c ∧ ReadsRow R size w A ps.length ps := by
 obtain ⟨inner, ho, hr⟩ := h
 obtain ⟨A, c, rfl, hrow⟩ := own_reads_row ho hr rfl
 exact ⟨A, c, rfl, own_le ho, hrow⟩
end
section
variable {P : Program} {ops : Array Oper} {rest : List Oper} {o : Oper} {a : Act} {Q : Exit → Act → World → Prop} {α : Type} {R : α → List Value → Prop}
theorem OwnRow.append {w0 W : World} (base : Nat) (hgd : o.guard = none) (s x : Operand) (t e : TypeId) (z : Value) (size bytes : Nat)
  (ho : o.op = .call { callee := .builtin .append, args := #[s, x], argTypes := #[t, t] })
  (ht : P.underlying t = some (.slice e)) (hinfo : (P.info? e).map (fun i => (i.zero, i.size, i.bytes)) = some (some z, size, bytes)) (hz : z.cells.size = size) (hs0 : 0 < size) (hb0 : 0 < bytes)
  (v : Value) (ps : List α) (p : α) (cs : List Value) (hs : a.eval s = v) (hx : a.eval x = .slice (some ⟨W.heap.size, 0, none⟩) 1 1) (hp : R p cs) (hcs : cs.length = size) (h1 : ∀ u ∈ cs, u.oneCell' = true)
  (HO : OwnRow R e size W base v ps) (HB : Below base w0 W) (hbase : base ≤ W.heap.size) (hl : (ps.length + 1) * bytes ≤ 140737488355328)
  (h : ∀ v1 w1, OwnRow R e size w1 base v1 (ps ++ [p]) → Below base w0 w1 → W.grownBy w1 v.ownBlock → (v1.ownBlock = v.ownBlock ∨ ∃ b, v1.ownBlock = some b ∧ W.heap.size ≤ b) → wpList P ops Q rest (a.put o.dst v1) w1) :
  wpList P ops Q (o :: rest) a (W.alloc (.cells cs.toArray e)) := by
 obtain ⟨inner, hown, hr⟩ := HO
 refine print_append_cells base hgd s x t e z size bytes ho ht hinfo hz hs0 hb0 v ps.length inner cs hs hx hcs h1 hown HB hbase hl ?_
 intro v1 w1 hown1 hb1 hg1 hat1
 exact h v1 w1 ⟨inner ++ cs, by rw [List.length_append, List.length_singleton]; exact hown1, hr.snoc hp hcs⟩ hb1 hg1 hat1
end
section
variable {P : Program} {ops : Array Oper} {o : Oper} {a : Act} {Q : Exit → Act → World → Prop} {K : Act → World → Prop} {α : Type} {R : α → List Value → Prop}
end
section
variable {α : Type} {P : Program}
theorem print_take_of (enc : α → Value) (d : α) (t e : TypeId) (kl : IntKind) {i : TypeInfo} (ht : P.underlying t = some (.slice e)) (hi : P.info? e = some i) (hsz : i.size = 1) (A : Option Addr) (c : Nat) (xs : List α) (j : Int) (h0 : 0 ≤ j) (hm : j ≤ xs.length) (hc : xs.length ≤ c) :
  (∀ W : World, (Instr.slice t (.slice A xs.length c) none (some (.int kl j)) none).run P W = .ok (.slice A (xs.take j.toNat).length c) W) ∧
   (∀ w : World, ReadsOf enc d w A xs.length xs → ReadsOf enc d w A (xs.take j.toNat).length (xs.take j.toNat)) ∧ (xs.take j.toNat).length ≤ c := by
 have hl : (xs.take j.toNat).length = j.toNat := by rw [List.length_take]; omega
 refine ⟨fun W => ?_, fun w h => by rw [hl]; exact h.take_ j.toNat (by omega), by rw [hl]; omega⟩
 have hel : P.elem t = e := by simp [Program.elem, ht]
 have hu : P.underlying t = some (.slice (P.elem t)) := by rw [hel]; exact ht
 have ha : (A.map fun x => x.add 0) = A := by cases A <;> simp [Addr.add]
 rw [run_slice_h W t A xs.length c hu kl j h0 (by omega), hel, hl]
 simp [sizeOf, typeInfo, hi, hsz, sliced, Result.andThen, ha]
end
section
variable {P : Program} {ops : Array Oper} {rest : List Oper} {o : Oper} {a : Act} {Q : Exit → Act → World → Prop}
end
structure Kd (α : Type) where
 sz : Nat
 E : List Nat
 K : World → α → List Value → Prop
 M : World → Nat → (Nat → Prop) → α → List Value → Prop
 K_len : ∀ {w x cs}, K w x cs → cs.length = sz
 K_one : ∀ {w x cs}, K w x cs → ∀ u ∈ cs, u.oneCell' = true
 K_below : ∀ {w w1 : World} {x cs}, Below w.heap.size w w1 → K w x cs → K w1 x cs
 K_of_M : ∀ {w base ok x cs}, M w base ok x cs → K w x cs
 M_mono : ∀ {w base ok ok' x cs}, (∀ k, ok k → ok' k) → M w base ok x cs → M w base ok' x cs
 M_bound : ∀ {w : World} {base ok x cs}, M w base ok x cs → M w base (fun k => ok k ∧ base ≤ k ∧ k < w.heap.size ∧ ∃ q, q ∈ E ∧ ∃ cells, Blk w k cells q) x cs
 M_move : ∀ {w w1 : World} {base ok x cs}, (∀ k, ok k → w1.heap[k]? = w.heap[k]?) → M w base ok x cs → M w1 base ok x cs
 M_lower : ∀ {w base base' ok x cs}, base' ≤ base → M w base ok x cs → M w base' ok x cs
theorem own_move {w w1 : World} {base : Nat} {e : TypeId} {size n : Nat} {v : Value} {xs : List Value} (h : ownsRow2 w base e size v n xs) (hm : ∀ k, v.ownBlock = some k → w1.heap[k]? = w.heap[k]?) : ownsRow2 w1 base e size v n xs := by
 obtain ⟨h1, h2⟩ := h
 refine ⟨h1, ?_⟩
 rcases h2 with h2 | ⟨g, cap, cur, rfl, hg, ⟨fz, hh, hfz⟩, r⟩
 ·exact .inl h2
 ·exact .inr ⟨g, cap, cur, rfl, hg, ⟨fz, (hm g (by simp [Value.ownBlock])).trans hh, hfz⟩, r⟩
theorem own_typed {w : World} {base : Nat} {e : TypeId} {size n : Nat} {v : Value} {xs : List Value} (h : ownsRow2 w base e size v n xs) (k : Nat) (hk : v.ownBlock = some k) : ∃ cells, Blk w k cells e := by
 rcases h.2 with ⟨rfl, _⟩ | ⟨g, cap, cur, rfl, hg, ⟨fz, hh, hfz⟩, r⟩
 ·simp [Value.ownBlock] at hk
 ·have : g = k := by simpa [Value.ownBlock] using hk
  subst this
  exact ⟨cur, fz, hh, hfz⟩
namespace Kd
def C {α : Type} (d : Kd α) (w : World) (A : Option Addr) (n : Nat) (xs : List α) : Prop := ReadsRow (d.K w) d.sz w A n xs
def R {α : Type} (d : Kd α) (e : Nat) (w : World) (base : Nat) (ok : Nat → Prop) (v : Value) (xs : List α) : Prop :=
 (∀ k, v.ownBlock = some k → ok k) ∧ OwnRow (d.M w base (fun k => ok k ∧ some k ≠ v.ownBlock)) e d.sz w base v xs
section
variable {α : Type} {d : Kd α} {e : Nat} {w w1 : World} {base : Nat} {ok ok' : Nat → Prop} {v : Value} {xs : List α}
theorem C_below {A : Option Addr} {n : Nat} (h : d.C w A n xs) (hb : Below w.heap.size w w1) : d.C w1 A n xs := ReadsRow.imp_ h hb (fun _ _ hp => d.K_below hb hp)
theorem R_nil (d : Kd α) (e : Nat) (w : World) (base : Nat) (ok : Nat → Prop) : d.R e w base ok (.slice none 0 0) [] := ⟨fun k hk => by simp [Value.ownBlock] at hk, OwnRow.none_ _ _ _ _ _⟩
theorem R_mono (h : d.R e w base ok v xs) (hok : ∀ k, ok k → ok' k) : d.R e w base ok' v xs := ⟨fun k hk => hok k (h.1 k hk), h.2.imp_ (fun _ _ hp => d.M_mono (fun k hk => ⟨hok k hk.1, hk.2⟩) hp)⟩
theorem R_bound (h : d.R e w base ok v xs) : d.R e w base (fun k => ok k ∧ base ≤ k ∧ k < w.heap.size ∧ ∃ q, q ∈ e :: d.E ∧ ∃ cells, Blk w k cells q) v xs := by
 obtain ⟨h0, inner, ho, hr⟩ := h
 refine ⟨fun k hk => ?_, inner, ho, hr.imp_ (fun _ _ hp => d.M_mono (fun k hk => ?_) (d.M_bound hp))⟩
 ·obtain ⟨cells, hc⟩ := own_typed ho k hk
  exact ⟨h0 k hk, own_base ho k hk, own_lt ho k hk, e, List.mem_cons_self, cells, hc⟩
 ·obtain ⟨⟨h1, h2⟩, h3, h4, q, hq, hc⟩ := hk
  exact ⟨⟨h1, h3, h4, q, List.mem_cons_of_mem _ hq, hc⟩, h2⟩
theorem R_move (h : d.R e w base ok v xs) (hm : ∀ k, ok k → w1.heap[k]? = w.heap[k]?) : d.R e w1 base ok v xs := by
 obtain ⟨h0, inner, ho, hr⟩ := h
 exact ⟨h0, inner, own_move ho (fun k hk => hm k (h0 k hk)), hr.imp_ (fun _ _ hp => d.M_move (fun k hk => hm k hk.1) hp)⟩
theorem R_lower {base' : Nat} (h : d.R e w base ok v xs) (hb : base' ≤ base) : d.R e w base' ok v xs := by
 obtain ⟨h0, inner, ho, hr⟩ := h
 exact ⟨h0, inner, own_weaken ho hb, hr.imp_ (fun _ _ hp => d.M_lower hb hp)⟩
theorem R_step (h : d.R e w base ok v xs) (hm : ∀ k, ok k → k < w.heap.size → w1.heap[k]? = w.heap[k]?) : d.R e w1 base ok v xs :=
 R_mono (R_move (R_bound h) (fun k hk => hm k hk.1 hk.2.2.1)) (fun _ hk => hk.1)
theorem M_step {x : α} {cs : List Value} (h : d.M w base ok x cs) (hm : ∀ k, ok k → k < w.heap.size → w1.heap[k]? = w.heap[k]?) : d.M w1 base ok x cs :=
 d.M_mono (fun _ hk => hk.1) (d.M_move (fun k hk => hm k hk.1 hk.2.2.1) (d.M_bound h))
theorem R_below (h : d.R e w base ok v xs) (hb : Below w.heap.size w w1) : d.R e w1 base ok v xs := R_step h (fun k _ hk => hb.block k hk)
theorem M_below {x : α} {cs : List Value} (h : d.M w base ok x cs) (hb : Below w.heap.size w w1) : d.M w1 base ok x cs := M_step h (fun k _ hk => hb.block k hk)
theorem R_reads (h : d.R e w base ok v xs) : ∃ A c, v = .slice A xs.length c ∧ xs.length ≤ c ∧ d.C w A xs.length xs := by
 obtain ⟨A, c, he, hl, hr⟩ := OwnRow.reads h.2
 exact ⟨A, c, he, hl, hr.imp_ (Below.refl _ _) (fun _ _ hp => d.K_of_M hp)⟩
theorem R_slice (h : d.R e w base ok v xs) : ∃ A c, v = .slice A xs.length c := by
 obtain ⟨A, c, he, _⟩ := R_reads h
 exact ⟨A, c, he⟩
theorem R_own (h : d.R e w base ok v xs) : ∃ inner, ownsRow2 w base e d.sz v xs.length inner := by
 obtain ⟨_, inner, ho, _⟩ := h
 exact ⟨inner, ho⟩
end
def scalar {α : Type} (enc : α → Value) (h1 : ∀ x, (enc x).oneCell' = true) : Kd α where
 sz := 1
 E := []
 K := fun _ x cs => cs = [enc x]
 M := fun _ _ _ x cs => cs = [enc x]
 K_len := fun h => by rw [h]; rfl
 K_one := fun h u hu => by
  rw [h] at hu
  rw [List.mem_singleton.1 hu]
  exact h1 _
 K_below := fun _ h => h
 K_of_M := fun h => h
 M_mono := fun _ h => h
 M_bound := fun h => h
 M_move := fun _ h => h
 M_lower := fun _ h => h
def int (k : IntKind) : Kd Int := scalar (Value.int k) (fun _ => rfl)
def bool : Kd Bool := scalar Value.bool (fun _ => rfl)
def string : Kd ByteArray := scalar Value.string (fun _ => rfl)
def slice {α : Type} (e : Nat) (d : Kd α) : Kd (List α) where
 sz := 1
 E := e :: d.E
 K := fun w xs cs => ∃ A c, cs = [.slice A xs.length c] ∧ xs.length ≤ c ∧ d.C w A xs.length xs
 M := fun w base ok xs cs => ∃ v, cs = [v] ∧ d.R e w base ok v xs
 K_len := by
  rintro w x cs ⟨A, c, rfl, _⟩
  rfl
 K_one := by
  rintro w x cs ⟨A, c, rfl, _⟩ u hu
  rw [List.mem_singleton.1 hu]
  rfl
 K_below := by
  rintro w w1 x cs hb ⟨A, c, rfl, hl, hr⟩
  exact ⟨A, c, rfl, hl, C_below hr hb⟩
 K_of_M := by
  rintro w base ok x cs ⟨v, rfl, h⟩
  obtain ⟨A, c, rfl, hl, hr⟩ := R_reads h
  exact ⟨A, c, rfl, hl, hr⟩
 M_mono := by
  rintro w base ok ok' x cs hok ⟨v, rfl, h⟩
  exact ⟨v, rfl, R_mono h hok⟩
 M_bound := by
  rintro w base ok x cs ⟨v, rfl, h⟩
  exact ⟨v, rfl, R_bound h⟩
 M_move := by
  rintro w w1 base ok x cs hm ⟨v, rfl, h⟩
  exact ⟨v, rfl, R_move h hm⟩
 M_lower := by
  rintro w base base' ok x cs hb ⟨v, rfl, h⟩
  exact ⟨v, rfl, R_lower h hb⟩
def bot {α : Type} (sz : Nat) (E : List Nat) : Kd α where
 sz := sz
 E := E
 K := fun _ _ _ => False
 M := fun _ _ _ _ _ => False
 K_len := fun h => h.elim
 K_one := fun h => h.elim
 K_below := fun _ h => h
 K_of_M := fun h => h
 M_mono := fun _ h => h
 M_bound := fun h => h
 M_move := fun _ h => h
 M_lower := fun _ h => h
def upto {α : Type} (F : Kd α → Kd α) (sz : Nat) (E : List Nat) : Nat → Kd α
 | 0 => bot sz E
 | n + 1 => F (upto F sz E n)
theorem R_appended {α : Type} {d : Kd α} {e base : Nat} {ok okp : Nat → Prop} {W w1 : World} {v v1 : Value} {xs : List α} {p : α} {inner cs : List Value} (h0 : ∀ k, v.ownBlock = some k → ok k) (hr : Reps (d.M W base (fun k => ok k ∧ some k ≠ v.ownBlock)) d.sz xs inner) (hp : d.M W base okp p cs) (hokp : ∀ k, okp k → ok k ∧ some k ≠ v.ownBlock) (hfresh : ∀ k, W.heap.size ≤ k → ok k)
  (hown : ownsRow2 w1 base e d.sz v1 (xs.length + 1) (inner ++ cs)) (hg : W.grownBy w1 v.ownBlock) (hat : v1.ownBlock = v.ownBlock ∨ ∃ b, v1.ownBlock = some b ∧ W.heap.size ≤ b) : d.R e w1 base ok v1 (xs ++ [p]) := by
 have hne : ∀ k, some k ≠ v.ownBlock → k < W.heap.size → some k ≠ v1.ownBlock := by
  intro k hk hlt
  rcases hat with hat | ⟨b, hb, hle⟩
  ·rw [hat]; exact hk
  ·rw [hb]
   intro he
   injection he with he
   omega
 have step : ∀ {q : α} {c : List Value} {o : Nat → Prop}, d.M W base o q c → (∀ k, o k → ok k ∧ some k ≠ v.ownBlock) → d.M w1 base (fun k => ok k ∧ some k ≠ v1.ownBlock) q c := by
  intro q c o hq ho
  have h1 := d.M_move (w1 := w1) (fun k hk => hg.block k hk.2.2.1 (ho k hk.1).2) (d.M_bound hq)
  exact d.M_mono (fun k hk => ⟨(ho k hk.1).1, hne k (ho k hk.1).2 hk.2.2.1⟩) h1
 refine ⟨fun k hk => ?_, inner ++ cs, by rw [List.length_append, List.length_singleton]; exact hown, ?_⟩
 ·rcases hat with hat | ⟨b, hb, hle⟩
  ·exact h0 k (hat ▸ hk)
  ·rw [hb] at hk
   injection hk with hk
   exact hfresh k (by omega)
 ·exact (hr.imp_ (fun _ _ hq => step hq (fun _ hk => hk))).snoc (step hp hokp) (d.K_len (d.K_of_M hp))
section
variable {P : Program} {ops : Array Oper} {rest : List Oper} {o : Oper} {a : Act} {Q : Exit → Act → World → Prop} {α : Type}
theorem R_append (d : Kd α) {w0 W : World} (base : Nat) (hgd : o.guard = none) (s x : Operand) (t e : TypeId) (z : Value) (bytes : Nat)
  (ho : o.op = .call { callee := .builtin .append, args := #[s, x], argTypes := #[t, t] })
  (ht : P.underlying t = some (.slice e)) (hinfo : (P.info? e).map (fun i => (i.zero, i.size, i.bytes)) = some (some z, d.sz, bytes)) (hz : z.cells.size = d.sz) (hs0 : 0 < d.sz) (hb0 : 0 < bytes)
  (v : Value) (xs : List α) (p : α) (cs : List Value) (ok okp : Nat → Prop) (hs : a.eval s = v) (hx : a.eval x = .slice (some ⟨W.heap.size, 0, none⟩) 1 1) (hp : d.M W base okp p cs) (hokp : ∀ k, okp k → ok k ∧ some k ≠ v.ownBlock) (hfresh : ∀ k, W.heap.size ≤ k → ok k)
  (HO : d.R e W base ok v xs) (HB : Below base w0 W) (hbase : base ≤ W.heap.size) (hl : (xs.length + 1) * bytes ≤ 140737488355328)
  (h : ∀ v1 w1, d.R e w1 base ok v1 (xs ++ [p]) → Below base w0 w1 → W.grownBy w1 v.ownBlock → (v1.ownBlock = v.ownBlock ∨ ∃ b, v1.ownBlock = some b ∧ W.heap.size ≤ b) → wpList P ops Q rest (a.put o.dst v1) w1) :
  wpList P ops Q (o :: rest) a (W.alloc (.cells cs.toArray e)) := by
 obtain ⟨h0, inner, hown, hr⟩ := HO
 refine print_append_cells base hgd s x t e z d.sz bytes ho ht hinfo hz hs0 hb0 v xs.length inner cs hs hx (d.K_len (d.K_of_M hp)) (d.K_one (d.K_of_M hp)) hown HB hbase hl ?_
 intro v1 w1 hown1 hb1 hg1 hat1
 exact h v1 w1 (R_appended h0 hr hp hokp hfresh hown1 hg1 hat1) hb1 hg1 hat1
end
section
variable {P : Program} {ops : Array Oper} {o : Oper} {a : Act} {Q : Exit → Act → World → Prop} {Kc : Act → World → Prop} {α : Type}
end
theorem reps_scalar {α : Type} {enc : α → Value} (xs : List α) : Reps (fun (x : α) (cs : List Value) => cs = [enc x]) 1 xs (encs enc xs) := by
 refine ⟨by simp [encs], fun j p hj => ?_⟩
 obtain ⟨hl, hp⟩ := List.getElem?_eq_some_iff.1 hj
 have hl' : j < (encs enc xs).length := by rw [encs_length]; exact hl
 rw [Nat.mul_one, List.drop_eq_getElem_cons hl']
 simp [encs, hp]
theorem R_of_own {α : Type} {enc : α → Value} {h1 : ∀ x, (enc x).oneCell' = true} {e : Nat} {w : World} {base : Nat} {ok : Nat → Prop} {v : Value} {xs : List α} (ho : ownsRow2 w base e 1 v xs.length (encs enc xs)) (hok : ∀ k, v.ownBlock = some k → ok k) : (scalar enc h1).R e w base ok v xs := ⟨hok, encs enc xs, ho, reps_scalar xs⟩
theorem own_of_R {α : Type} {enc : α → Value} {h1 : ∀ x, (enc x).oneCell' = true} {e : Nat} {w : World} {base : Nat} {ok : Nat → Prop} {v : Value} {xs : List α} (h : (scalar enc h1).R e w base ok v xs) : ownsRow2 w base e 1 v xs.length (encs enc xs) := by
 obtain ⟨_, inner, ho, hr⟩ := h
 have : inner = encs enc xs := by
  apply List.ext_getElem?
  intro j
  rcases Nat.lt_or_ge j xs.length with hj | hj
  ·have h2 := hr.2 j _ (List.getElem?_eq_getElem hj)
   have hl : j < inner.length := by have := hr.1; simp [scalar] at this; omega
   have h3 : (inner.drop (j * 1)).take 1 = [enc xs[j]] := h2
   rw [Nat.mul_one, List.drop_eq_getElem_cons hl] at h3
   have h4 : inner[j] = enc xs[j] := by
    have h5 := congrArg List.head? h3
    rw [List.take_succ_cons] at h5
    exact Option.some.inj h5
   rw [List.getElem?_eq_getElem hl, h4]
   simp [encs, List.getElem?_eq_getElem hj]
  ·have h3 : inner.length = xs.length := by have := hr.1; simp [scalar] at this; omega
   rw [List.getElem?_eq_none (by omega), List.getElem?_eq_none (by rw [encs_length]; omega)]
 rw [← this]
 exact ho
theorem C_of_reads {α : Type} {enc : α → Value} {d : α} {h1 : ∀ x, (enc x).oneCell' = true} {w : World} {A : Option Addr} {n : Nat} {xs : List α} (h : ReadsOf enc d w A n xs) : (scalar enc h1).C w A n xs := by
 refine ⟨h.1, h.2.1, fun hn => ?_⟩
 obtain ⟨ad, e, hc⟩ := h.2.2 hn
 refine ⟨ad, e, fun j p hj => ⟨[enc p], rfl, rfl, fun i u hu => ?_⟩⟩
 obtain ⟨hl, hp⟩ := List.getElem?_eq_some_iff.1 hj
 have h2 := hc j (by have := h.1; omega)
 rw [List.getD_eq_getElem?_getD, hj] at h2
 cases i with
 | zero =>
  have : enc p = u := by simpa using hu
  subst this
  simpa [scalar] using h2
 | succ i => simp at hu
theorem reads_of_C {α : Type} {enc : α → Value} {d : α} {h1 : ∀ x, (enc x).oneCell' = true} {w : World} {A : Option Addr} {n : Nat} {xs : List α} (h : (scalar enc h1).C w A n xs) : ReadsOf enc d w A n xs := by
 refine ⟨h.1, h.2.1, fun hn => ?_⟩
 obtain ⟨ad, e, hc⟩ := h.2.2 hn
 refine ⟨ad, e, fun j hj => ?_⟩
 have hl : j < xs.length := by have := h.1; omega
 obtain ⟨c, _, hK, hcell⟩ := hc j _ (List.getElem?_eq_getElem hl)
 have hK' : c = [enc xs[j]] := hK
 subst hK'
 have := hcell 0 _ rfl
 simpa [scalar, List.getD_eq_getElem?_getD, List.getElem?_eq_getElem hl] using this
end Kd
namespace Kd
structure Mono {α β : Type} (F : Kd α → Kd β) : Prop where
 sz : ∀ d d' : Kd α, d.sz = d'.sz → (F d).sz = (F d').sz
 K : ∀ d d' : Kd α, d.sz = d'.sz → (∀ w x cs, d.K w x cs → d'.K w x cs) → ∀ w x cs, (F d).K w x cs → (F d').K w x cs
 M : ∀ d d' : Kd α, d.sz = d'.sz → (∀ w base ok x cs, d.M w base ok x cs → d'.M w base ok x cs) → ∀ w base ok x cs, (F d).M w base ok x cs → (F d').M w base ok x cs
section
variable {α : Type} {F : Kd α → Kd α} {sz : Nat} {E : List Nat} {hs : ∀ n, (upto F sz E n).sz = sz} {hE : ∀ n q, q ∈ (upto F sz E n).E → q ∈ E}
end
end Kd
namespace Kd
end Kd
namespace Kd
section
variable {α β : Type} {d : Kd α} {d' : Kd β} {e e' : Nat} {w w1 W : World} {base b b' : Nat} {ok ok' okv oku : Nat → Prop} {v u : Value} {xs : List α} {ys : List β}
theorem R_alloc (h : d.R e w base ok v xs) (o : Obj) : d.R e (w.alloc o) base ok v xs := R_below h (below_alloc (Below.refl _ _) o)
theorem R_drew (h : d.R e w base ok v xs) : d.R e w.drew base ok v xs := R_below h (below_drew (Below.refl _ _))
theorem R_drewN (h : d.R e w base ok v xs) (m : Nat) : d.R e (w.drewN m) base ok v xs := R_below h (pw_below_drewN (Below.refl _ _) m)
theorem C_alloc {A : Option Addr} {n : Nat} (h : d.C w A n xs) (o : Obj) : d.C (w.alloc o) A n xs := C_below h (below_alloc (Below.refl _ _) o)
theorem C_drew {A : Option Addr} {n : Nat} (h : d.C w A n xs) : d.C w.drew A n xs := C_below h (below_drew (Below.refl _ _))
theorem C_drewN {A : Option Addr} {n : Nat} (h : d.C w A n xs) (m : Nat) : d.C (w.drewN m) A n xs := C_below h (pw_below_drewN (Below.refl _ _) m)
theorem C_nil (d : Kd α) (w : World) : d.C w none ([] : List α).length [] := ⟨rfl, by simp, fun h => absurd h (Nat.lt_irrefl 0)⟩
theorem R_reads' {A : Option Addr} {n c : Nat} (h : d.R e w base ok (.slice A n c) xs) : n = xs.length ∧ n ≤ c ∧ d.C w A xs.length xs := by
 obtain ⟨A', c', he, hl, hr⟩ := R_reads h
 injection he with h1 h2 h3
 subst h1
 exact ⟨h2, by omega, hr⟩
theorem R_lt (h : d.R e w base ok v xs) : ∀ k, v.ownBlock = some k → k < w.heap.size := by
 obtain ⟨inner, ho⟩ := R_own h
 exact own_lt ho
theorem R_base (h : d.R e w base ok v xs) : ∀ k, v.ownBlock = some k → base ≤ k := by
 obtain ⟨inner, ho⟩ := R_own h
 exact own_base ho
theorem R_form (h : d.R e w base ok v xs) (hp : 0 < xs.length) : ∃ g cap, v = .slice (some ⟨g, 0, none⟩) xs.length cap ∧ base ≤ g ∧ g < w.heap.size ∧ ∃ cells, Blk w g cells e := by
 obtain ⟨inner, ho⟩ := R_own h
 obtain ⟨g, cap, he, hb, hl⟩ := ho.form hp
 obtain ⟨cells, hc⟩ := own_typed ho g (by rw [he]; simp [Value.ownBlock])
 exact ⟨g, cap, he, hb, hl, cells, hc⟩
end
section
variable {w W : World} {A : Option Addr} {n : Nat}
theorem at_int {k : IntKind} {xs : List Int} (h : (Kd.int k).C w A n xs) (i : Int) (h0 : 0 ≤ i) (h1 : i < n) : ∃ ad, A = some ad ∧ w.cell? (ad.add i.toNat) = some (.int k (rd xs i)) :=
 ReadsOf.at_ (reads_of_C (enc := Value.int k) (d := (0 : Int)) (h1 := fun _ => rfl) h) i h0 h1
variable {α : Type} {enc : α → Value} {h1 : ∀ x, (enc x).oneCell' = true} {e base g cap : Nat} {ok : Nat → Prop} {xs : List α}
theorem R_cell (d : α) (h : (scalar enc h1).R e W base ok (.slice (some ⟨g, 0, none⟩) xs.length cap) xs) (i : Int) (h0 : 0 ≤ i) (hi : i < xs.length) : W.cell? ⟨g, i.toNat, none⟩ = some (enc (rdOf d xs i)) ∧ W.frozen? ⟨g, i.toNat, none⟩ = false := own_at_of (own_of_R h) i h0 hi
theorem R_put (h : (scalar enc h1).R e W base ok (.slice (some ⟨g, 0, none⟩) xs.length cap) xs) (i : Int) (x : α) : (scalar enc h1).R e (W.setCell ⟨g, i.toNat, none⟩ (enc x)) base ok (.slice (some ⟨g, 0, none⟩) xs.length cap) (xs.set i.toNat x) ∧ W.grownBy (W.setCell ⟨g, i.toNat, none⟩ (enc x)) (some g) := by
 obtain ⟨ho, hg⟩ := own_store_of (own_of_R h) i x
 exact ⟨R_of_own (by rw [List.length_set]; exact ho) h.1, hg⟩
end
section
variable {P : Program} {ops : Array Oper} {rest : List Oper} {o : Oper} {a : Act} {Q : Exit → Act → World → Prop}
theorem event_run {W w1 : World} {v : Value} (hgd : o.guard = none) (hrun : (execOp a.eval o).run P W = .ok (.value v) w1) (h : wpList P ops Q rest (a.put o.dst v) w1) : wpList P ops Q (o :: rest) a W := by
 refine wpList_plain hgd fun K hK => ?_
 unfold Oper.wp
 rw [hrun]
 exact hK _ _ h
variable {α : Type}
theorem R_lit (d : Kd α) {w0 W : World} (base e : Nat) (hgd : o.guard = none) {N : Tmp} (_hd : o.dst = some N) {xs : List α} {inner : List Value} {ok okp : Nat → Prop}
  (hrun : (execOp a.eval o).run P W = .ok (.value (.slice (some ⟨W.heap.size, 0, none⟩) xs.length xs.length)) (W.alloc (.cells inner.toArray e)))
  (hrep : Reps (d.M W base okp) d.sz xs inner) (hok : ∀ k, okp k → ok k) (hfresh : ok W.heap.size) (HB : Below base w0 W) (hbase : base ≤ W.heap.size) (hm : xs.length ≤ 9223372036854775807)
  (h : ∀ v1 w1, d.R e w1 base ok v1 xs → Below base w0 w1 → W.grownBy w1 none → (∃ b, v1.ownBlock = some b ∧ W.heap.size ≤ b) → wpList P ops Q rest (a.put o.dst v1) w1) : wpList P ops Q (o :: rest) a W := by
 refine event_run hgd hrun (h _ _ ⟨fun k hk => ?_, inner, ?_, ?_⟩ (HB.alloc hbase _) (World.grownBy_alloc W _ none) ⟨W.heap.size, by simp [Value.ownBlock], Nat.le_refl _⟩)
 ·have : W.heap.size = k := by simpa [Value.ownBlock] using hk
  subst this
  exact hfresh
 ·have h2 := ownsRow2_lit (base := base) (e := e) (size := d.sz) W inner.toArray xs.length hbase (by simpa [maxLen] using hm) (by simpa using hrep.1)
  simpa using h2
 ·refine hrep.imp_ (fun p c hp => d.M_mono (fun k hk => ⟨hok k hk.1, fun he => ?_⟩) (M_below (d.M_bound hp) (below_alloc (Below.refl _ _) _)))
  have h3 : k = W.heap.size := by simpa [Value.ownBlock] using he
  have := hk.2.2.1
  omega
theorem reps_made {α : Type} {R : α → List Value → Prop} {z : Value} {size : Nat} {z0 : α} (hz : z.cells.size = size) (hs : 0 < size) (h0 : R z0 z.cells.toList) (m : Nat) : Reps R size (List.replicate m z0) (madeCells z.cells (m * size)).toList := by
 refine ⟨by simp [size_madeCells], fun j p hj => ?_⟩
 obtain ⟨hjl, hp⟩ := List.getElem?_eq_some_iff.1 hj
 have hjm : j < m := by simpa using hjl
 have hp' : z0 = p := by simpa using hp
 subst hp'
 have hle : j * size + size ≤ m * size := by rw [← Nat.succ_mul]; exact Nat.mul_le_mul_right _ hjm
 have : ((madeCells z.cells (m * size)).toList.drop (j * size)).take size = z.cells.toList := by
  apply List.ext_getElem
  ·simp [size_madeCells, hz]
   omega
  ·intro i h1 h2
   have hi : i < size := by rw [Array.length_toList, hz] at h2; exact h2
   have hmod : (j * size + i) % size = i := by
    rw [Nat.mul_comm, Nat.mul_add_mod]
    exact Nat.mod_eq_of_lt hi
   simp [madeCells, hz, hmod]
   rw [getElem!_pos z.cells i (by omega)]
 rw [this]
 exact h0
theorem R_make (d : Kd α) {w0 W : World} (base e : Nat) (hgd : o.guard = none) {N : Tmp} (hd : o.dst = some N) (t : TypeId) (x y : Operand) (ho : o.op = .makeSlice t x y) (n : Int) (hx : a.eval x = .int .i64 n) (hy : a.eval y = .int .i64 n)
  (ht : P.underlying t = some (.slice e)) (z : Value) (bytes : Nat) (hinfo : (P.info? e).map (fun i => (i.zero, i.size, i.bytes)) = some (some z, d.sz, bytes)) (hz : z.cells.size = d.sz) (hs0 : 0 < d.sz) (hb0 : 0 < bytes)
  (z0 : α) {ok okp : Nat → Prop} (hzero : d.M W base okp z0 z.cells.toList) (hok : ∀ k, okp k → ok k) (hfresh : ok W.heap.size) (h0 : 0 ≤ n) (hl : n.toNat * bytes ≤ 281474976710656) (HB : Below base w0 W) (hbase : base ≤ W.heap.size)
  (h : ∀ v1 w1, d.R e w1 base ok v1 (List.replicate n.toNat z0) → Below base w0 w1 → W.grownBy w1 none → (∃ b, v1.ownBlock = some b ∧ W.heap.size ≤ b) → wpList P ops Q rest (a.put o.dst v1) w1) : wpList P ops Q (o :: rest) a W := by
 obtain ⟨m, rfl⟩ := Int.eq_ofNat_of_zero_le h0
 simp only [Int.toNat_natCast] at hl h
 obtain ⟨i0, hi, hzz⟩ := Option.map_eq_some_iff.1 hinfo
 simp only [Prod.mk.injEq] at hzz
 obtain ⟨hz0, hz1, hz2⟩ := hzz
 have hm : m ≤ 281474976710656 := Nat.le_trans (Nat.le_mul_of_pos_right _ hb0) hl
 have hr := run_make (P := P) W t e i0 z ht hi hz0 .i64 .i64 (m : Int) (m : Int) (by omega) (by omega)
  (by
   have h3 : ((i0.bytes * m : Nat) : Int) ≤ 281474976710656 := by rw [hz2, Nat.mul_comm]; omega
   rwa [Int.natCast_mul] at h3) (by omega)
 simp only [Int.toNat_natCast] at hr
 rw [hz1] at hr
 refine R_lit d base e hgd hd (xs := List.replicate m z0) (inner := (madeCells z.cells (m * d.sz)).toList) (okp := okp) (ok := ok) ?_ (reps_made hz hs0 hzero m) hok hfresh HB hbase (by simp; omega) h
 simp [execOp, ho, hx, hy, hr]
end
end Kd
theorem own_take {w : World} {base n m c size : Nat} {e : TypeId} {A : Option Addr} {xs : List Value} (h : ownsRow2 w base e size (.slice A n c) n xs) (hm : m ≤ n) : ownsRow2 w base e size (.slice A m c) m (xs.take (m * size)) := by
 obtain ⟨h1, h2⟩ := h
 refine ⟨by rw [List.length_take, h1]; exact Nat.min_eq_left (Nat.mul_le_mul_right _ hm), ?_⟩
 rcases h2 with ⟨he, h0⟩ | ⟨g, cap, cur, he, hb, ⟨fz, hh, hfz⟩, hnc, hcm, hcs, ht⟩
 ·injection he with ha _ hc
  subst ha; subst hc
  exact .inl ⟨by rw [show m = 0 by omega], by omega⟩
 ·injection he with ha _ hc
  subst ha; subst hc
  refine .inr ⟨g, c, cur, rfl, hb, ⟨fz, hh, hfz⟩, by omega, hcm, hcs, ?_⟩
  rw [← ht, List.take_take, Nat.min_eq_left (Nat.mul_le_mul_right _ hm)]
section
variable {P : Program}
theorem cut_to (t e : TypeId) (kh : IntKind) {i : TypeInfo} (ht : P.underlying t = some (.slice e)) (hi : P.info? e = some i) (A : Option Addr) (n c : Nat) (j : Int) (h0 : 0 ≤ j) (hm : j ≤ n) (hc : n ≤ c) :
  ∀ W : World, (Instr.slice t (.slice A n c) none (some (.int kh j)) none).run P W = .ok (.slice A j.toNat c) W := by
 intro W
 have hel : P.elem t = e := by simp [Program.elem, ht]
 have hu : P.underlying t = some (.slice (P.elem t)) := by rw [hel]; exact ht
 have ha : (A.map fun x => x.add 0) = A := by cases A <;> simp [Addr.add]
 rw [run_slice_h W t A n c hu kh j h0 (by omega), hel]
 simp [sizeOf, typeInfo, hi, sliced, Result.andThen, ha]
theorem cut_from (t e : TypeId) (kl : IntKind) {i : TypeInfo} (ht : P.underlying t = some (.slice e)) (hi : P.info? e = some i) (size : Nat) (hsz : i.size = size) (A : Option Addr) (n c : Nat) (j : Int) (h0 : 0 ≤ j) (hm : j ≤ n) :
  ∀ W : World, (Instr.slice t (.slice A n c) (some (.int kl j)) none none).run P W = .ok (.slice (if c = j.toNat then A else A.map (·.add (j.toNat * size))) (n - j.toNat) (c - j.toNat)) W := by
 intro W
 have hel : P.elem t = e := by simp [Program.elem, ht]
 have hu : P.underlying t = some (.slice (P.elem t)) := by rw [hel]; exact ht
 rw [run_slice_l W t A n c hu kl j h0 hm, hel]
 simp [sizeOf, typeInfo, hi, hsz, sliced, Result.andThen]
end
def QRow (w : World) (base : Nat) (e : TypeId) (size : Nat) (v : Value) (n : Nat) (xs : List Value) : Prop :=
  xs.length = n * size ∧
  ((n = 0 ∧ ∃ A, v = .slice A 0 0 ∧ ∀ a, A = some a → base ≤ a.block ∧ ∃ cur, Blk w a.block cur e) ∨
   ∃ g off cap cur, v = .slice (some ⟨g, off * size, none⟩) n cap ∧ base ≤ g ∧ Blk w g cur e ∧ n ≤ cap ∧ off + cap ≤ maxLen ∧ (off + cap) * size ≤ cur.size ∧ (cur.toList.drop (off * size)).take (n * size) = xs)
section
variable {w w1 : World} {base n size : Nat} {e : TypeId} {v : Value} {xs : List Value}
theorem q_of_own (h : ownsRow2 w base e size v n xs) : QRow w base e size v n xs := by
 obtain ⟨h1, h2⟩ := h
 refine ⟨h1, ?_⟩
 rcases h2 with ⟨rfl, h0⟩ | ⟨g, cap, cur, rfl, hb, ⟨fz, hh, hfz⟩, hnc, hcm, hcs, ht⟩
 ·exact .inl ⟨h0, none, rfl, fun a ha => by cases ha⟩
 ·exact .inr ⟨g, 0, cap, cur, by rw [Nat.zero_mul], hb, ⟨fz, hh, hfz⟩, hnc, by rw [Nat.zero_add]; exact hcm, by rw [Nat.zero_add]; exact hcs, by rw [Nat.zero_mul, List.drop_zero]; exact ht⟩
theorem add_at (g o j : Nat) : (⟨g, o, none⟩ : Addr).add j = ⟨g, o + j, none⟩ := by unfold Addr.add; split <;> simp_all
theorem setCells_far {g : Nat} : ∀ (vs : List Value) (o : Nat) {w : World} (k : Nat), k ≠ g → (w.setCells g o vs).heap[k]? = w.heap[k]?
 | [], _, _, _, _ => rfl
 | v :: r, o, w, k, hk => by
  rw [World.setCells, setCells_far r (o + 1) k hk]
  exact Below.heap_setCell w ⟨g, o, none⟩ v k hk
theorem setCells_same (g : Nat) : ∀ (vs : List Value) (o : Nat) (w : World), (w.setCells g o vs).os = w.os ∧ (w.setCells g o vs).tape = w.tape ∧ (w.setCells g o vs).output = w.output ∧ (w.setCells g o vs).heap.size = w.heap.size
 | [], _, _ => ⟨rfl, rfl, rfl, rfl⟩
 | v :: r, o, w => by
  obtain ⟨h1, h2, h3, h4⟩ := setCells_same g r (o + 1) (w.setCell ⟨g, o, none⟩ v)
  rw [World.setCells]
  exact ⟨h1, h2, h3, by rw [h4]; simp [World.setCell]⟩
end
section
variable {P : Program}
end
namespace Kd
theorem reps_take {α : Type} {R : α → List Value → Prop} {size m : Nat} {ps : List α} {cs : List Value} (h : Reps R size ps cs) (hm : m ≤ ps.length) : Reps R size (ps.take m) (cs.take (m * size)) := by
 refine ⟨by rw [List.length_take, List.length_take, h.1, Nat.min_eq_left hm, Nat.min_eq_left (Nat.mul_le_mul_right _ hm)], fun j p hj => ?_⟩
 rw [List.getElem?_take] at hj
 split at hj
 ·rename_i hjm
  have := h.2 j p hj
  have hle : j * size + size ≤ m * size := by rw [← Nat.succ_mul]; exact Nat.mul_le_mul_right _ hjm
  rw [List.drop_take, List.take_take, Nat.min_eq_left (by omega)]
  exact this
 ·cases hj
theorem R_take {α : Type} {d : Kd α} {e m n c : Nat} {w : World} {base : Nat} {ok : Nat → Prop} {A : Option Addr} {xs : List α} (h : d.R e w base ok (.slice A n c) xs) (hm : m ≤ xs.length) : d.R e w base ok (.slice A m c) (xs.take m) := by
 obtain ⟨h0, inner, ho, hr⟩ := h
 have hn : n = xs.length := by
  obtain ⟨A', c', he⟩ := own_slice ho
  injection he
 subst hn
 have hb : ∀ x y : Nat, (Value.slice A x c).ownBlock = (Value.slice A y c).ownBlock := by
  intro x y
  cases A <;> rfl
 refine ⟨fun k hk => h0 k (by rw [hb _ m]; exact hk), inner.take (m * d.sz), ?_, ?_⟩
 ·rw [List.length_take, Nat.min_eq_left hm]
  exact own_take ho hm
 ·rw [hb m xs.length]
  exact reps_take hr hm
def Q {α : Type} (d : Kd α) (e : Nat) (w : World) (base : Nat) (ok : Nat → Prop) (v : Value) (xs : List α) : Prop :=
 (∀ k, v.ownBlock = some k → ok k) ∧ ∃ inner, QRow w base e d.sz v xs.length inner ∧ Reps (d.M w base (fun k => ok k ∧ some k ≠ v.ownBlock)) d.sz xs inner
section
variable {α : Type} {d : Kd α} {e : Nat} {w w1 W : World} {base : Nat} {ok ok' : Nat → Prop} {v : Value} {xs : List α}
theorem Q_of_R (h : d.R e w base ok v xs) : d.Q e w base ok v xs := by
 obtain ⟨h0, inner, ho, hr⟩ := h
 exact ⟨h0, inner, q_of_own ho, hr⟩
theorem Q_nil (d : Kd α) (e : Nat) (w : World) (base : Nat) (ok : Nat → Prop) : d.Q e w base ok (.slice none 0 0) [] := Q_of_R (R_nil d e w base ok)
end
section
variable {P : Program} {ops : Array Oper} {rest : List Oper} {o : Oper} {a : Act} {Q' : Exit → Act → World → Prop} {Kc : Act → World → Prop} {α : Type}
end
end Kd
namespace Kd
section
variable {α : Type} {d : Kd α} {e e' : Nat} {w w1 W : World} {base : Nat} {ok : Nat → Prop} {u v : Value} {xs : List α}
theorem R_typed (h : d.R e w base ok v xs) : ∀ k, v.ownBlock = some k → ∃ cells, Blk w k cells e := by
 obtain ⟨inner, ho⟩ := R_own h
 exact fun k hk => own_typed ho k hk
theorem R_over' (h : d.R e W base ok u xs) (hty : ∀ k, v.ownBlock = some k → ∃ cells, Blk W k cells e') (ht : ∀ q, q ∈ e :: d.E → q ≠ e') (hg : W.grownBy w1 v.ownBlock) : d.R e w1 base ok u xs := by
 refine R_mono (R_move (R_bound h) (fun k hk => hg.block k hk.2.2.1 (fun he => ?_))) (fun _ hk => hk.1)
 obtain ⟨_, _, _, q, hq, cells, hc⟩ := hk
 obtain ⟨cells', hc'⟩ := hty k he.symm
 replace hc' := hc.same hc'
 exact ht q hq hc'
theorem R_apart' (h : d.R e W base ok u xs) (hty : ∀ k, v.ownBlock = some k → ∃ cells, Blk W k cells e') (ht : ∀ q, q ∈ e :: d.E → q ≠ e') : d.R e W base (fun k => ok k ∧ some k ≠ v.ownBlock) u xs := by
 refine R_mono (R_bound h) (fun k hk => ⟨hk.1, fun he => ?_⟩)
 obtain ⟨_, _, _, q, hq, cells, hc⟩ := hk
 obtain ⟨cells', hc'⟩ := hty k he.symm
 replace hc' := hc.same hc'
 exact ht q hq hc'
theorem R_elder' (hu : d.R e W base ok u xs) (hbase : ∀ k, v.ownBlock = some k → W.heap.size ≤ k) (hb : Below W.heap.size W w1) : d.R e w1 base (fun k => ok k ∧ some k ≠ v.ownBlock) u xs :=
 R_mono (R_move (R_bound hu) (fun k hk => hb.block k hk.2.2.1)) (fun k hk => ⟨hk.1, fun he => by have := hbase k he.symm; have := hk.2.2.1; omega⟩)
theorem R_new' (h : d.R e w1 W.heap.size ok v xs) (hlt : ∀ k, u.ownBlock = some k → k < W.heap.size) : d.R e w1 W.heap.size (fun k => ok k ∧ some k ≠ u.ownBlock) v xs :=
 R_mono (R_bound h) (fun k hk => ⟨hk.1, fun he => by have := hlt k he.symm; have := hk.2.1; omega⟩)
end
end Kd
namespace Kd
section
variable {α : Type} {d : Kd α} {e base g n cap : Nat} {ok okp : Nat → Prop} {W : World} {xs : List α}
end
end Kd
namespace Kd
section
variable {α : Type} {F : Kd α → Kd α} {sz : Nat} {E : List Nat} {hs : ∀ n, (upto F sz E n).sz = sz} {hE : ∀ n q, q ∈ (upto F sz E n).E → q ∈ E}
end
end Kd
namespace Kd
section
variable {P : Program} {ops : Array Oper} {rest : List Oper} {o : Oper} {a : Act} {Q : Exit → Act → World → Prop} {α : Type}
theorem R_copy {enc : α → Value} {h1 : ∀ x, (enc x).oneCell' = true} (d : α) {w0 W : World} (base : Nat) (hgd : o.guard = none) (s x : Operand) (t t' e : TypeId)
  (ho : o.op = .call { callee := .builtin .copy, args := #[s, x], argTypes := #[t, t'] }) (ht : P.underlying t = some (.slice e)) (hinfo : (P.info? e).map (·.size) = some 1)
  (v : Value) (xs ys : List α) (A : Option Addr) (m c : Nat) (ok : Nat → Prop) (hs : a.eval s = v) (hx : a.eval x = .slice A m c)
  (HO : (scalar enc h1).R e W base ok v xs) (HR : (scalar enc h1).C W A m ys) (HB : Below base w0 W) (hbase : base ≤ W.heap.size)
  (h : ∀ w1, (scalar enc h1).R e w1 base ok v (ys.take (min m xs.length) ++ xs.drop (min m xs.length)) → Below base w0 w1 → W.grownBy w1 v.ownBlock → wpList P ops Q rest (a.put o.dst (.int .i64 ((min m xs.length : Nat) : Int))) w1) :
  wpList P ops Q (o :: rest) a W := by
 have hR := reads_of_C (enc := enc) (d := d) (h1 := h1) HR
 have hm : ys.length = m := hR.1
 have hown := own_of_R HO
 have fin : ∀ w1, (Builtin.copy_ #[t, t'] o.type #[v, .slice A m c]).run P W = .ok (goInt ((min m xs.length : Nat) : Int)) w1 → (scalar enc h1).R e w1 base ok v (ys.take (min m xs.length) ++ xs.drop (min m xs.length)) → W.grownBy w1 v.ownBlock → wpList P ops Q (o :: rest) a W := by
  intro w1 hr hrow hg
  refine wpList_plain hgd fun K hK => ?_
  unfold Oper.wp execOp
  simp only [ho, resolve, invoke, builtin, Sem.run_bind, Sem.run_pure, Result.andThen_ok, List.map_toArray, List.map_cons, List.map_nil, hs, hx, hr]
  exact hK _ _ (h w1 hrow (HB.grown hg hbase (own_base hown)) hg)
 rcases Nat.eq_zero_or_pos (min m xs.length) with h0 | hp
 ·obtain ⟨A', c', hv⟩ := own_slice hown
  refine fin W ?_ (by rw [h0, List.take_zero, List.drop_zero, List.nil_append]; exact HO) (World.grownBy.refl W _)
  rw [h0, hv]
  exact run_copy_none W t t' o.type e A' A xs.length c' m c ht hinfo h0
 ·obtain ⟨ad, hA, hc⟩ := hR.2.2 (by omega)
  rcases hown.2 with ⟨_, hx0⟩ | ⟨g, cap, cur, hv, hb, ⟨fz, hh, hfz⟩, hnc, hcm, hcs, htake⟩
  ·omega
  have hcs1 : cap ≤ cur.size := by omega
  have hsrc : ∀ j u, (encs enc (ys.take (min m xs.length)))[j]? = some u → W.cell? (ad.add j) = some u := by
   intro j u hu
   have hj : j < (ys.take (min m xs.length)).length := by
    rcases Nat.lt_or_ge j (ys.take (min m xs.length)).length with h | h
    ·exact h
    ·rw [List.getElem?_eq_none (by rw [encs_length]; exact h)] at hu
     cases hu
   have hjm : j < min m xs.length := by rw [List.length_take] at hj; omega
   rw [encs_get (d := d) _ j hj] at hu
   rw [hc j (by omega), ← hu]
   simp [List.getD_eq_getElem?_getD, hjm]
  have hkl : (encs enc (ys.take (min m xs.length))).length = min m xs.length := by rw [encs_length, List.length_take]; omega
  have hr := run_copy_cells (P := P) W t t' o.type e g 0 xs.length cap ad m c (encs enc (ys.take (min m xs.length))) ht hinfo (by rw [hkl]) hsrc
   (fun j hj => by rw [cell_of_row W g _ cur e fz hh]; simp; omega) (fun j hj => fine_frozen hh hfz (by omega)) (by intro u hu; simp only [encs, List.mem_map] at hu; obtain ⟨q, _, rfl⟩ := hu; exact h1 q)
  obtain ⟨cur', h3, h4, h5⟩ := heap_puts (encs enc (ys.take (min m xs.length))) 0 W cur hh (by rw [hkl]; omega)
  obtain ⟨s1, s2, s3, s4⟩ := setCells_same g (encs enc (ys.take (min m xs.length))) 0 W
  refine fin _ (by rw [hv, hA, hr, hkl]) (R_of_own ?_ HO.1) ⟨s1, s2, s3, by rw [s4]; exact Nat.le_refl _, fun k _ hk => setCells_far _ _ k (fun he => hk (by rw [hv, he]; simp [Value.ownBlock]))⟩
  have hln : (ys.take (min m xs.length) ++ xs.drop (min m xs.length)).length = xs.length := by
   rw [List.length_append, List.length_take, List.length_drop]
   omega
  rw [hln]
  refine ⟨by rw [encs_length, hln, Nat.mul_one], .inr ⟨g, cap, cur', hv, hb, ⟨fz, h3, by rw [h4]; exact hfz⟩, hnc, hcm, by rw [h4]; exact hcs, ?_⟩⟩
  rw [h5, List.take_zero, List.nil_append, hkl, Nat.zero_add, encs_append, Nat.mul_one]
  rw [List.take_append, hkl, List.take_of_length_le (by rw [hkl]; omega)]
  congr 1
  have htk : cur.toList.take xs.length = encs enc xs := by rw [← htake, Nat.mul_one]
  have hd : encs enc (xs.drop (min m xs.length)) = (encs enc xs).drop (min m xs.length) := by simp [encs, List.map_drop]
  rw [hd, ← htk, List.drop_take]
end
end Kd
namespace Kd
section
variable {P : Program} {ops : Array Oper} {rest : List Oper} {o : Oper} {a : Act} {Q : Exit → Act → World → Prop} {α : Type}
end
end Kd
namespace Kd
section
variable {α : Type} {k : Kd α} {w : World} {A : Option Addr} {xs : List α} {m c : Nat}
end
end Kd
section
variable {P : Program}
end
theorem below_size {w W : World} (h : Below w.heap.size w W) : w.heap.size ≤ W.heap.size := h.size
theorem below_step {w W w2 : World} (h : Below w.heap.size w W) (k : Below W.heap.size W w2) : Below w.heap.size w w2 := below_then h h.size k
theorem ReadsInt.nil (W : World) (k : IntKind) : ReadsInt W k none ([] : List Int).length [] := ⟨rfl, by simp, fun h => absurd h (Nat.lt_irrefl 0)⟩
theorem ReadsInt.drewN {W : World} {k : IntKind} {A : Option Addr} {n : Nat} {xs : List Int} (h : ReadsInt W k A n xs) (m : Nat) : ReadsInt (W.drewN m) k A n xs := h
theorem below_set {w W : World} {g j : Nat} {v : Value} (h : Below w.heap.size w W) (hg : w.heap.size ≤ g) : Below w.heap.size w (W.setCell ⟨g, j, none⟩ v) := h.setCell hg _
theorem ReadsOf.nil {α : Type} (enc : α → Value) (d : α) (W : World) : ReadsOf enc d W none ([] : List α).length [] := ⟨rfl, by simp, fun h => absurd h (Nat.lt_irrefl 0)⟩
theorem ReadsOf.drewN {α : Type} {enc : α → Value} {d : α} {W : World} {A : Option Addr} {n : Nat} {xs : List α} (h : ReadsOf enc d W A n xs) (m : Nat) : ReadsOf enc d (W.drewN m) A n xs := h
theorem below_drew1 {base : Nat} {w W : World} (h : Below base w W) : Below base w W.drew := h.drew
namespace Kd
section
variable {α β : Type} {d : Kd α} {d' : Kd β} {e e' base base' n : Nat} {ok ok' : Nat → Prop} {w W w1 W1 : World} {v u : Value} {xs : List α} {ys : List β} {A : Option Addr} {c : Nat}
end
section
variable {α : Type} {enc : α → Value} {h1 : ∀ x, (enc x).oneCell' = true} {w W : World} {A : Option Addr} {n g : Nat} {xs : List α}
end
end Kd
namespace Kd
section
variable {α : Type} {d : Kd α} {e base g : Nat} {ok : Nat → Prop} {w w1 : World} {v : Value} {xs : List α} {o : Obj}
end
end Kd
section
variable {P : Program} {ops : Array Oper} {rest : List Oper} {o : Oper} {a : Act} {Q : Exit → Act → World → Prop}
end
namespace Kd
section
variable {α : Type} {enc : α → Value} {h1 : ∀ x, (enc x).oneCell' = true} {e base g n cap : Nat} {ok : Nat → Prop} {W : World} {xs : List α}
theorem R_celln (d : α) (h : (scalar enc h1).R e W base ok (.slice (some ⟨g, 0, none⟩) n cap) xs) (i : Int) (h0 : 0 ≤ i) (hi : i < n) : W.cell? ⟨g, i.toNat, none⟩ = some (enc (rdOf d xs i)) ∧ W.frozen? ⟨g, i.toNat, none⟩ = false := by
 obtain ⟨rfl, _⟩ := R_reads' h
 exact R_cell d h i h0 hi
theorem R_putn (h : (scalar enc h1).R e W base ok (.slice (some ⟨g, 0, none⟩) n cap) xs) (i : Int) (x : α) : (scalar enc h1).R e (W.setCell ⟨g, i.toNat, none⟩ (enc x)) base ok (.slice (some ⟨g, 0, none⟩) n cap) (xs.set i.toNat x) := by
 obtain ⟨rfl, _⟩ := R_reads' h
 exact (R_put h i x).1
end
end Kd
section
variable {P : Program} {ops : Array Oper} {rest : List Oper} {o : Oper} {a : Act} {Q : Exit → Act → World → Prop}
theorem store_event {W w1 : World} (hgd : o.guard = none) {t : TypeId} {p : Tmp} {v : Operand} (_ho : o.op = .store t (.tmp p) v) (hN : o.dst = none)
  (hrun : (execOp a.eval o).run P W = .ok .skip w1) (h : ∀ w', w' = w1 → wpList P ops Q rest a w') : wpList P ops Q (o :: rest) a W := by
 refine wpList_plain hgd fun K hK => ?_
 unfold Oper.wp
 rw [hrun]
 show K (a.put o.dst undef) w1
 rw [hN]
 exact hK _ _ (h _ rfl)
end
namespace Kd
section
variable {α : Type} {enc : α → Value} {h1 : ∀ x, (enc x).oneCell' = true} {e base g n cap : Nat} {ok : Nat → Prop} {W : World} {xs : List α}
theorem R_putg (h : (scalar enc h1).R e W base ok (.slice (some ⟨g, 0, none⟩) n cap) xs) (i : Int) (x : α) : (scalar enc h1).R e (W.setCell ⟨g, i.toNat, none⟩ (enc x)) base ok (.slice (some ⟨g, 0, none⟩) n cap) (xs.set i.toNat x) ∧ W.grownBy (W.setCell ⟨g, i.toNat, none⟩ (enc x)) (some g) := by
 obtain ⟨rfl, _⟩ := R_reads' h
 exact R_put h i x
end
end Kd
section
variable {P : Program} {ops : Array Oper} {rest : List Oper} {o : Oper} {a : Act} {Q : Exit → Act → World → Prop} {W : World}
theorem gate_dst {N : Tmp} (_hN : o.dst = some N) (h : wpList P ops Q (o :: rest) a W) : wpList P ops Q (o :: rest) a W := h
theorem gate_store {t : TypeId} {p : Tmp} {v : Operand} (_ho : o.op = .store t (.tmp p) v) (h : wpList P ops Q (o :: rest) a W) : wpList P ops Q (o :: rest) a W := h
end
section
variable {P : Program} {ops : Array Oper} {o : Oper} {a : Act} {Q : Exit → Act → World → Prop} {Kc : Act → World → Prop}
namespace Kd
variable {α : Type}
end Kd
end
inductive Vals (P : Program) (tmps : Array Value) (w : World) : List ResultVar → List Value → Prop where
 | nil : Vals P tmps w [] []
 | tmp {u : Tmp} {rs : List ResultVar} {vs : List Value} (h : Vals P tmps w rs vs) : Vals P tmps w (.tmp u :: rs) (tmps.getD u undef :: vs)
 | cell {p : Tmp} {ty : TypeId} {rs : List ResultVar} {vs : List Value} (g : Nat) (t : TypeId) (cs : Array Value) (fr : Nat × Nat) (d : TypeDesc)
   (hp : tmps.getD p undef = .pointer (some ⟨g, 0, none⟩)) (hg : w.heap[g]? = some (.cells cs t fr))
   (hu : P.underlying ty = some d) (hd : (match d with | .struct _ | .array _ _ => true | _ => false) = true) (hi : (P.info? ty).map (·.size) = some cs.size)
   (h : Vals P tmps w rs vs) : Vals P tmps w (.cell p ty :: rs) (.agg cs :: vs)
section
variable {P : Program} {tmps : Array Value} {w : World}
end
namespace Kd
section
variable {P : Program} {α : Type}
end
section
variable {P : Program} {ops : Array Oper} {rest : List Oper} {o : Oper} {a : Act} {Q : Exit → Act → World → Prop} {Kc : Act → World → Prop} {α : Type}
end
end Kd
def Ws (xs : List Int) : Prop := ∀ x ∈ xs, 0 ≤ x ∧ x < 18446744073709551616
def nv : List Int → Int
 | [] => 0
 | x :: xs => x + 18446744073709551616 * nv xs
theorem Ws.nil : Ws [] := fun _ h => by cases h
theorem Ws.cons {x : Int} {xs : List Int} (h0 : 0 ≤ x) (h1 : x < 18446744073709551616) (h : Ws xs) : Ws (x :: xs) := by
 intro y hy
 rcases List.mem_cons.1 hy with rfl | hy
 ·exact ⟨h0, h1⟩
 ·exact h y hy
theorem Ws.head {x : Int} {xs : List Int} (h : Ws (x :: xs)) : 0 ≤ x ∧ x < 18446744073709551616 := h x (List.mem_cons_self)
theorem Ws.tail {x : Int} {xs : List Int} (h : Ws (x :: xs)) : Ws xs := fun y hy => h y (List.mem_cons_of_mem _ hy)
theorem Ws.append {xs ys : List Int} (h : Ws xs) (k : Ws ys) : Ws (xs ++ ys) := by
 intro y hy
 rcases List.mem_append.1 hy with hy | hy
 ·exact h y hy
 ·exact k y hy
theorem Ws.left {xs ys : List Int} (h : Ws (xs ++ ys)) : Ws xs := fun y hy => h y (List.mem_append_left _ hy)
theorem Ws.take {xs : List Int} (h : Ws xs) (n : Nat) : Ws (xs.take n) := fun y hy => h y (List.mem_of_mem_take hy)
theorem Ws.drop {xs : List Int} (h : Ws xs) (n : Nat) : Ws (xs.drop n) := fun y hy => h y (List.mem_of_mem_drop hy)
theorem Ws.zeros (n : Nat) : Ws (List.replicate n 0) := by
 intro y hy
 have := List.eq_of_mem_replicate hy
 omega
theorem Ws.set {xs : List Int} (h : Ws xs) (n : Nat) {v : Int} (h0 : 0 ≤ v) (h1 : v < 18446744073709551616) : Ws (xs.set n v) := by
 intro y hy
 rcases List.mem_or_eq_of_mem_set hy with hy | rfl
 ·exact h y hy
 ·exact ⟨h0, h1⟩
theorem Ws.getD {xs : List Int} (h : Ws xs) (n : Nat) : 0 ≤ xs.getD n 0 ∧ xs.getD n 0 < 18446744073709551616 := by
 rw [List.getD_eq_getElem?_getD]
 cases e : xs[n]? with
 | none => simp
 | some v => simpa using h v (List.mem_of_getElem? e)
theorem nv_nil : nv [] = 0 := rfl
theorem nv_cons (x : Int) (xs : List Int) : nv (x :: xs) = x + 18446744073709551616 * nv xs := rfl
theorem nv_nonneg {xs : List Int} (h : Ws xs) : 0 ≤ nv xs := by
 induction xs with
 | nil => simp [nv]
 | cons x xs ih =>
  have h1 := ih h.tail
  have h2 := h.head
  rw [nv_cons]; omega
theorem pow64 (n : Nat) : (2 : Int) ^ (64 * (n + 1)) = 18446744073709551616 * 2 ^ (64 * n) := by
 rw [show 64 * (n + 1) = 64 + 64 * n from by omega, Int.pow_add]
 rfl
theorem two_pow_pos (n : Nat) : 0 < (2 : Int) ^ n := Int.pow_pos (by omega)
theorem nv_lt {xs : List Int} (h : Ws xs) : nv xs < 2 ^ (64 * xs.length) := by
 induction xs with
 | nil => simp [nv]
 | cons x xs ih =>
  have h1 := ih h.tail
  have h2 := h.head
  rw [nv_cons, List.length_cons, pow64]
  omega
theorem nv_append (xs ys : List Int) : nv (xs ++ ys) = nv xs + 2 ^ (64 * xs.length) * nv ys := by
 induction xs with
 | nil => simp [nv]
 | cons x xs ih =>
  rw [List.cons_append, nv_cons, nv_cons, ih, List.length_cons, pow64]
  grind
theorem nv_zeros (n : Nat) : nv (List.replicate n 0) = 0 := by
 induction n with
 | zero => rfl
 | succ n ih => rw [List.replicate_succ, nv_cons, ih]; rfl
theorem nv_set {xs : List Int} {n : Nat} (h : n < xs.length) (v : Int) : nv (xs.set n v) = nv xs + (v - xs.getD n 0) * 2 ^ (64 * n) := by
 induction xs generalizing n with
 | nil => simp at h
 | cons x xs ih =>
  cases n with
  | zero => simp [nv]; omega
  | succ n =>
   have := ih (n := n) (by simpa using h)
   rw [List.set_cons_succ, nv_cons, nv_cons, this, pow64]
   simp only [List.getD_cons_succ]
   grind
def wd (n : Nat) : List Int := if n = 0 then [] else (n % 18446744073709551616 : Nat) :: wd (n / 18446744073709551616)
termination_by n
decreasing_by exact Nat.div_lt_self (by omega) (by omega)
theorem wd_zero : wd 0 = [] := by rw [wd]; simp
theorem wd_pos {n : Nat} (h : n ≠ 0) : wd n = ((n % 18446744073709551616 : Nat) : Int) :: wd (n / 18446744073709551616) := by rw [wd, if_neg h]
theorem wd_ws (n : Nat) : Ws (wd n) := by
 induction n using Nat.strongRecOn with
 | _ n ih =>
  by_cases h : n = 0
  ·rw [h, wd_zero]; exact Ws.nil
  ·rw [wd_pos h]
   exact Ws.cons (by omega) (by omega) (ih _ (Nat.div_lt_self (by omega) (by omega)))
theorem nv_wd (n : Nat) : nv (wd n) = n := by
 induction n using Nat.strongRecOn with
 | _ n ih =>
  by_cases h : n = 0
  ·rw [h, wd_zero]; rfl
  ·rw [wd_pos h, nv_cons, ih _ (Nat.div_lt_self (by omega) (by omega))]
   omega
def strip : List Int → List Int
 | [] => []
 | x :: xs => match strip xs with
  | [] => if x = 0 then [] else [x]
  | y :: ys => x :: y :: ys
def wn : Nat → Int → List Int
 | 0, _ => []
 | k + 1, n => n % 18446744073709551616 :: wn k (n / 18446744073709551616)
def wsB (xs : List Int) : Bool := xs.all fun x => decide (0 ≤ x) && decide (x < 18446744073709551616)
def u64B (x : Int) : Bool := decide (0 ≤ x) && decide (x < 18446744073709551616)
def bitsN (n : Int) : Int := if n ≤ 0 then 0 else (Nat.log2 n.toNat : Int) + 1
theorem wsB_iff {xs : List Int} : wsB xs = true ↔ Ws xs := by simp [wsB, Ws, List.all_eq_true]
theorem u64B_iff {x : Int} : u64B x = true ↔ 0 ≤ x ∧ x < 18446744073709551616 := by simp [u64B]
theorem strip_cons (x : Int) (xs : List Int) : strip (x :: xs) = if strip xs = [] then (if x = 0 then [] else [x]) else x :: strip xs := by
 rw [strip]
 split
 ·rename_i h; rw [h]; simp
 ·rename_i y ys h; rw [h]; simp
theorem strip_snoc_zero (xs : List Int) : strip (xs ++ [0]) = strip xs := by
 induction xs with
 | nil => simp [strip]
 | cons x xs ih => rw [List.cons_append, strip_cons, strip_cons, ih]
theorem strip_snoc_ne (xs : List Int) {x : Int} (h : x ≠ 0) : strip (xs ++ [x]) = xs ++ [x] := by
 induction xs with
 | nil => simp [strip, h]
 | cons y xs ih => rw [List.cons_append, strip_cons, ih]; simp
theorem strip_take (xs : List Int) : strip xs = xs.take (strip xs).length := by
 induction xs with
 | nil => rfl
 | cons x xs ih =>
  rw [strip_cons]
  split
  ·split <;> simp
  ·rw [List.length_cons, List.take_succ_cons, ← ih]
theorem strip_length_le (xs : List Int) : (strip xs).length ≤ xs.length := by
 rw [strip_take, List.length_take]; omega
theorem nv_strip (xs : List Int) : nv (strip xs) = nv xs := by
 induction xs with
 | nil => rfl
 | cons x xs ih =>
  rw [strip_cons, nv_cons, ← ih]
  split
  ·rename_i h
   rw [h] at ih ⊢
   have h9 : nv xs = 0 := ih.symm
   split
   ·rename_i h1
    rw [nv_nil]; omega
   ·rw [nv_cons, nv_nil]
  ·rfl
theorem Ws.strip {xs : List Int} (h : Ws xs) : Ws (PrintWords.strip xs) := by rw [strip_take]; exact h.take _
theorem wd_eq_nil {n : Nat} : wd n = [] ↔ n = 0 := by
 constructor
 ·intro h
  by_cases h0 : n = 0
  ·exact h0
  ·rw [wd_pos h0] at h; cases h
 ·rintro rfl; exact wd_zero
theorem strip_wd (n : Nat) : strip (wd n) = wd n := by
 induction n using Nat.strongRecOn with
 | _ n ih =>
  by_cases h : n = 0
  ·rw [h, wd_zero]; rfl
  ·rw [wd_pos h, strip_cons, ih _ (Nat.div_lt_self (by omega) (by omega))]
   split
   ·rename_i h1
    rw [wd_eq_nil] at h1
    rw [if_neg (by omega), h1, wd_zero]
   ·rfl
theorem wd_nv {xs : List Int} (h : Ws xs) : wd (nv xs).toNat = strip xs := by
 induction xs with
 | nil => rw [strip]; exact wd_zero
 | cons x xs ih =>
  have h0 := nv_nonneg h.tail
  have h1 := h.head
  have h2 := ih h.tail
  rw [nv_cons, strip_cons]
  have e1 : (x + 18446744073709551616 * nv xs).toNat % 18446744073709551616 = x.toNat := by omega
  have e2 : (x + 18446744073709551616 * nv xs).toNat / 18446744073709551616 = (nv xs).toNat := by omega
  by_cases hz : x + 18446744073709551616 * nv xs = 0
  ·have hx : x = 0 := by omega
   have hn : nv xs = 0 := by omega
   rw [hn] at h2
   rw [hz, ← h2, hx]
   simp [wd_zero]
  ·rw [wd_pos (by omega), e1, e2, h2]
   by_cases hs : strip xs = []
   ·have hn : nv xs = 0 := by rw [← nv_strip, hs]; rfl
    rw [if_pos hs, hs, if_neg (by omega)]
    congr 1
    omega
   ·rw [if_neg hs]
    congr 1
    omega
theorem wn_length (k : Nat) (n : Int) : (wn k n).length = k := by
 induction k generalizing n with
 | zero => rfl
 | succ k ih => rw [wn, List.length_cons, ih]
theorem wn_ws (k : Nat) (n : Int) : Ws (wn k n) := by
 induction k generalizing n with
 | zero => exact Ws.nil
 | succ k ih => rw [wn]; exact Ws.cons (by omega) (by omega) (ih _)
theorem nv_wn (k : Nat) {n : Int} (h0 : 0 ≤ n) (h1 : n < 2 ^ (64 * k)) : nv (wn k n) = n := by
 induction k generalizing n with
 | zero => simp at h1; rw [wn, nv]; omega
 | succ k ih =>
  rw [pow64] at h1
  rw [wn, nv_cons, ih (by omega) (by omega)]
  omega
theorem nv_inj {xs ys : List Int} (hx : Ws xs) (hy : Ws ys) (hl : xs.length = ys.length) (h : nv xs = nv ys) : xs = ys := by
 induction xs generalizing ys with
 | nil => cases ys with
  | nil => rfl
  | cons y ys => simp at hl
 | cons x xs ih => cases ys with
  | nil => simp at hl
  | cons y ys =>
   have h1 := hx.head
   have h2 := hy.head
   rw [nv_cons, nv_cons] at h
   have e1 : x = y := by omega
   have e2 : nv xs = nv ys := by omega
   rw [e1, ih hx.tail hy.tail (by simpa using hl) e2]
theorem eq_wn {xs : List Int} (h : Ws xs) {k : Nat} (hl : xs.length = k) : xs = wn k (nv xs) := by
 refine nv_inj h (wn_ws _ _) (by rw [wn_length, hl]) ?_
 rw [nv_wn k (nv_nonneg h) (by rw [← hl]; exact nv_lt h)]
theorem strip_length_pos {xs : List Int} (h : Ws xs) : 0 < (strip xs).length ↔ 0 < nv xs := by
 have h0 := nv_nonneg h
 constructor
 ·intro hp
  rcases Int.lt_or_eq_of_le h0 with h1 | h1
  ·exact h1
  ·exfalso
   have h2 := wd_nv h
   rw [← h1] at h2
   simp [wd_zero] at h2
   rw [h2] at hp
   simp at hp
 ·intro hp
  rcases Nat.eq_zero_or_pos (strip xs).length with h1 | h1
  ·rw [← nv_strip, List.eq_nil_of_length_eq_zero h1] at hp
   simp [nv] at hp
  ·exact h1
theorem nv_take_succ {xs : List Int} {i : Nat} (h : i < xs.length) : nv (xs.take (i + 1)) = nv (xs.take i) + xs.getD i 0 * 2 ^ (64 * i) := by
 rw [List.take_succ_eq_append_getElem h, nv_append, List.length_take, Nat.min_eq_left (by omega), List.getD_eq_getElem?_getD, List.getElem?_eq_getElem h]
 simp [nv]
 rw [Int.mul_comm]
theorem cut_to3 {P : Program} (t e : TypeId) (kh kh' : IntKind) {i : TypeInfo} (ht : P.underlying t = some (.slice e)) (hi : P.info? e = some i) (A : Option Addr) (n c : Nat) (j : Int) (h0 : 0 ≤ j) (hm : j ≤ n) (hc : n ≤ c) :
  ∀ W : World, (Instr.slice t (.slice A n c) none (some (.int kh j)) (some (.int kh' j))).run P W = .ok (.slice A j.toNat j.toNat) W := by
 intro W
 have ha : (A.map fun x => x.add 0) = A := by cases A <;> simp [Addr.add]
 have h1 : j ≤ (c : Int) := by omega
 have h2 : ¬ (max j 0 < j) := by omega
 simp [Instr.slice, Instr.sliceBounds, Instr.sliceBound, asIntOf, run_underlying ht, sizeOf, typeInfo, hi, h0, h1, h2, ha]
theorem own_lower {w : World} {base n m c size : Nat} {e : TypeId} {A : Option Addr} {xs : List Value} (h : ownsRow2 w base e size (.slice A n c) n xs) (h1 : n ≤ m) (h2 : m ≤ c) : ownsRow2 w base e size (.slice A n m) n xs := by
 refine ⟨h.1, ?_⟩
 rcases h.2 with ⟨he, h0⟩ | ⟨g, cap, cur, he, hb, hh, hnc, hcm, hcs, ht⟩
 ·injection he with ha _ hc
  subst ha; subst hc
  exact .inl ⟨by rw [h0, show m = 0 by omega], h0⟩
 ·injection he with ha _ hc
  subst ha; subst hc
  exact .inr ⟨g, m, cur, rfl, hb, hh, h1, by omega, Nat.le_trans (Nat.mul_le_mul_right _ h2) hcs, ht⟩
theorem Kd.R_take3 {α : Type} {d : Kd α} {e m n c : Nat} {w : World} {base : Nat} {ok : Nat → Prop} {A : Option Addr} {xs : List α} (h : d.R e w base ok (.slice A n c) xs) (hm : m ≤ xs.length) : d.R e w base ok (.slice A m m) (xs.take m) := by
 obtain ⟨A', c', he, hc, _⟩ := Kd.R_reads h
 injection he with ha hn hc'
 subst ha; subst hn; subst hc'
 obtain ⟨h0, inner, ho, hr⟩ := Kd.R_take h hm
 have hl : (xs.take m).length = m := by rw [List.length_take]; omega
 rw [hl] at ho
 have hb : (Value.slice A m c).ownBlock = (Value.slice A m m).ownBlock := by cases A <;> rfl
 refine ⟨fun k hk => h0 k (by rw [hb]; exact hk), inner, ?_, ?_⟩
 ·rw [hl]; exact own_lower ho (Nat.le_refl _) (by omega)
 ·rw [hb] at hr; exact hr
namespace Kd
section
variable {P : Program} {ops : Array Oper} {rest : List Oper} {o : Oper} {a : Act} {Q : Exit → Act → World → Prop} {α : Type}
theorem R_copy_at {enc : α → Value} {h1 : ∀ x, (enc x).oneCell' = true} (d : α) {w0 W : World} (base : Nat) (hgd : o.guard = none) (s x : Operand) (t t' e : TypeId)
  (ho : o.op = .call { callee := .builtin .copy, args := #[s, x], argTypes := #[t, t'] }) (ht : P.underlying t = some (.slice e)) (hinfo : (P.info? e).map (·.size) = some 1)
  (A' : Option Addr) (c' q n : Nat) (xs ys : List α) (hn : xs.length = n) (A : Option Addr) (m c : Nat) (ok : Nat → Prop) (Aq : Option Addr) (hAq : Aq = if c' = q then A' else A'.map (·.add (q * 1))) (hs : a.eval s = .slice Aq (n - q) (c' - q)) (hx : a.eval x = .slice A m c) (hq : q ≤ n)
  (HO : (scalar enc h1).R e W base ok (.slice A' n c') xs) (HR : (scalar enc h1).C W A m ys) (HB : Below base w0 W) (hbase : base ≤ W.heap.size)
  (h : ∀ w1, (scalar enc h1).R e w1 base ok (.slice A' n c') (xs.take q ++ (ys.take (min m (n - q)) ++ xs.drop (q + min m (n - q)))) → Below base w0 w1 → W.grownBy w1 (Value.slice A' n c').ownBlock → wpList P ops Q rest (a.put o.dst (.int .i64 ((min m (n - q) : Nat) : Int))) w1) :
  wpList P ops Q (o :: rest) a W := by
 subst hn
 subst hAq
 have hR := reads_of_C (enc := enc) (d := d) (h1 := h1) HR
 have hm : ys.length = m := hR.1
 have hown := own_of_R HO
 have fin : ∀ w1, (Builtin.copy_ #[t, t'] o.type #[.slice (if c' = q then A' else A'.map (·.add (q * 1))) (xs.length - q) (c' - q), .slice A m c]).run P W = .ok (goInt ((min m (xs.length - q) : Nat) : Int)) w1 → (scalar enc h1).R e w1 base ok (.slice A' xs.length c') (xs.take q ++ (ys.take (min m (xs.length - q)) ++ xs.drop (q + min m (xs.length - q)))) → W.grownBy w1 (Value.slice A' xs.length c').ownBlock → wpList P ops Q (o :: rest) a W := by
  intro w1 hr hrow hg
  refine wpList_plain hgd fun K hK => ?_
  unfold Oper.wp execOp
  simp only [ho, resolve, invoke, builtin, Sem.run_bind, Sem.run_pure, Result.andThen_ok, List.map_toArray, List.map_cons, List.map_nil, hs, hx, hr]
  exact hK _ _ (h w1 hrow (HB.grown hg hbase (own_base hown)) hg)
 rcases Nat.eq_zero_or_pos (min m (xs.length - q)) with h0 | hp
 ·refine fin W ?_ (by rw [h0, List.take_zero, Nat.add_zero, List.nil_append, List.take_append_drop]; exact HO) (World.grownBy.refl W _)
  rw [h0]
  exact run_copy_none W t t' o.type e _ A (xs.length - q) _ m c ht hinfo h0
 ·obtain ⟨ad, hA, hc⟩ := hR.2.2 (by omega)
  rcases hown.2 with ⟨_, hx0⟩ | ⟨g, cap, cur, hv, hb, ⟨fz, hh, hfz⟩, hnc, hcm, hcs, htake⟩
  ·omega
  injection hv with hv1 _ hv3
  subst hv1
  subst hv3
  have hcs1 : c' ≤ cur.size := by omega
  have hne : c' ≠ q := by omega
  rw [if_neg hne] at fin
  have hsrc : ∀ j u, (encs enc (ys.take (min m (xs.length - q))))[j]? = some u → W.cell? (ad.add j) = some u := by
   intro j u hu
   have hj : j < (ys.take (min m (xs.length - q))).length := by
    rcases Nat.lt_or_ge j (ys.take (min m (xs.length - q))).length with h | h
    ·exact h
    ·rw [List.getElem?_eq_none (by rw [encs_length]; exact h)] at hu
     cases hu
   have hjm : j < min m (xs.length - q) := by rw [List.length_take] at hj; omega
   rw [encs_get (d := d) _ j hj] at hu
   rw [hc j (by omega), ← hu]
   simp [List.getD_eq_getElem?_getD, hjm]
  have hkl : (encs enc (ys.take (min m (xs.length - q)))).length = min m (xs.length - q) := by rw [encs_length, List.length_take]; omega
  have hr := run_copy_cells (P := P) W t t' o.type e g (0 + q * 1) (xs.length - q) (c' - q) ad m c (encs enc (ys.take (min m (xs.length - q)))) ht hinfo (by rw [hkl]) hsrc
   (fun j hj => by rw [cell_of_row W g _ cur e fz hh]; simp; omega) (fun j hj => fine_frozen hh hfz (by omega)) (by intro u hu; simp only [encs, List.mem_map] at hu; obtain ⟨q, _, rfl⟩ := hu; exact h1 q)
  obtain ⟨cur', h3, h4, h5⟩ := heap_puts (encs enc (ys.take (min m (xs.length - q)))) (0 + q * 1) W cur hh (by rw [hkl]; omega)
  obtain ⟨s1, s2, s3, s4⟩ := setCells_same g (encs enc (ys.take (min m (xs.length - q)))) (0 + q * 1) W
  refine fin _ (by rw [hA]; simp only [Option.map_some]; rw [add_at, hr, hkl]) (R_of_own ?_ HO.1) ⟨s1, s2, s3, by rw [s4]; exact Nat.le_refl _, fun k _ hk => setCells_far _ _ k (fun he => hk (by rw [he]; simp [Value.ownBlock]))⟩
  have hln : (xs.take q ++ (ys.take (min m (xs.length - q)) ++ xs.drop (q + min m (xs.length - q)))).length = xs.length := by
   rw [List.length_append, List.length_append, List.length_take, List.length_take, List.length_drop]
   omega
  rw [hln]
  refine ⟨by rw [encs_length, hln, Nat.mul_one], .inr ⟨g, c', cur', rfl, hb, ⟨fz, h3, by rw [h4]; exact hfz⟩, hnc, hcm, by rw [h4]; exact hcs, ?_⟩⟩
  have htk : cur.toList.take xs.length = encs enc xs := by rw [← htake, Nat.mul_one]
  have hd : encs enc (xs.drop (q + min m (xs.length - q))) = (encs enc xs).drop (q + min m (xs.length - q)) := by simp [encs, List.map_drop]
  have ht' : encs enc (xs.take q) = (encs enc xs).take q := by simp [encs, List.map_take]
  rw [h5, hkl, Nat.zero_add, Nat.mul_one, Nat.mul_one, encs_append, encs_append, List.append_assoc, hd, ht', ← htk, List.take_take, Nat.min_eq_left hq, List.drop_take]
  have hql : (cur.toList.take q).length = q := by rw [List.length_take, Array.length_toList]; omega
  rw [List.take_append, hql, List.take_of_length_le (by omega), List.take_append, hkl, List.take_of_length_le (l := encs enc _) (by rw [hkl]; omega)]
  congr 3
  omega
end
end Kd
section
variable {P : Program} {ops : Array Oper} {rest : List Oper} {o : Oper} {a : Act} {Q : Exit → Act → World → Prop}
end
section
variable {q : IntKind} {U v : Value} {Us xs : List Int} {j e base : Nat} {w W w1 : World} {ok ok' : Nat → Prop}
end
open Go
section
variable {P : Program} {a : Act} {w : World} {Q : Exit → Act → World → Prop}
end
end Go.Proofs.YtjknfppbebfhnaaDoorW.PrintWords
